/-
  Walk: forms.made at a function that has captured one variable.
  Walks: forms.Mirror and the function that it hands to forms.made.
  Walks: slices.Index, forms.Rename and the function that it hands to forms.made.
  Plain mathematics: twins of a rule with the radius 0, how short twins are at least, and the determined result of twins.Finite.
  Walk: twins.single.
  Walks: slices.DeleteFunc (its contract off the shelf) at the function that pairs.Apart hands it.
  Plain mathematics: among the pairs of equal nodes there is a way from each to each.
  Walk: graph's search begins a vertex.
  Walk: graph's search ends a vertex.
  Walk: graph's search goes through all that a vertex reaches.
  Plain mathematics: numbers given one after another, as new ones come.
  A map from ints to ints that the call made: what is looked up, stored; how many keys it has (the kit's laws on maps, at these types).
-/
import Derived.Test.YtmhiambkfdkkbaaGreatDoorMTc6
import Derived.Deep.DeepCutAuto
import Derived.Ground.SlgfProg
import Derived.Shelf.SlGeneric
import Derived.Shelf.SlicesE.DeleteFunc
import Derived.Lib.SliceRun
import Derived.Deep.LoopGhost
import Derived.Maps.OwnSet
namespace Go.Proofs.YtmhiambkfdkkbaaGreatDoor
open Go.RowKit
set_option maxRecDepth 100000

set_option maxHeartbeats 800000 in
theorem made_one0 (K R F : Nat) (c1 : Value) (s : List Int → Int) (w : World) (hk1 : 1 ≤ K) (hk4 : K ≤ 4) (hR : R ≤ 3)
    (eg : ∀ args w, (callFunc F args).run Tryz.prog w = .ok (.enter F args) w)
    (hF : ∀ (v : Value) (ys : List Int) (w' : World), Below w.heap.size w w' → IntsAt w' v ys → Syms K ys → ys.length = 2 * R + 1 → Calls Tryz.prog F #[v, c1] w' (Ret1 (fun x _ => x = .int .i64 (s ys)) w')) :
    Calls Tryz.prog 172 #[.int .i64 K, .int .i64 R, .func (.func F) #[] #[c1]] w (Ret1 (fun x w' => ∃ a n c, x = .agg #[.int .i64 K, .int .i64 R, .slice a n c] ∧ OwnI w.heap.size w' (.slice a n c) (madeP K (2 * R + 1) s (pw K (2 * R + 1)))) w) := by
  have hpl := pw_le hk1 hk4 (i := 2 * R + 1) (by omega)
  replace hF := Lib.hid hF
  go_enter Tryz.func172, Tryz.ntmps172
  go_wp2_with fail
  refine (size_ok K R _ hk1 hk4 hR).mono ?_
  rintro e w' ⟨rfl, rfl⟩
  go_wp2_with fail
  have hb0 := belowAlloc w (.cells #[.int .i64 0, .int .i64 0, .slice none 0 0] 24)
  obtain ⟨tv, w1, hmk, ho1, hb1⟩ := run_makeI ((pw K (2 * R + 1) : Nat) : Int) (pw K (2 * R + 1)) (w.alloc (.cells #[.int .i64 0, .int .i64 0, .slice none 0 0] 24)) rfl (by omega)
  obtain ⟨ta, tn, tc, rfl⟩ := ho1.at.shape
  rw [hmk]
  simp only [Result.andThen]
  clear hmk
  generalize hN : 2 * R + 1 = N at *
  go_wp2_with fail
  obtain ⟨wv, w2, hmk2, ho2, hb2⟩ := run_makeI (2 * (R : Int) + 1) N (w1.alloc (.cells #[.int .i64 K, .int .i64 R, .slice ta tn tc] 24)) (by omega) (by omega)
  obtain ⟨wa, wn, wc, rfl⟩ := ho2.at.shape
  rw [hmk2]
  simp only [Result.andThen]
  clear hmk2
  obtain ⟨z0, z1, z2, -, -, -⟩ := cells3 hb2
  have lt := (ho1.at.len)
  rw [List.length_replicate] at lt
  have hN7 : N ≤ 7 := by omega
  replace hN := Lib.hid hN
  have ltb : ∀ k, (Value.slice ta tn tc).ownBlock = some k → k < w1.heap.size := fun k hk => (ho1.lt k hk).2
  have lwn := ho2.at.len
  rw [List.length_replicate] at lwn
  have ho1' := Lib.hid ((ho1.alloc (.cells #[.int .i64 K, .int .i64 R, .slice ta tn tc] 24)).below hb2)
  have zz := Lib.hid (And.intro z0 (And.intro z1 z2))
  have hbw := Lib.hid (hb1.trans ((Below.step (belowAlloc w1 (.cells #[.int .i64 K, .int .i64 R, .slice ta tn tc] 24)) hb2).mono hb1.size))
  replace ho2 := Lib.hid ho2
  replace ltb := Lib.hid ltb
  have hsz1 := hb1.size
  simp at hsz1
  have hM : pw K N = pw K N := rfl
  clear hM
  go_wp2
  go_loopw [32] (fun i wr => ∃ m : Nat, m ≤ pw K N ∧ i = .int .i64 m ∧ OwnI (w.heap.size + 1) wr (.slice ta tn tc) (madeP K N s m ++ List.replicate (pw K N - m) 0) ∧ (∃ p : List Int, p.length = N ∧ OwnI (w1.heap.size + 1) wr (.slice wa wn wc) p) ∧
      (wr.cell? ⟨w1.heap.size, 0, none⟩ = some (.int .i64 K) ∧ wr.cell? ⟨w1.heap.size, 1, none⟩ = some (.int .i64 R) ∧ wr.cell? ⟨w1.heap.size, 2, none⟩ = some (.slice ta tn tc)) ∧
      Below (w.heap.size + 1) (w.alloc (.cells #[.int .i64 0, .int .i64 0, .slice none 0 0] 24)) wr) (fun i _ => pw K N - (intOf i).toNat)
  case atStart => exact ⟨0, by omega, rfl, by simpa [madeP] using ho1'.out, ⟨List.replicate N 0, by simp, by simpa using ho2.out⟩, zz.out, by simpa using hbw.out⟩
  case round =>
    obtain ⟨m, hm, rfl, hT, ⟨p, hp, hP⟩, hz, hbO⟩ := hrel
    obtain ⟨wo, rfl⟩ : ∃ wo : World, wo = wr := ⟨_, rfl⟩
    replace hz := Lib.hid hz
    replace hT := Lib.hid hT
    by_cases hml : m < pw K N
    · have hsz2 : w1.heap.size < wo.heap.size := World.block_lt_of_cell? _ _ hz.out.1
      have hK0 : ((K : Int) == 0) = false := by rw [beq_eq_false_iff_ne]; omega
      have hK1 : ¬ (K : Int) = 0 := by omega
      have hK2 : (0 : Int) < K := by omega
      go_wp2
      go_loopw [12, 38] (fun x i wr => ∃ j : Nat, j ≤ N ∧ i = .int .i64 j ∧ x = .int .i64 (m / pw K j : Nat) ∧ OwnI (w1.heap.size + 1) wr (.slice wa wn wc) (p.take (N - j) ++ (digs K N m).drop (N - j)) ∧ Below (w1.heap.size + 1) wo wr) (fun _ i _ => N - (intOf i).toNat)
      case atStart => exact ⟨0, by omega, rfl, by simp [pw], by rw [Nat.sub_zero, List.drop_of_length_le (by rw [digs_length]; exact Nat.le_refl _), List.append_nil, List.take_of_length_le (by omega)]; exact hP, Below.refl _ _⟩
      case round =>
        obtain ⟨j, hj, rfl, rfl, hO, hbI⟩ := hrel
        obtain ⟨wi, rfl⟩ : ∃ wi : World, wi = wr := ⟨_, rfl⟩
        by_cases hjl : j < N
        · have hXl : (p.take (N - j) ++ (digs K N m).drop (N - j)).length = N := by simp [digs_length]; omega
          have i1 : ∀ w', (Instr.indexAt 22 (.slice wa wn wc) (.int .i64 ((N : Int) - 1 - (j : Int)))).run Tryz.prog w' = .ok (.pointer (some (valAt (.slice wa wn wc) (N - 1 - j)))) w' := by
            intro w'
            have := hO.at.idxI ((N : Int) - 1 - (j : Int)) (by omega) (by rw [hXl]; omega) w'
            rwa [show ((N : Int) - 1 - (j : Int)).toNat = N - 1 - j by omega] at this
          have c1 := hO.at.cellD (N - 1 - j) (by rw [hXl]; omega)
          have f1 := hO.frz (N - 1 - j) (by rw [hXl]; omega)
          have hS := hO.set (N - 1 - j) (by rw [hXl]; omega) ((m / pw K j % K : Nat) : Int)
          have hbS := hO.setBelow hbI (N - 1 - j) (by rw [hXl]; omega) (.int .i64 ((m / pw K j % K : Nat) : Int))
          rw [digs_fill K N m j hjl p hp] at hS
          replace hS := Lib.hid hS
          replace hbS := Lib.hid hbS
          have hqd : m / pw K j / K = m / pw K (j + 1) := by rw [Nat.div_div_eq_div_mul, ← pw_succ]
          replace hqd := Lib.hid hqd
          have hql : m / pw K j ≤ 16384 := Nat.le_trans (Nat.div_le_self _ _) (by omega)
          generalize (p.take (N - j) ++ (digs K N m).drop (N - j)).getD (N - 1 - j) 0 = y at c1
          clear hXl hO
          generalize m / pw K j = q at *
          rw [Int.natCast_emod] at hS hbS
          have hd0 : 0 ≤ (q : Int) / (K : Int) := Int.ediv_nonneg (by omega) (by omega)
          have hd1 : (q : Int) / (K : Int) ≤ 16384 := by
            have h1 : q / K ≤ q := Nat.div_le_self _ _
            have h2 : q / K ≤ 16384 := by omega
            exact_mod_cast h2
          have hdw : IntKind.i64.wrap ((q : Int) / (K : Int)) = (q : Int) / (K : Int) := wrapK (by omega) (by omega)
          go_wp2
          go_roundw
          case rel => exact ⟨j + 1, by omega, by go_num, by rw [← hqd.out]; simp, hS.out, hbS.out⟩
          case measure => simp [intOf]; omega
        · have hjN : j = N := by omega
          subst hjN
          rw [Nat.sub_self, List.take_zero, List.drop_zero, List.nil_append] at hO
          have hbW : Below w.heap.size w wi := ((belowAlloc w _).trans (hbO.mono (by omega))).trans (hbI.mono (by omega))
          have hz2 := hbI.cell (p := ⟨w1.heap.size, 2, none⟩) (by simp)
          have hTl : m < (madeP K j s m ++ List.replicate (pw K j - m) (0 : Int)).length := by simp [madeP_length]; omega
          have hTi := hT.out.belowB hbI (fun k hk => by have := ltb.out k hk; omega)
          have i2 := hTi.at.idx m hTl
          have c2 := hTi.at.cellD m hTl
          have f2 := hTi.frz m hTl
          have b2 := hTi.at.blk m hTl
          have z2i := hz2.trans hz.out.2.2
          have zbi : (⟨w1.heap.size, 2, none⟩ : Addr).block < wi.heap.size := World.block_lt_of_cell? _ _ z2i
          generalize (madeP K j s m ++ List.replicate (pw K j - m) (0 : Int)).getD m 0 = o at c2
          replace hTi := Lib.hid hTi
          replace hO := Lib.hid hO
          replace hbW := Lib.hid hbW
          replace hTl := Lib.hid hTl
          clear hz2
          have hvb : (valAt (.slice ta tn tc) m).block ≠ w1.heap.size := by
            have := ltb.out _ (hT.out.toV.blkB m (by simpa using hTl.out)).1
            omega
          have hdl : m + 1 ≤ pw K j := hml
          go_wp2
          go_region_held3 (fun w' => w'.cell? ⟨w1.heap.size, 2, none⟩ = some (.slice ta tn tc)) (go_keep)
            (first | (refine (hF.out _ (digs K j m) _ (by first | exact hbW.out.drew | exact hbW.out) (by first | exact hO.out.at.drew | exact hO.out.at) (digs_syms hk1 _ _) (by rw [digs_length])).mono ?_; rintro e w5 ⟨x5, rfl, hb5, rfl⟩; have y1 := (hb5.cell zbi).trans z2i; have y2 := (hb5.cell b2).trans c2; have y3 := (hb5.frozen b2).trans f2; have bb : Below wi.heap.size wi w5 := ((Below.refl _ _).drew).trans hb5))
          have hT5 := (hTi.out.drew.below hb5).set m hTl.out (s (digs K j m))
          rw [madeP_set K j s m _ hml] at hT5
          have hO5 := (hO.out.drew.below hb5).setOther (hTi.out.drew.below hb5) (by
            intro e
            have e1 := (hT.out.toV.blkB m (by simpa using hTl.out)).1
            have e2 := (hO.out.lt _ (e.trans e1)).1
            have e3 := ltb.out _ e1
            omega) m hTl.out (.int .i64 (s (digs K j m)))
          have hB5 := ((hbO.trans (hbI.mono (by omega))).trans (bb.mono (by omega))).setCell ((hTi.out.blkB m hTl.out)) (.int .i64 (s (digs K j m)))
          have x0 := (World.cell?_setCell_far w5 (valAt (.slice ta tn tc) m) ⟨w1.heap.size, 0, none⟩ (.int .i64 (s (digs K j m))) hvb).trans (((bb.cell (p := ⟨w1.heap.size, 0, none⟩) zbi)).trans ((hbI.cell (p := ⟨w1.heap.size, 0, none⟩) (by simp)).trans hz.out.1))
          have x1 := (World.cell?_setCell_far w5 (valAt (.slice ta tn tc) m) ⟨w1.heap.size, 1, none⟩ (.int .i64 (s (digs K j m))) hvb).trans (((bb.cell (p := ⟨w1.heap.size, 1, none⟩) zbi)).trans ((hbI.cell (p := ⟨w1.heap.size, 1, none⟩) (by simp)).trans hz.out.2.1))
          have x2 := (World.cell?_setCell_far w5 (valAt (.slice ta tn tc) m) ⟨w1.heap.size, 2, none⟩ (.int .i64 (s (digs K j m))) hvb).trans y1
          have xx := Lib.hid (And.intro x0 (And.intro x1 x2))
          clear x0 x1 x2
          replace hT5 := Lib.hid hT5
          replace hO5 := Lib.hid hO5
          replace hB5 := Lib.hid hB5
          go_wp2
          go_roundw
          case rel => exact ⟨m + 1, by omega, by go_num, hT5.out, ⟨digs K j m, digs_length .., hO5.out⟩, xx.out, hB5.out⟩
          case measure => simp [intOf]; omega
    · obtain rfl : m = pw K N := by omega
      rw [Nat.sub_self, List.replicate_zero, List.append_nil] at hT
      obtain ⟨z0, z1, z2⟩ := hz.out
      obtain ⟨y0, y1, y2, f0, f1, f2⟩ := cells3 (w := w) (show Below (w.alloc (.cells #[.int .i64 0, .int .i64 0, .slice none 0 0] 24)).heap.size _ wo by simpa using hbO)
      replace hbO := Lib.hid hbO
      go_wp2
      refine bodyPost_ret (v := .agg #[.int .i64 K, .int .i64 R, .slice ta tn tc]) (by simp [results, Tryz.results172, go_sem, y0, y1, y2]) rfl ⟨_, rfl, ?_, ta, tn, tc, rfl, ?_⟩
      · exact (((belowAlloc w _).trans (hbO.out.mono (by omega))).setCell (by simp) _).setCell (by simp) _ |>.setCell (by simp) _
      · rw [hN.out]; exact (((hT.out.setBelowBase (a := ⟨w.heap.size, 0, none⟩) (by simp) _).setBelowBase (a := ⟨w.heap.size, 1, none⟩) (by simp) _).setBelowBase (a := ⟨w.heap.size, 2, none⟩) (by simp) _).mono (Nat.le_succ _)

theorem made_one (K R F : Nat) (c1 : Value) (s : List Int → Int) (w : World) (hk1 : 1 ≤ K) (hk4 : K ≤ 4) (hR : R ≤ 3) (Ri : Int) (hRi : Ri = R)
    (eg : ∀ args w, (callFunc F args).run Tryz.prog w = .ok (.enter F args) w)
    (hF : ∀ (v : Value) (ys : List Int) (w' : World), Below w.heap.size w w' → IntsAt w' v ys → Syms K ys → ys.length = 2 * R + 1 → Calls Tryz.prog F #[v, c1] w' (Ret1 (fun x _ => x = .int .i64 (s ys)) w')) :
    Calls Tryz.prog 172 #[.int .i64 K, .int .i64 Ri, .func (.func F) #[] #[c1]] w (Ret1 (fun x w' => ∃ a n c, x = .agg #[.int .i64 K, .int .i64 R, .slice a n c] ∧ OwnI w.heap.size w' (.slice a n c) (madeP K (2 * R + 1) s (pw K (2 * R + 1)))) w) := by
  subst hRi
  exact made_one0 K R F c1 s w hk1 hk4 hR eg hF
end Go.Proofs.YtmhiambkfdkkbaaGreatDoor

namespace Go.Proofs.YtmhiambkfdkkbaaGreatDoor
open Go.RowKit
set_option maxRecDepth 100000

theorem madeP_mir {K n : Nat} {T : List Int} (h : T.length = pw K n) : madeP K n (fun ys => T.getD (numW K ys.reverse) 0) (pw K n) = mirT K n T := by
  rw [madeP, mirT, h]

end Go.Proofs.YtmhiambkfdkkbaaGreatDoor

namespace Go.Proofs.YtmhiambkfdkkbaaGreatDoor
open Go.RowKit
set_option maxRecDepth 100000

/-- The first place of x. -/
def invP (p : List Int) (x : Int) : Int := idxOf (fun y => x == y) p

theorem index_any (v : Value) (xs : List Int) (x : Int) (w : World) (h : IntsAt w v xs) :
    Calls Tryz.prog 103 #[v, .int .i64 x] w fun e w' => e = .returned (.int .i64 (invP xs x)) ∧ w = w' := by
  have hlen := h.len
  have hm := h.len_le
  replace h := Lib.hid h
  go_enter Tryz.func103, Tryz.ntmps103
  go_wp2
  go_loop [8] (fun i => ∃ j : Nat, j ≤ xs.length ∧ i = .int .i64 j ∧ ∀ t (ht : t < xs.length), t < j → (x == xs[t]) = false) (fun i => xs.length - (intOf i).toNat)
  case atStart => exact ⟨0, by omega, rfl, fun t ht h => by omega⟩
  case round =>
    obtain ⟨j, hj, rfl, hne⟩ := hrel
    by_cases hjl : j < xs.length
    · have i1 := h.out.idx j hjl
      have c1 := h.out.cell j hjl
      by_cases he : (x == xs[j]) = true
      · have hr : Hid (invP xs x = j) := Lib.hid (idxOf_at j hjl he (fun t ht htj => hne t ht htj))
        have he' : x = xs[j] := by simpa using he
        rw [← he'] at c1
        clear he he'
        replace hne := Lib.hid hne
        go_wp2
        go_ret
        exact ⟨ret_int hr.out.symm, rfl⟩
      · have hn : Hid (∀ t (ht : t < xs.length), t < j + 1 → (x == xs[t]) = false) := Lib.hid (fun t ht htj => by
          by_cases e : t = j
          · subst e; simpa using he
          · exact hne t ht (by omega))
        have he' : (x == xs[j]) = false := by simpa using he
        obtain ⟨y, hy⟩ : ∃ y, y = xs[j] := ⟨_, rfl⟩
        rw [← hy] at c1 he'
        clear he hne hy
        go_wp2
        go_round
        case rel => exact ⟨j + 1, by omega, by go_num, hn.out⟩
        case measure => simp [intOf]; omega
    · have hr : Hid (invP xs x = -1) := Lib.hid (idxOf_neg (fun y hy => by
        obtain ⟨t, ht, rfl⟩ := List.mem_iff_getElem.1 hy
        exact hne t ht (by omega)))
      replace hne := Lib.hid hne
      go_wp2
      go_ret
      exact ⟨ret_int hr.out.symm, rfl⟩

/-- The names' list is one: each symbol once. -/
def permOk (K : Nat) (p : List Int) : Bool := decide (p.length = K) && decide (srt p = (List.range K).map (fun i : Nat => (i : Int)))
theorem srt_perm (p : List Int) : (srt p).Perm p := List.mergeSort_perm ..
theorem permOk_mem {K : Nat} {p : List Int} (h : permOk K p = true) (x : Int) : x ∈ p ↔ 0 ≤ x ∧ x < K := by
  simp only [permOk, Bool.and_eq_true, decide_eq_true_eq] at h
  rw [← (srt_perm p).mem_iff, h.2, List.mem_map]
  constructor
  · rintro ⟨i, hi, rfl⟩; have := List.mem_range.1 hi; omega
  · intro hx; exact ⟨x.toNat, List.mem_range.2 (by omega), by omega⟩
theorem permOk_syms {K : Nat} {p : List Int} (h : permOk K p = true) : Syms K p := fun x hx => (permOk_mem h x).1 hx
theorem permOk_len {K : Nat} {p : List Int} (h : permOk K p = true) : p.length = K := by
  simp only [permOk, Bool.and_eq_true, decide_eq_true_eq] at h; exact h.1
theorem invP_spec {K : Nat} {p : List Int} (h : permOk K p = true) {x : Int} (h0 : 0 ≤ x) (h1 : x < K) : ∃ i : Nat, invP p x = i ∧ i < K ∧ p.getD i 0 = x := by
  have hm := (permOk_mem h x).2 ⟨h0, h1⟩
  obtain ⟨j, hj, hje⟩ := List.mem_iff_getElem.1 hm
  rcases idxOf_cases (fun y => x == y) p with ⟨_, hn⟩ | ⟨k, hk, hkl, hp, _⟩
  · have := hn _ (List.getElem_mem hj); rw [hje] at this; simp at this
  · refine ⟨k, hk, by rw [← permOk_len h]; exact hkl, ?_⟩
    simp only [List.getD, List.getElem?_eq_getElem hkl, Option.getD_some]
    exact (show x = p[k] by simpa using hp).symm

/-- The symbol of a window by the other names. -/
def renF (K : Nat) (T p ys : List Int) : Int := p.getD (T.getD (numW K (ys.map (invP p))) 0).toNat 0
def renT (K n : Nat) (T p : List Int) : List Int := madeP K n (renF K T p) (pw K n)
theorem invP_syms {K : Nat} {p ys : List Int} (h : permOk K p = true) (hy : Syms K ys) : Syms K (ys.map (invP p)) := by
  intro z hz
  obtain ⟨y, hyy, rfl⟩ := List.mem_map.1 hz
  obtain ⟨i, e, hi, _⟩ := invP_spec h (hy y hyy).1 (hy y hyy).2
  rw [e]; omega

theorem fill_front' (A B : List Int) (j : Nat) (hj : j < A.length) (hl : B.length = A.length) : (A.take j ++ B.drop j).set j A[j] = A.take (j + 1) ++ B.drop (j + 1) := by
  have e : (A.take j).length = j := by simp; omega
  rw [List.set_append_right _ _ (by omega), e, Nat.sub_self, List.drop_eq_getElem_cons (show j < B.length by omega), List.set_cons_zero, take_snoc A j hj, List.append_assoc, List.singleton_append]
theorem map_fill (f : Int → Int) (A B : List Int) (j : Nat) (hj : j < A.length) (hl : B.length = A.length) : ((A.map f).take j ++ B.drop j).set j (f A[j]) = (A.map f).take (j + 1) ++ B.drop (j + 1) := by
  have := fill_front' (A.map f) B j (by simpa using hj) (by simpa using hl)
  simpa using this

end Go.Proofs.YtmhiambkfdkkbaaGreatDoor

namespace Go.Proofs.YtmhiambkfdkkbaaGreatDoor

theorem invP_at {T : List Int} {j : Nat} (hj : j < T.length) : ∃ i : Nat, invP T (T.getD j 0) = i ∧ i ≤ j ∧ T.getD i 0 = T.getD j 0 := by
  have ej : T.getD j 0 = T[j] := by simp [List.getD, hj]
  rw [ej]
  rcases idxOf_cases (fun y => T[j] == y) T with ⟨_, hn⟩ | ⟨k, hk, hkl, hp, hm⟩
  · have := hn _ (List.getElem_mem hj); simp at this
  · refine ⟨k, hk, ?_, ?_⟩
    · apply Classical.byContradiction
      intro e
      have := hm j hj (by omega)
      simp at this
    · simp only [List.getD, List.getElem?_eq_getElem hkl, Option.getD_some]
      exact (show T[j] = T[k] by simpa using hp).symm
/-- The first symbol whose image is that of a lower one. -/
def SingleIs (T : List Int) (x y : Nat) : Prop := y < T.length ∧ invP T (T.getD y 0) = x ∧ x < y ∧ ∀ i, i < y → (i : Int) ≤ invP T (T.getD i 0)
theorem SingleIs.unique {T : List Int} {x y u v : Nat} (h : SingleIs T x y) (k : SingleIs T u v) : x = u ∧ y = v := by
  obtain ⟨h1, h2, h3, h4⟩ := h
  obtain ⟨k1, k2, k3, k4⟩ := k
  have e : y = v := by
    rcases Nat.lt_trichotomy y v with e | e | e
    · have := k4 y e; rw [h2] at this; omega
    · exact e
    · have := h4 v e; rw [k2] at this; omega
  subst e
  rw [h2] at k2
  exact ⟨by omega, rfl⟩
theorem img0_get {K : Nat} {T a : List Int} {i : Nat} (hi : i < a.length) : (imgP K 0 T a).getD i 0 = T.getD (a.getD i 0).toNat 0 := by
  rw [imgP_getD K 0 T a i (by omega)]
  have e : (a.drop i).take (2 * 0 + 1) = [a.getD i 0] := by
    rw [List.drop_eq_getElem_cons hi, show 2 * 0 + 1 = 0 + 1 from rfl, List.take_succ_cons, List.take_zero]
    simp [List.getD, hi]
  rw [e]
  simp [numW]
theorem SingleIs.twins {K : Nat} {T : List Int} {x y : Nat} (hK : T.length = K) (h : SingleIs T x y) : IsTwins K 0 T [(x : Int)] [(y : Int)] := by
  obtain ⟨h1, h2, h3, h4⟩ := h
  have sx : Syms K [(x : Int)] := fun z hz => by simp at hz; subst hz; omega
  have sy : Syms K [(y : Int)] := fun z hz => by simp at hz; subst hz; omega
  refine ⟨sx, sy, rfl, by simp; omega, by simp, by simp, by simp, ?_⟩
  have he : T.getD x 0 = T.getD y 0 := by
    obtain ⟨i, i1, i2, i3⟩ := invP_at h1
    rw [h2] at i1
    obtain rfl : x = i := by omega
    exact i3
  refine List.ext_getElem (by rw [imgP_length, imgP_length]; rfl) fun i h1 h2 => ?_
  rw [imgP_length] at h1
  have hi : i = 0 := by simp at h1; omega
  subst hi
  have g1 := img0_get (K := K) (T := T) (a := [(x : Int)]) (i := 0) (by simp)
  have g2 := img0_get (K := K) (T := T) (a := [(y : Int)]) (i := 0) (by simp)
  simp [List.getD] at g1 g2 he
  have l1 : 0 < (imgP K 0 T [(x : Int)]).length := by rw [imgP_length]; simp
  have l2 : 0 < (imgP K 0 T [(y : Int)]).length := by rw [imgP_length]; simp
  simp [List.getElem?_eq_getElem l1] at g1
  simp [List.getElem?_eq_getElem l2] at g2
  rw [g1, g2]
  exact he
theorem twins_pos {K R : Nat} {T a b : List Int} (h : IsTwins K R T a b) : 1 ≤ a.length := by
  have hl := h.len
  have hn := h.ne
  rcases a with _ | ⟨x, a⟩
  · cases b with
    | nil => exact absurd rfl hn
    | cons _ _ => simp at hl
  · simp
theorem no_single {K : Nat} {T : List Int} (hK : T.length = K) (h : ∀ i, i < T.length → (i : Int) ≤ invP T (T.getD i 0)) (a b : List Int) : ¬ IsTwins K 0 T a b := by
  intro t
  apply t.ne
  have hinj : ∀ i j, i < T.length → j < T.length → T.getD i 0 = T.getD j 0 → i ≤ j := fun i j hi hj e => by
    obtain ⟨p, p1, p2, _⟩ := invP_at hj
    have := h i hi
    rw [e, p1] at this
    omega
  refine List.ext_getElem t.len fun i h1 h2 => ?_
  have e := congrArg (fun l => l.getD i 0) t.img
  simp only [img0_get h1, img0_get h2] at e
  simp only [List.getD, List.getElem?_eq_getElem h1, List.getElem?_eq_getElem h2, Option.getD_some] at e
  have s1 := t.sa _ (List.getElem_mem h1)
  have s2 := t.sb _ (List.getElem_mem h2)
  have l1 := hinj a[i].toNat b[i].toNat (by omega) (by omega) e
  have l2 := hinj b[i].toNat a[i].toNat (by omega) (by omega) e.symm
  omega
/-- Twins are longer than both their ends. -/
theorem IsTwins.long {K R : Nat} {T a b : List Int} (h : IsTwins K R T a b) : 4 * R + 1 ≤ a.length := by
  apply Classical.byContradiction
  intro hl
  apply h.ne
  have hlen := h.len
  have hlow := h.low
  refine List.ext_getElem? fun i => ?_
  by_cases hi : i < 2 * R
  · have := congrArg (·[i]?) h.front
    simpa [List.getElem?_take, hi] using this
  · by_cases hi2 : i < a.length
    · have := congrArg (·[i - (a.length - 2 * R)]?) h.back
      simp only [List.getElem?_drop] at this
      rw [show a.length - 2 * R + (i - (a.length - 2 * R)) = i by omega, show b.length - 2 * R + (i - (a.length - 2 * R)) = i by omega] at this
      exact this
    · rw [List.getElem?_eq_none (by omega), List.getElem?_eq_none (by omega)]
/-- What twins.Finite tells, determined by the rule. -/
def FinIs (K R : Nat) (T a b : List Int) : Prop :=
  (R = 0 ∧ ∃ x y, SingleIs T x y ∧ a = [(x : Int)] ∧ b = [(y : Int)]) ∨
  (R ≠ 0 ∧ ∃ ws, MeetIs (pw K (2 * R)) (pairL K (pw K (2 * R)) T) ws ∧ a = alongW K (2 * R) (· / pw K (2 * R)) ws ∧ b = alongW K (2 * R) (· % pw K (2 * R)) ws)
theorem FinIs.unique {K R : Nat} {T a b c d : List Int} (h : FinIs K R T a b) (k : FinIs K R T c d) : a = c ∧ b = d := by
  rcases h with ⟨h0, x, y, h1, rfl, rfl⟩ | ⟨h0, ws, h1, rfl, rfl⟩ <;> rcases k with ⟨k0, u, v, k1, rfl, rfl⟩ | ⟨k0, us, k1, rfl, rfl⟩
  · obtain ⟨rfl, rfl⟩ := h1.unique k1; exact ⟨rfl, rfl⟩
  · exact absurd h0 k0
  · exact absurd k0 h0
  · obtain rfl := h1.unique k1; exact ⟨rfl, rfl⟩
end Go.Proofs.YtmhiambkfdkkbaaGreatDoor

namespace Go.Proofs.YtmhiambkfdkkbaaGreatDoor
open Go.RowKit
set_option maxRecDepth 100000

/-- What single leaves. -/
def SinglePost (w : World) (T : List Int) (x y : Value) (w' : World) : Prop :=
  (∃ a b, SingleIs T a b ∧ OwnI w.heap.size w' x [(a : Int)] ∧ OwnI w.heap.size w' y [(b : Int)] ∧ (x.ownBlock = none ∨ x.ownBlock ≠ y.ownBlock)) ∨
  (x = .slice none 0 0 ∧ y = .slice none 0 0 ∧ ∀ i, i < T.length → (i : Int) ≤ invP T (T.getD i 0))

set_option maxHeartbeats 1000000 in
theorem single_any (k R : Int) (va : Option Addr) (vn vc : Nat) (T : List Int) (w : World) (h : IntsAt w (.slice va vn vc) T) :
    Calls Tryz.prog 56 #[.agg #[.int .i64 k, .int .i64 R, .slice va vn vc]] w (Ret2 (SinglePost w T) w) := by
  have b0 := belowAlloc w (.cells #[.int .i64 k, .int .i64 R, .slice va vn vc] 24)
  have q : Box3 (w.alloc (.cells #[.int .i64 k, .int .i64 R, .slice va vn vc] 24)) w.heap.size (.int .i64 k) (.int .i64 R) (.slice va vn vc) := by simp [Box3, go_sem]
  have hlen := h.len
  have hm := h.len_le
  replace h := Lib.hid (h.below b0)
  obtain ⟨⟨y0, y1, y2⟩, -, -, -⟩ := q
  go_enter Tryz.func56, Tryz.ntmps56
  go_wp2
  obtain ⟨W, hW⟩ : ∃ W : World, W = w.alloc (.cells #[.int .i64 k, .int .i64 R, .slice va vn vc] 24) := ⟨_, rfl⟩
  rw [← hW] at y0 y1 y2 b0 h ⊢
  replace hW := Lib.hid hW
  go_loop [10] (fun jv => ∃ j : Nat, j ≤ T.length ∧ jv = .int .i64 j ∧ ∀ i, i < j → (i : Int) ≤ invP T (T.getD i 0)) (fun jv => T.length - (intOf jv).toNat)
  case atStart => exact ⟨0, by omega, rfl, fun i hi => absurd hi (Nat.not_lt_zero _)⟩
  case round =>
    obtain ⟨j, hj, rfl, hno0⟩ := hrel
    have hno : ∀ i, i < j → (i : Int) ≤ invP T (T.getD i 0) := fun i hi => by have := hno0 i hi; omega
    clear hno0
    replace hno := Lib.hid hno
    by_cases hjl : j < T.length
    · have i1 := fun w' => h.out.idx j hjl w'
      have c1 := h.out.cellD j hjl
      obtain ⟨z, hz⟩ : ∃ z, T.getD j 0 = z := ⟨_, rfl⟩
      rw [hz] at c1
      obtain ⟨p, hp1, hp2, hp3⟩ := invP_at hjl
      rw [hz] at hp1
      have hIx := index_any (.slice va vn vc) T z W h.out
      rw [hp1] at hIx
      generalize valAt (.slice va vn vc) j = ja at *
      have hjl2 := Lib.hid hjl
      replace hIx := Lib.hid hIx
      replace hz := Lib.hid hz
      replace hp1 := Lib.hid hp1
      replace hp3 := Lib.hid hp3
      by_cases hpj : p < j
      · have hpd : decide (p < j) = true := decide_eq_true hpj
        have hpd2 : decide ((p : Int) < (j : Int)) = true := decide_eq_true (by omega)
        have hpj2 := Lib.hid hpj
        go_wp2_with (go_at_call 103; refine hIx.out.mono ?_; rintro e w' ⟨rfl, rfl⟩)
        have bA := belowAlloc W (.cells #[.int .i64 p] 3)
        have hoA := OwnI.lit W.heap.size W (Nat.le_refl _) [(p : Int)] (by simp [maxLen]) #[.int .i64 (p : Int)] rfl 1 rfl
        have bB := belowAlloc (W.alloc (.cells #[.int .i64 p] 3)) (.cells #[.int .i64 j] 3)
        have hoB := OwnI.lit (W.alloc (.cells #[.int .i64 p] 3)).heap.size (W.alloc (.cells #[.int .i64 p] 3)) (Nat.le_refl _) [(j : Int)] (by simp [maxLen]) #[.int .i64 (j : Int)] rfl 1 rfl
        have hs := b0.size
        go_ret2
        refine ⟨_, _, rfl, b0.trans ((bA.trans (bB.mono bA.size)).mono hs), .inl ⟨p, j, ⟨hjl2.out, by rw [hz.out]; exact hp1.out, hpj2.out, hno.out⟩, (hoA.below bB).mono hs, (show OwnI W.heap.size _ (Value.slice (some ⟨W.heap.size + 1, 0, none⟩) 1 1) _ from (by simpa using hoB.mono bA.size)).mono hs, .inr ?_⟩⟩
        simp [Value.ownBlock]
      · have hpe : p = j := by omega
        subst hpe
        go_wp2_with (go_at_call 103; refine hIx.out.mono ?_; rintro e w' ⟨rfl, rfl⟩)
        have hj1 := hjl2.out
        go_round
        case measure => simp [intOf]; omega
        case rel =>
          refine ⟨p + 1, by omega, by go_num, fun i hi => ?_⟩
          by_cases e : i = p
          · subst e; rw [hz.out, hp1.out]; omega
          · exact hno.out i (by omega)
    · obtain rfl : j = T.length := by omega
      go_wp2
      go_ret2
      exact ⟨_, _, rfl, b0, .inr ⟨rfl, rfl, hno.out⟩⟩
end Go.Proofs.YtmhiambkfdkkbaaGreatDoor

namespace Go.Proofs.YtmhiambkfdkkbaaGreatDoor
open Go.RowKit Go.Shelf Go.Sort
set_option maxRecDepth 100000

def Tryz.laysDel_ren : Go.Shelf.Ren := ⟨fun | 10 => 68 | 6 => 99 | n => n, fun | 22 => 22 | 23 => 3 | 25 => 110 | 3 => 3 | 4 => 4 | 0 => 0 | n => n, fun | n => n⟩
theorem Tryz.laysDel : Go.Proofs.SlLaysH.n10 Tryz.prog Tryz.laysDel_ren := {
  mixed := by kernel_rfl
  f6 := ⟨Tryz.f99.name, by decide, Tryz.func99.trans (congrArg some (by kernel_rfl))⟩
  f10 := ⟨Tryz.f68.name, by decide, Tryz.func68.trans (congrArg some (by kernel_rfl))⟩
  t0 := Tryz.underlying0
  a0 := Tryz.isAgg0
  z0 := Tryz.sizeOf0
  v0 := Tryz.zeroValue0
  t3 := Tryz.underlying3
  a3 := Tryz.isAgg3
  z3 := Tryz.sizeOf3
  v3 := Tryz.zeroValue3
  t4 := Tryz.underlying4
  a4 := Tryz.isAgg4
  z4 := Tryz.sizeOf4
  v4 := Tryz.zeroValue4
  t22 := Tryz.underlying22
  a22 := Tryz.isAgg22
  z22 := Tryz.sizeOf22
  v22 := Tryz.zeroValue22
  a23 := Tryz.isAgg3
  z23 := Tryz.sizeOf3
  t25 := Tryz.underlying110
  a25 := Tryz.isAgg110
  z25 := Tryz.sizeOf110
  v25 := Tryz.zeroValue110 }

/-- Are quotient and rest one? -/
def dgI (N : Nat) (x : Int) : Bool := IntKind.i64.wrap (x.tdiv N) == x.tmod N
theorem dgI_aux (a c : Nat) (ha : a ≤ 100000) : (IntKind.i64.wrap (a : Int) == (c : Int)) = decide (a = c) := by
  rw [wrapK (x := (a : Int)) (by omega) (by omega)]
  by_cases e : a = c
  · simp [e]
  · rw [decide_eq_false e, beq_eq_false_iff_ne]; omega
theorem dgI_nat {N p : Nat} (hp : p ≤ 100000) : dgI N p = decide (Diag N p) := by
  unfold dgI
  have h1 : p / N ≤ 100000 := Nat.le_trans (Nat.div_le_self _ _) hp
  have e1 : (p : Int).tdiv (N : Int) = ((p / N : Nat) : Int) := by rw [Int.tdiv_eq_ediv_of_nonneg (by omega)]; simp
  have e2 : (p : Int).tmod (N : Int) = ((p % N : Nat) : Int) := by rw [Int.tmod_eq_emod_of_nonneg (by omega)]; simp
  rw [e1, e2, dgI_aux _ _ h1, decide_eq_decide]
  exact Iff.rfl

theorem apart1_any (x : Int) (b N : Nat) (w : World) (hN : 1 ≤ N) (hb : w.cell? ⟨b, 0, none⟩ = some (.int .i64 N)) :
    Calls Tryz.prog 69 #[.int .i64 x, .pointer (some ⟨b, 0, none⟩)] w (RetB (dgI N x) w) := by
  have h1 : ¬ (N : Int) = 0 := by omega
  have h2 : ((N : Int) == 0) = false := by rw [beq_eq_false_iff_ne]; omega
  have h3 : ¬ N = 0 := by omega
  go_enter Tryz.func69, Tryz.ntmps69
  go_upto_region 1 with fail
  refine wp_region_plan (fun w' => w'.cell? ⟨b, 0, none⟩ = some (.int .i64 N)) 7 [(0, true), (1, true), (2, true), (3, true), (4, true), (5, true), (6, true)] (by kernel_rfl) (by kernel_rfl) ?_
  have hS : w.drew.cell? ⟨b, 0, none⟩ = some (.int .i64 N) := hb
  refine headY (v := ?_) (some 4) rfl rfl (Or.inl ⟨by rfl, ?_⟩) hS ?_
  rotate_left
  · rintro W' s0; go_simp; try with_reducible rfl
  simp only [Act.put, List.setIfInBounds_toArray, List.set_cons_zero, List.set_cons_succ]
  refine headY (v := ?_) (some 5) rfl rfl (Or.inl ⟨by rfl, ?_⟩) hS ?_
  rotate_left
  · rintro W' s0; go_simp; try with_reducible rfl
  simp only [Act.put, List.setIfInBounds_toArray, List.set_cons_zero, List.set_cons_succ]
  refine headY (v := ?_) (some 6) rfl rfl (Or.inl ⟨by rfl, ?_⟩) hS ?_
  rotate_left
  · rintro W' s0; go_simp; try with_reducible rfl
  simp only [Act.put, List.setIfInBounds_toArray, List.set_cons_zero, List.set_cons_succ]
  refine headY (v := ?_) (some 7) rfl rfl (Or.inl ⟨by rfl, ?_⟩) hS ?_
  rotate_left
  · rintro W' s0; go_simp; try with_reducible rfl
  simp only [Act.put, List.setIfInBounds_toArray, List.set_cons_zero, List.set_cons_succ]
  refine headY (v := ?_) (some 8) rfl rfl (Or.inl ⟨by rfl, ?_⟩) hS ?_
  rotate_left
  · rintro W' s0; go_simp; try with_reducible rfl
  simp only [Act.put, List.setIfInBounds_toArray, List.set_cons_zero, List.set_cons_succ]
  refine headY (v := ?_) (some 9) rfl rfl (Or.inl ⟨by rfl, ?_⟩) hS ?_
  rotate_left
  · rintro W' s0; go_simp; try with_reducible rfl
  simp only [Act.put, List.setIfInBounds_toArray, List.set_cons_zero, List.set_cons_succ]
  refine headY (v := ?_) (some 10) rfl rfl (Or.inl ⟨by rfl, ?_⟩) hS ?_
  rotate_left
  · rintro W' s0; go_simp; try with_reducible rfl
  simp only [Act.put, List.setIfInBounds_toArray, List.set_cons_zero, List.set_cons_succ]
  refine head0 ?_
  simp only [List.drop_succ_cons, List.drop_zero]
  clear hS
  go_wp2
  refine NoPanic.normal ?_
  go_wp2
  go_ret
  exact ⟨1, rfl, rfl⟩
theorem eg_apart1 (args : Array Value) (w : World) : (callFunc 69 args).run Tryz.prog w = .ok (.enter 69 args) w := by kernel_rfl

theorem gives1 (x : Int) (b N : Nat) (w : World) (hN : 1 ≤ N) (hb : w.cell? ⟨b, 0, none⟩ = some (.int .i64 N)) : FnGives Tryz.prog 69 #[.pointer (some ⟨b, 0, none⟩)] #[.int .i64 x] (.bool (dgI N x)) w := by
  refine (apart1_any x b N w hN hb).mono ?_
  rintro e w' ⟨n, rfl, rfl⟩
  exact ⟨rfl, n, rfl⟩
theorem delete_own (B : Nat) (v : Value) (xs : List Int) (b N : Nat) (w : World) (h : OwnI B w v xs) (hx : xs ≠ []) (hN : 1 ≤ N) (hb : w.cell? ⟨b, 0, none⟩ = some (.int .i64 N)) (hne : v.ownBlock ≠ some b) :
    Calls Tryz.prog 68 #[v, .func (.func 69) #[] #[.pointer (some ⟨b, 0, none⟩)]] w fun e w' => ∃ x, e = .returned x ∧ x.ownBlock = v.ownBlock ∧ OwnI B w' x (xs.filter fun x => !dgI N x) ∧ Below B w w' := by
  have hbl := World.block_lt_of_cell? _ _ hb
  rcases h.2 with ⟨rfl, hn⟩ | ⟨g, cap, cur, rfl, hB, hg, hn, hm, hs, ht⟩
  · exact absurd (List.length_eq_zero_iff.1 hn) hx
  · have hne' : b ≠ g := fun e => hne (by rw [e]; rfl)
    have hcon := AnyE.slices_DeleteFunc Tryz.laysDel (Value.int .i64) (fun _ => rfl) (dgI N) 69 #[.pointer (some ⟨b, 0, none⟩)] (fun args w' => eg_apart1 args w') 0 (fun w => by kernel_rfl) g 0 cap xs.toArray w
      (fun W x hb' => gives1 x b N W hN ((hb'.cell (p := ⟨b, 0, none⟩) hbl).trans hb))
      (fun n os dk x _ => gives1 x b N _ hN (by
        unfold sortWorld
        rw [cell?_grow _ _ _ (by show b < (putRow _ _ _ _ _).heap.size; rw [size_putRow]; exact hbl), cell?_putRow_other _ _ g 0 _ _ (Or.inl hne')]
        exact hb))
      (holds_of_block_i hg (by simpa using ht)) (by have := h.at.len_le; simpa using this) (by simpa using hn)
    refine Calls.mono hcon ?_
    rintro e w' ⟨rfl, q, rfl⟩
    have hfl : (xs.toArray.toList.filter fun x => !dgI N x) = xs.filter fun x => !dgI N x := rfl
    rw [hfl]
    have hle := List.length_filter_le (fun x => !dgI N x) xs
    generalize hF : (xs.filter fun x => !dgI N x) = F at *
    have hL : (F ++ List.replicate (xs.toArray.size - F.length) 0).length = xs.length := by simp; omega
    have ho := ownsRow_sorted_i (w := w) (n := q) (os := #[]) (ss := xs) (ts := F ++ List.replicate (xs.toArray.size - F.length) 0) hL hB hg hn hm hs
    have hgr := grownBy_sorted_i (w := w) (g := g) (n := q) (os := #[]) (F ++ List.replicate (xs.toArray.size - F.length) 0).toArray
    rw [grow_empty] at ho hgr
    have hO : OwnI B (putRow (Value.int .i64) (Sort.ahead w q) g 0 (F ++ List.replicate (xs.toArray.size - F.length) 0).toArray) (.slice (some ⟨g, 0, none⟩) xs.length cap) (F ++ List.replicate (xs.toArray.size - F.length) 0) := by
      unfold OwnI; rw [hL]; exact ho
    have ho2 := hO.cutTo F.length (by rw [hL]; exact hle)
    rw [List.take_left' rfl] at ho2
    exact ⟨_, rfl, rfl, ho2, (Below.refl _ _).grown hgr (by have := (Array.getElem?_eq_some_iff.1 hg).1; omega) (fun k hk => by cases hk; exact hB)⟩
end Go.Proofs.YtmhiambkfdkkbaaGreatDoor

namespace Go.Proofs.YtmhiambkfdkkbaaGreatDoor

theorem diag_arr {K N : Nat} {T : List Int} {u s : Nat} (hu : u < N) (hs : s < K) : toN K N u s * N + toN K N u s ∈ pairL K N T (u * N + u) := by
  rw [mem_pairL (by omega), pair_div hu, pair_mod hu]
  exact ⟨s, s, hs, hs, rfl, rfl⟩
/-- Where a word leads from a node. -/
theorem diag_word {K N : Nat} {T : List Int} {u : Nat} (hu : u < N) : ∀ (n : Nat) (xs : List Int), xs.length = n → Syms K xs → Goes (pairL K N T) (u * N + u) ((u * pw K xs.length + numW K xs) % N * N + (u * pw K xs.length + numW K xs) % N)
  | 0, xs, hn, _ => by
    obtain rfl := List.length_eq_zero_iff.1 hn
    rw [show u * pw K ([] : List Int).length + numW K [] = u by simp [pw, numW], Nat.mod_eq_of_lt hu]
    exact .refl _
  | n + 1, xs, hn, hx => by
    have hne : xs ≠ [] := by intro e; subst e; simp at hn
    obtain ⟨b, x, rfl⟩ : ∃ b x, xs = b ++ [x] := ⟨xs.dropLast, xs.getLast hne, (List.dropLast_concat_getLast hne).symm⟩
    have hb : b.length = n := by simpa using hn
    have ih := diag_word (T := T) hu n b hb (fun y hy => hx y (List.mem_append_left _ hy))
    have hxs := hx x (by simp)
    refine .step ih ?_
    have := diag_arr (T := T) (u := (u * pw K b.length + numW K b) % N) (s := x.toNat) (Nat.mod_lt _ (by omega)) (show x.toNat < K by omega)
    have e : toN K N ((u * pw K b.length + numW K b) % N) x.toNat = (u * pw K (b ++ [x]).length + numW K (b ++ [x])) % N := by
      unfold toN
      rw [numW_snoc, List.length_append, List.length_singleton, pw_succ, ← Nat.mul_assoc, show u * pw K b.length * K + (numW K b * K + x.toNat) = (u * pw K b.length + numW K b) * K + x.toNat by rw [Nat.add_mul]; omega]
      rw [Nat.add_mod, Nat.mul_mod, Nat.mod_mod, ← Nat.mul_mod, ← Nat.add_mod]
    rw [e] at this
    exact this
theorem diag_goes {K R : Nat} {T : List Int} {u v : Nat} (hK : 1 ≤ K) (hu : u < pw K (2 * R)) (hv : v < pw K (2 * R)) : Goes (pairL K (pw K (2 * R)) T) (u * pw K (2 * R) + u) (v * pw K (2 * R) + v) := by
  have := diag_word (T := T) hu (2 * R) (digs K (2 * R) v) (digs_length ..) (digs_syms hK _ _)
  rw [digs_length, numW_digs hK _ _ hv, show u * pw K (2 * R) + v = pw K (2 * R) * u + v by rw [Nat.mul_comm], Nat.mul_add_mod, Nat.mod_eq_of_lt hv] at this
  exact this
end Go.Proofs.YtmhiambkfdkkbaaGreatDoor

namespace Go.Proofs.YtmhiambkfdkkbaaGreatDoor
open Go.RowKit
set_option maxRecDepth 100000

/-- What a call of the search's leaves. -/
def SPost (B : Nat) (w : World) (d : Nat) (nv lv fv pv : Value) (n : Nat) (S : TS) (e : Ending) (w' : World) : Prop :=
  e = .returned (.tuple #[]) ∧ Below B w w' ∧ ∃ f' ov' cv', Rows B w' f' ∧ SN f' d nv lv fv pv ov' cv' n S

set_option maxHeartbeats 1000000 in
theorem enter_any (B : Nat) (w : World) (f : Names) (d : Nat) (nv lv fv pv ov cv : Value) (n : Nat) (S : TS) (v : Nat) (hr : Rows B w f) (h : SN f d nv lv fv pv ov cv n S) (hB : B ≤ w.heap.size)
    (hv : v < n) (hnc : v ∉ S.calls) (ho : S.opn.length < 10000) (hcl : S.calls.length < 10000) (ht : S.time < 100000) :
    Calls Tryz.prog 183 #[.pointer (some ⟨d, 0, none⟩), .int .i64 v] w (SPost B w d nv lv fv pv n (enterS S v)) := by
  have e1 : ((S.time + 1 : Nat) : Int) = (S.time : Int) + 1 := by omega
  have z6 := h.cell hr 6 (by decide)
  have f6 := h.frz hr 6
  obtain ⟨f1, hr1, h1⟩ := h.setTime hr (S.time + 1)
  have b1 : Below B w (w.setCell ⟨d, 6, none⟩ (.int .i64 ((S.time + 1 : Nat) : Int))) := (Below.refl B w).setCell (h.base hr) _
  rw [e1] at hr1 b1
  simp only [List.getElem?_cons_succ, List.getElem?_cons_zero] at z6
  replace hr1 := Lib.hid hr1
  replace hr := Lib.hid hr
  replace e1 := Lib.hid e1
  go_enter Tryz.func183, Tryz.ntmps183
  go_wp2
  clear z6 f6
  refine wp_region_plan (fun w' => w'.cell? ⟨d, 1, none⟩ = some lv ∧ w'.cell? ⟨d, 2, none⟩ = some fv ∧ w'.cell? ⟨d, 6, none⟩ = some (.int .i64 ((S.time : Int) + 1))) 21 [(0, true), (1, true), (2, true), (3, true), (4, true), (5, true), (6, true), (7, true), (8, true), (9, true), (10, true), (11, true), (12, true), (13, true), (14, true), (15, true), (16, true), (17, true), (18, true), (19, false), (20, true)] (by kernel_rfl) (by kernel_rfl) ?_
  obtain ⟨W, hW⟩ : ∃ W : World, W = (w.setCell ⟨d, 6, none⟩ (.int .i64 ((S.time : Int) + 1))).drew := ⟨_, rfl⟩
  rw [← hW]
  have hrW : Rows B W f1 := by rw [hW]; exact hr1.out.drew
  have bW : Below B w W := by rw [hW]; exact b1.drew
  clear hW
  have hS : W.cell? ⟨d, 1, none⟩ = some lv ∧ W.cell? ⟨d, 2, none⟩ = some fv ∧ W.cell? ⟨d, 6, none⟩ = some (.int .i64 ((S.time : Int) + 1)) := ⟨h1.cell hrW 1 (by decide), h1.cell hrW 2 (by decide), by rw [← e1.out]; exact h1.cell hrW 6 (by decide)⟩
  have oL := hrW.ownI h1.low
  have oF := hrW.ownI h1.fnd
  have iL := fun w' => oL.at.idx v (by rw [tab_len]; exact hv) w'
  have iF := fun w' => oF.at.idx v (by rw [tab_len]; exact hv) w'
  have cL := oL.at.cellD v (by rw [tab_len]; exact hv)
  have fL := oL.frz v (by rw [tab_len]; exact hv)
  have kL := (oL.toV.blkB v (by rw [List.length_map, tab_len]; exact hv)).2
  obtain ⟨f2, hr2, h2⟩ := h1.setLow hrW v hv (S.time + 1)
  rw [e1.out] at hr2
  have oF2 := hr2.ownI h2.fnd
  have cF := oF2.at.cellD v (by rw [tab_len]; exact hv)
  have fF := oF2.frz v (by rw [tab_len]; exact hv)
  have kF := (oF2.toV.blkB v (by rw [List.length_map, tab_len]; exact hv)).2
  have hS2 : (W.setCell (valAt lv v) (.int .i64 ((S.time : Int) + 1))).cell? ⟨d, 1, none⟩ = some lv ∧ (W.setCell (valAt lv v) (.int .i64 ((S.time : Int) + 1))).cell? ⟨d, 2, none⟩ = some fv ∧ (W.setCell (valAt lv v) (.int .i64 ((S.time : Int) + 1))).cell? ⟨d, 6, none⟩ = some (.int .i64 ((S.time : Int) + 1)) := ⟨h2.cell hr2 1 (by decide), h2.cell hr2 2 (by decide), by rw [← e1.out]; exact h2.cell hr2 6 (by decide)⟩
  obtain ⟨f3, hr3, h3⟩ := h2.setFound hr2 v hv (S.time + 1)
  rw [e1.out] at hr3
  have b3 : Below B w ((W.setCell (valAt lv v) (.int .i64 ((S.time : Int) + 1))).setCell (valAt fv v) (.int .i64 ((S.time : Int) + 1))) := (bW.setCell kL _).setCell kF _
  replace hr3 := Lib.hid hr3
  replace hr2 := Lib.hid hr2
  replace hrW := Lib.hid hrW
  clear oL oF oF2
  generalize valAt lv v = la at *
  generalize valAt fv v = fa at *
  refine headY (v := ?_) (some 11) rfl rfl (Or.inl ⟨by rfl, ?_⟩) hS ?_
  rotate_left
  · rintro W' ⟨s0, s1, s2⟩; go_simp; try with_reducible rfl
  simp only [Act.put, List.setIfInBounds_toArray, List.set_cons_zero, List.set_cons_succ]
  refine headY (v := ?_) (some 12) rfl rfl (Or.inl ⟨by rfl, ?_⟩) hS ?_
  rotate_left
  · rintro W' ⟨s0, s1, s2⟩; go_simp; try with_reducible rfl
  simp only [Act.put, List.setIfInBounds_toArray, List.set_cons_zero, List.set_cons_succ]
  refine headY (v := ?_) (some 13) rfl rfl (Or.inl ⟨by rfl, ?_⟩) hS ?_
  rotate_left
  · rintro W' ⟨s0, s1, s2⟩; go_simp; try with_reducible rfl
  simp only [Act.put, List.setIfInBounds_toArray, List.set_cons_zero, List.set_cons_succ]
  refine headY (v := ?_) (some 14) rfl rfl (Or.inl ⟨by rfl, ?_⟩) hS ?_
  rotate_left
  · rintro W' ⟨s0, s1, s2⟩; go_simp; try with_reducible rfl
  simp only [Act.put, List.setIfInBounds_toArray, List.set_cons_zero, List.set_cons_succ]
  refine headY (v := ?_) (some 15) rfl rfl (Or.inl ⟨by rfl, ?_⟩) hS ?_
  rotate_left
  · rintro W' ⟨s0, s1, s2⟩; go_simp; try with_reducible rfl
  simp only [Act.put, List.setIfInBounds_toArray, List.set_cons_zero, List.set_cons_succ]
  refine headY (v := ?_) (some 16) rfl rfl (Or.inl ⟨by rfl, ?_⟩) hS ?_
  rotate_left
  · rintro W' ⟨s0, s1, s2⟩; go_simp; try with_reducible rfl
  simp only [Act.put, List.setIfInBounds_toArray, List.set_cons_zero, List.set_cons_succ]
  refine headY (v := ?_) (some 17) rfl rfl (Or.inl ⟨by rfl, ?_⟩) hS ?_
  rotate_left
  · rintro W' ⟨s0, s1, s2⟩; go_simp; try with_reducible rfl
  simp only [Act.put, List.setIfInBounds_toArray, List.set_cons_zero, List.set_cons_succ]
  refine headY (v := ?_) (some 18) rfl rfl (Or.inl ⟨by rfl, ?_⟩) hS ?_
  rotate_left
  · rintro W' ⟨s0, s1, s2⟩; go_simp; try with_reducible rfl
  simp only [Act.put, List.setIfInBounds_toArray, List.set_cons_zero, List.set_cons_succ]
  refine headY (v := ?_) (some 19) rfl rfl (Or.inl ⟨by rfl, ?_⟩) hS ?_
  rotate_left
  · rintro W' ⟨s0, s1, s2⟩; go_simp; try with_reducible rfl
  simp only [Act.put, List.setIfInBounds_toArray, List.set_cons_zero, List.set_cons_succ]
  refine headY (v := ?_) (some 20) rfl rfl (Or.inl ⟨by rfl, ?_⟩) hS ?_
  rotate_left
  · rintro W' ⟨s0, s1, s2⟩; go_simp; try with_reducible rfl
  simp only [Act.put, List.setIfInBounds_toArray, List.set_cons_zero, List.set_cons_succ]
  refine headY (v := ?_) (some 21) rfl rfl (Or.inl ⟨by rfl, ?_⟩) hS ?_
  rotate_left
  · rintro W' ⟨s0, s1, s2⟩; go_simp; try with_reducible rfl
  simp only [Act.put, List.setIfInBounds_toArray, List.set_cons_zero, List.set_cons_succ]
  refine headY (v := ?_) (some 22) rfl rfl (Or.inl ⟨by rfl, ?_⟩) hS ?_
  rotate_left
  · rintro W' ⟨s0, s1, s2⟩; go_simp; try with_reducible rfl
  simp only [Act.put, List.setIfInBounds_toArray, List.set_cons_zero, List.set_cons_succ]
  refine headY (v := ?_) (some 23) rfl rfl (Or.inl ⟨by rfl, ?_⟩) hS ?_
  rotate_left
  · rintro W' ⟨s0, s1, s2⟩; go_simp; try with_reducible rfl
  simp only [Act.put, List.setIfInBounds_toArray, List.set_cons_zero, List.set_cons_succ]
  refine headY (v := ?_) (some 24) rfl rfl (Or.inl ⟨by rfl, ?_⟩) hS ?_
  rotate_left
  · rintro W' ⟨s0, s1, s2⟩; go_simp; try with_reducible rfl
  simp only [Act.put, List.setIfInBounds_toArray, List.set_cons_zero, List.set_cons_succ]
  refine headY (v := ?_) (some 25) rfl rfl (Or.inl ⟨by rfl, ?_⟩) hS ?_
  rotate_left
  · rintro W' ⟨s0, s1, s2⟩; go_simp; try with_reducible rfl
  simp only [Act.put, List.setIfInBounds_toArray, List.set_cons_zero, List.set_cons_succ]
  refine headY (v := ?_) (some 26) rfl rfl (Or.inl ⟨by rfl, ?_⟩) hS ?_
  rotate_left
  · rintro W' ⟨s0, s1, s2⟩; go_simp; try with_reducible rfl
  simp only [Act.put, List.setIfInBounds_toArray, List.set_cons_zero, List.set_cons_succ]
  refine headY (v := ?_) (some 27) rfl rfl (Or.inl ⟨by rfl, ?_⟩) hS ?_
  rotate_left
  · rintro W' ⟨s0, s1, s2⟩; go_simp; try with_reducible rfl
  simp only [Act.put, List.setIfInBounds_toArray, List.set_cons_zero, List.set_cons_succ]
  refine headY (v := ?_) (some 28) rfl rfl (Or.inl ⟨by rfl, ?_⟩) hS ?_
  rotate_left
  · rintro W' ⟨s0, s1, s2⟩; go_simp; try with_reducible rfl
  simp only [Act.put, List.setIfInBounds_toArray, List.set_cons_zero, List.set_cons_succ]
  refine headY (v := ?_) (some 29) rfl rfl (Or.inl ⟨by rfl, ?_⟩) hS ?_
  rotate_left
  · rintro W' ⟨s0, s1, s2⟩; go_simp; try with_reducible rfl
  simp only [Act.put, List.setIfInBounds_toArray, List.set_cons_zero, List.set_cons_succ]
  refine headC rfl (fun KK hK => ?_)
  -- CALL 19 slot none
  go_simp
  refine hK _ _ hS2 ?_
  clear hK KK
  refine headY (v := ?_) (some 30) rfl rfl (Or.inl ⟨by rfl, ?_⟩) hS2 ?_
  rotate_left
  · rintro W' ⟨s0, s1, s2⟩; go_simp; try with_reducible rfl
  simp only [Act.put, List.setIfInBounds_toArray, List.set_cons_zero, List.set_cons_succ]
  refine head0 ?_
  simp only [List.drop_succ_cons, List.drop_zero]
  clear hS hS2 cL fL
  go_wp2
  refine NoPanic.normal ?_
  obtain ⟨W3, hW3⟩ : ∃ W3 : World, W3 = (W.setCell la (.int .i64 ((S.time : Int) + 1))).setCell fa (.int .i64 ((S.time : Int) + 1)) := ⟨_, rfl⟩
  rw [← hW3]
  rw [← hW3] at hr3 b3
  clear hW3 iL iF cF fF
  have z3 := h3.cell hr3.out 3 (by decide)
  simp only [List.getElem?_cons_succ, List.getElem?_cons_zero] at z3
  have oO := hr3.out.ownI h3.opn
  have hB3 : B ≤ W3.heap.size := Nat.le_trans hB b3.size
  go_wp2_with (at_builtin; refine wpl_app1 rfl _ _ rfl B ov (upI S.opn) v oO rfl rfl (by rw [upI_len]; omega) hB3 ?_)
  intro ov' w4 ho4 b4 hal
  obtain ⟨y3, g3, b5, f5, hr5, h5⟩ := h3.pushOpen hr3.out hB3 v ho4 hal
  obtain ⟨oa, on, oc, rfl⟩ := ho4.at.shape
  have z5 := y3 5 (by decide)
  simp only [List.getElem?_cons_succ, List.getElem?_cons_zero] at z5
  have z33 := y3 3 (by decide)
  simp only [List.getElem?_cons_succ, List.getElem?_cons_zero] at z33
  have g33 := g3 3
  replace y3 := Lib.hid y3
  replace g3 := Lib.hid g3
  replace hr5 := Lib.hid hr5
  clear ho4 hal z3 oO
  have oC := hr5.out.1 _ _ h5.calls
  go_wp2_with (at_builtin; go_loud (refine wpl_appF rfl _ _ rfl B cv S.calls.length _ v 0 _ oC rfl rfl (by simp) (by omega) (Nat.le_trans hB3 b5.size) ?_))
  intro g c w6 ho6 hal6
  obtain ⟨y5, g5, b7, f7, hr7, h7⟩ := h5.pushCalls hr5.out (Nat.le_trans hB3 b5.size) v hnc ho6 (hal6.imp id (fun ⟨a, b⟩ => ⟨by simpa using a, b⟩))
  have z5 := y5 5 (by decide)
  simp only [List.getElem?_cons_succ, List.getElem?_cons_zero] at z5
  have g55 := g5 5
  replace y5 := Lib.hid y5
  replace g5 := Lib.hid g5
  replace hr7 := Lib.hid hr7
  clear ho6 hal6 oC
  go_wp2
  go_end0
  exact ⟨rfl, (b3.trans b5).trans b7, f7, _, _, hr7.out, h7⟩
end Go.Proofs.YtmhiambkfdkkbaaGreatDoor

namespace Go.Proofs.YtmhiambkfdkkbaaGreatDoor
open Go.RowKit
set_option maxRecDepth 100000

theorem upI_top (t : Nat) (o : List Nat) : (upI (t :: o)).getD o.length 0 = (t : Int) := by
  rw [upI_cons, List.getD_eq_getElem?_getD, List.getElem?_append_right (by rw [upI_len]; exact Nat.le_refl _), upI_len, Nat.sub_self]; rfl

set_option maxHeartbeats 2000000 in
theorem leave_any (B : Nat) (w : World) (f : Names) (d : Nat) (nv lv fv pv ov cv : Value) (n : Nat) (adj : Nat → List Nat) (S : TS) (v : Nat) (r : List Nat) (hr : Rows B w f) (h : SN f d nv lv fv pv ov cv n S)
    (hI : TInv n adj S) (hc : S.calls = v :: r) (hn : n ≤ 8192) :
    Calls Tryz.prog 184 #[.pointer (some ⟨d, 0, none⟩), .int .i64 v] w (SPost B w d nv lv fv pv n (leaveS S v r)) := by
  have hvc : v ∈ S.calls := by rw [hc]; exact List.mem_cons_self
  have hvn := hI.seenLt v (hI.callsSeen hvc).1
  have hvo := hI.callsOpen v hvc
  have hol : ∀ x ∈ S.opn, x < n := fun x hx => hI.seenLt x ((hI.opnIff x).1 hx).1
  have hlq := hI.low_eq hc
  obtain ⟨g, c, rfl, hcap⟩ := h.callsShape hr (by rw [hc]; simp)
  rw [hc, List.length_cons] at h hcap
  have hrl := hI.calls_len
  rw [hc, List.length_cons] at hrl
  have hwr : IntKind.i64.wrap (r.length : Int) = r.length := wrapK (by omega) (by omega)
  obtain ⟨W, hW⟩ : ∃ W : World, W = w.drew := ⟨_, rfl⟩
  have hr0 : Rows B W f := by rw [hW]; exact hr.drew
  obtain ⟨f1, hr1, h1⟩ := h.popCalls hc hr0
  have z5 := h.cell hr0 5 (by decide)
  have g5 := h.frz hr0 5
  simp only [List.getElem?_cons_succ, List.getElem?_cons_zero] at z5
  have b1 : Below B w (W.setCell ⟨d, 5, none⟩ (.slice (some ⟨g, 0, none⟩) r.length c)) := by rw [hW]; exact (Below.refl B w).drew.setCell (h.base hr) _
  have hsl : (0 ≤ (r.length : Int) ∧ (r.length : Int) ≤ (c : Int)) := ⟨by omega, by omega⟩
  replace hr1 := Lib.hid hr1
  replace hr := Lib.hid hr
  replace hr0 := Lib.hid hr0
  replace hol := Lib.hid hol
  replace hI := Lib.hid hI
  replace hvo := Lib.hid hvo
  replace hvc := Lib.hid hvc
  replace hc := Lib.hid hc
  replace hlq := Lib.hid hlq
  go_enter Tryz.func184, Tryz.ntmps184
  go_wp2
  refine wp_region_plan (fun w' => w'.cell? ⟨d, 5, none⟩ = some (.slice (some ⟨g, 0, none⟩) (r.length + 1) c)) 14 [(0, true), (1, true), (2, true), (3, true), (4, true), (5, true), (6, true), (7, true), (8, true), (9, true), (10, true), (11, true), (12, true), (13, true)] (by kernel_rfl) (by kernel_rfl) ?_
  rw [← hW]
  clear hW
  have hS : W.cell? ⟨d, 5, none⟩ = some (.slice (some ⟨g, 0, none⟩) (r.length + 1) c) := z5
  refine headY (v := ?_) (some 7) rfl rfl (Or.inl ⟨by rfl, ?_⟩) hS ?_
  rotate_left
  · rintro W' s0; go_simp; try with_reducible rfl
  simp only [Act.put, List.setIfInBounds_toArray, List.set_cons_zero, List.set_cons_succ]
  refine headY (v := ?_) (some 8) rfl rfl (Or.inl ⟨by rfl, ?_⟩) hS ?_
  rotate_left
  · rintro W' s0; go_simp; try with_reducible rfl
  simp only [Act.put, List.setIfInBounds_toArray, List.set_cons_zero, List.set_cons_succ]
  refine headY (v := ?_) (some 9) rfl rfl (Or.inl ⟨by rfl, ?_⟩) hS ?_
  rotate_left
  · rintro W' s0; go_simp; try with_reducible rfl
  simp only [Act.put, List.setIfInBounds_toArray, List.set_cons_zero, List.set_cons_succ]
  refine headY (v := ?_) (some 10) rfl rfl (Or.inl ⟨by rfl, ?_⟩) hS ?_
  rotate_left
  · rintro W' s0; go_simp; try with_reducible rfl
  simp only [Act.put, List.setIfInBounds_toArray, List.set_cons_zero, List.set_cons_succ]
  refine headY (v := ?_) (some 11) rfl rfl (Or.inl ⟨by rfl, ?_⟩) hS ?_
  rotate_left
  · rintro W' s0; go_simp; try with_reducible rfl
  simp only [Act.put, List.setIfInBounds_toArray, List.set_cons_zero, List.set_cons_succ]
  refine headY (v := ?_) (some 12) rfl rfl (Or.inl ⟨by rfl, ?_⟩) hS ?_
  rotate_left
  · rintro W' s0; go_simp; try with_reducible rfl
  simp only [Act.put, List.setIfInBounds_toArray, List.set_cons_zero, List.set_cons_succ]
  refine headY (v := ?_) (some 13) rfl rfl (Or.inl ⟨by rfl, ?_⟩) hS ?_
  rotate_left
  · rintro W' s0; go_simp; try with_reducible rfl
  simp only [Act.put, List.setIfInBounds_toArray, List.set_cons_zero, List.set_cons_succ]
  refine headY (v := ?_) (some 14) rfl rfl (Or.inl ⟨by rfl, ?_⟩) hS ?_
  rotate_left
  · rintro W' s0; go_simp; try with_reducible rfl
  simp only [Act.put, List.setIfInBounds_toArray, List.set_cons_zero, List.set_cons_succ]
  refine headY (v := ?_) (some 15) rfl rfl (Or.inl ⟨by rfl, ?_⟩) hS ?_
  rotate_left
  · rintro W' s0; go_simp; try with_reducible rfl
  simp only [Act.put, List.setIfInBounds_toArray, List.set_cons_zero, List.set_cons_succ]
  refine headY (v := ?_) (some 16) rfl rfl (Or.inl ⟨by rfl, ?_⟩) hS ?_
  rotate_left
  · rintro W' s0; go_simp; try with_reducible rfl
  simp only [Act.put, List.setIfInBounds_toArray, List.set_cons_zero, List.set_cons_succ]
  refine headY (v := ?_) (some 17) rfl rfl (Or.inl ⟨by rfl, ?_⟩) hS ?_
  rotate_left
  · rintro W' s0; go_simp; try with_reducible rfl
  simp only [Act.put, List.setIfInBounds_toArray, List.set_cons_zero, List.set_cons_succ]
  refine headY (v := ?_) (some 18) rfl rfl (Or.inl ⟨by rfl, ?_⟩) hS ?_
  rotate_left
  · rintro W' s0; go_simp; try with_reducible rfl
  simp only [Act.put, List.setIfInBounds_toArray, List.set_cons_zero, List.set_cons_succ]
  refine headY (v := ?_) (some 19) rfl rfl (Or.inl ⟨by rfl, ?_⟩) hS ?_
  rotate_left
  · rintro W' s0; go_simp; try with_reducible rfl
  simp only [Act.put, List.setIfInBounds_toArray, List.set_cons_zero, List.set_cons_succ]
  refine headY (v := ?_) (some 20) rfl rfl (Or.inl ⟨by rfl, ?_⟩) hS ?_
  rotate_left
  · rintro W' s0; go_simp; try with_reducible rfl
  simp only [Act.put, List.setIfInBounds_toArray, List.set_cons_zero, List.set_cons_succ]
  refine head0 ?_
  simp only [List.drop_succ_cons, List.drop_zero]
  clear hS
  go_wp2
  refine NoPanic.normal ?_
  obtain ⟨W1, hW1⟩ : ∃ W1 : World, W1 = W.setCell ⟨d, 5, none⟩ (.slice (some ⟨g, 0, none⟩) r.length c) := ⟨_, rfl⟩
  rw [← hW1]
  rw [← hW1] at hr1 b1
  clear hW1 z5 g5
  have x5 := h1.cell hr1.out 5 (by decide)
  simp only [List.getElem?_cons_succ, List.getElem?_cons_zero] at x5
  go_upto_if 27 with fail
  go_cut [] from 4 (fun wx => Below B w wx ∧ ∃ f2, Rows B wx f2 ∧ SN f2 d nv lv fv pv ov (.slice (some ⟨g, 0, none⟩) r.length c) n { S with low := lowS S.low v r, calls := r })
  case first =>
    cases r with
    | nil =>
      go_wp2
      go_meet
      case rel => exact ⟨b1, f1, hr1.out, h1⟩
    | cons u r' =>
      have huc := hI.out.callsSeen (c := u) (by rw [hc.out]; simp)
      have hun := hI.out.seenLt u huc.1
      simp only [List.length_cons] at h1 hrl x5 hcap hwr b1 hr1
      obtain ⟨t0, t1, _⟩ := h1.callTop rfl hr1.out
      have hwr2 : IntKind.i64.wrap (r'.length : Int) = r'.length := wrapK (by omega) (by omega)
      have hp0 : 0 < (u :: r').length := by simp
      have hne : u ≠ v := fun e => by
        have := hI.out.callsSorted
        rw [hc.out, e] at this
        exact absurd ((List.pairwise_cons.1 this).1 v List.mem_cons_self) (Nat.lt_irrefl _)
      go_upto_region 4 with fail
      refine wp_region_plan (fun w' => w'.cell? ⟨d, 1, none⟩ = some lv ∧ w'.cell? (valAt lv u) = some (.int .i64 (S.low u)) ∧ w'.cell? (valAt lv v) = some (.int .i64 (S.low v))) 21 [(0, true), (1, true), (2, true), (3, true), (4, true), (5, true), (6, true), (7, true), (8, true), (9, true), (10, true), (11, true), (12, true), (13, true), (14, true), (15, true), (16, true), (17, true), (18, true), (19, false), (20, true)] (by kernel_rfl) (by kernel_rfl) ?_
      obtain ⟨W2, hW2⟩ : ∃ W2 : World, W2 = W1.drew := ⟨_, rfl⟩
      rw [← hW2]
      have hr2 : Rows B W2 f1 := by rw [hW2]; exact hr1.out.drew
      have b2 : Below B w W2 := by rw [hW2]; exact b1.drew
      clear hW2 t0 t1 x5
      have oL := hr2.ownI h1.low
      have cU := oL.at.cellD u (by rw [tab_len]; exact hun)
      have cV := oL.at.cellD v (by rw [tab_len]; exact hvn)
      rw [tab_get _ _ _ hun] at cU
      rw [tab_get _ _ _ hvn] at cV
      have hS : W2.cell? ⟨d, 1, none⟩ = some lv ∧ W2.cell? (valAt lv u) = some (.int .i64 (S.low u)) ∧ W2.cell? (valAt lv v) = some (.int .i64 (S.low v)) := ⟨h1.cell hr2 1 (by decide), cU, cV⟩
      have iU := fun w' => oL.at.idx u (by rw [tab_len]; exact hun) w'
      have iV := fun w' => oL.at.idx v (by rw [tab_len]; exact hvn) w'
      have fU := oL.frz u (by rw [tab_len]; exact hun)
      have kU := (oL.toV.blkB u (by rw [List.length_map, tab_len]; exact hun)).2
      obtain ⟨f3, hr3, h3⟩ := h1.setLow hr2 u hun (min (S.low u) (S.low v))
      have b3 : Below B w (W2.setCell (valAt lv u) (.int .i64 ((min (S.low u) (S.low v) : Nat) : Int))) := b2.setCell kU _
      replace hr3 := Lib.hid hr3
      replace hr2 := Lib.hid hr2
      clear oL
      generalize valAt lv u = ua at *
      generalize valAt lv v = va at *
      refine headY (v := ?_) (some 37) rfl rfl (Or.inl ⟨by rfl, ?_⟩) hS ?_
      rotate_left
      · rintro W' ⟨s0, s1, s2⟩; go_simp; try with_reducible rfl
      simp only [Act.put, List.setIfInBounds_toArray, List.set_cons_zero, List.set_cons_succ]
      refine headY (v := ?_) (some 38) rfl rfl (Or.inl ⟨by rfl, ?_⟩) hS ?_
      rotate_left
      · rintro W' ⟨s0, s1, s2⟩; go_simp; try with_reducible rfl
      simp only [Act.put, List.setIfInBounds_toArray, List.set_cons_zero, List.set_cons_succ]
      refine headY (v := ?_) (some 39) rfl rfl (Or.inl ⟨by rfl, ?_⟩) hS ?_
      rotate_left
      · rintro W' ⟨s0, s1, s2⟩; go_simp; try with_reducible rfl
      simp only [Act.put, List.setIfInBounds_toArray, List.set_cons_zero, List.set_cons_succ]
      refine headY (v := ?_) (some 40) rfl rfl (Or.inl ⟨by rfl, ?_⟩) hS ?_
      rotate_left
      · rintro W' ⟨s0, s1, s2⟩; go_simp; try with_reducible rfl
      simp only [Act.put, List.setIfInBounds_toArray, List.set_cons_zero, List.set_cons_succ]
      refine headY (v := ?_) (some 41) rfl rfl (Or.inl ⟨by rfl, ?_⟩) hS ?_
      rotate_left
      · rintro W' ⟨s0, s1, s2⟩; go_simp; try with_reducible rfl
      simp only [Act.put, List.setIfInBounds_toArray, List.set_cons_zero, List.set_cons_succ]
      refine headY (v := ?_) (some 42) rfl rfl (Or.inl ⟨by rfl, ?_⟩) hS ?_
      rotate_left
      · rintro W' ⟨s0, s1, s2⟩; go_simp; try with_reducible rfl
      simp only [Act.put, List.setIfInBounds_toArray, List.set_cons_zero, List.set_cons_succ]
      refine headY (v := ?_) (some 43) rfl rfl (Or.inl ⟨by rfl, ?_⟩) hS ?_
      rotate_left
      · rintro W' ⟨s0, s1, s2⟩; go_simp; try with_reducible rfl
      simp only [Act.put, List.setIfInBounds_toArray, List.set_cons_zero, List.set_cons_succ]
      refine headY (v := ?_) (some 44) rfl rfl (Or.inl ⟨by rfl, ?_⟩) hS ?_
      rotate_left
      · rintro W' ⟨s0, s1, s2⟩; go_simp; try with_reducible rfl
      simp only [Act.put, List.setIfInBounds_toArray, List.set_cons_zero, List.set_cons_succ]
      refine headY (v := ?_) (some 45) rfl rfl (Or.inl ⟨by rfl, ?_⟩) hS ?_
      rotate_left
      · rintro W' ⟨s0, s1, s2⟩; go_simp; try with_reducible rfl
      simp only [Act.put, List.setIfInBounds_toArray, List.set_cons_zero, List.set_cons_succ]
      refine headY (v := ?_) (some 46) rfl rfl (Or.inl ⟨by rfl, ?_⟩) hS ?_
      rotate_left
      · rintro W' ⟨s0, s1, s2⟩; go_simp; try with_reducible rfl
      simp only [Act.put, List.setIfInBounds_toArray, List.set_cons_zero, List.set_cons_succ]
      refine headY (v := ?_) (some 47) rfl rfl (Or.inl ⟨by rfl, ?_⟩) hS ?_
      rotate_left
      · rintro W' ⟨s0, s1, s2⟩; go_simp; try with_reducible rfl
      simp only [Act.put, List.setIfInBounds_toArray, List.set_cons_zero, List.set_cons_succ]
      refine headY (v := ?_) (some 48) rfl rfl (Or.inl ⟨by rfl, ?_⟩) hS ?_
      rotate_left
      · rintro W' ⟨s0, s1, s2⟩; go_simp; try with_reducible rfl
      simp only [Act.put, List.setIfInBounds_toArray, List.set_cons_zero, List.set_cons_succ]
      refine headY (v := ?_) (some 49) rfl rfl (Or.inl ⟨by rfl, ?_⟩) hS ?_
      rotate_left
      · rintro W' ⟨s0, s1, s2⟩; go_simp; try with_reducible rfl
      simp only [Act.put, List.setIfInBounds_toArray, List.set_cons_zero, List.set_cons_succ]
      refine headY (v := ?_) (some 50) rfl rfl (Or.inl ⟨by rfl, ?_⟩) hS ?_
      rotate_left
      · rintro W' ⟨s0, s1, s2⟩; go_simp; try with_reducible rfl
      simp only [Act.put, List.setIfInBounds_toArray, List.set_cons_zero, List.set_cons_succ]
      refine headY (v := ?_) (some 51) rfl rfl (Or.inl ⟨by rfl, ?_⟩) hS ?_
      rotate_left
      · rintro W' ⟨s0, s1, s2⟩; go_simp; try with_reducible rfl
      simp only [Act.put, List.setIfInBounds_toArray, List.set_cons_zero, List.set_cons_succ]
      refine headY (v := ?_) (some 52) rfl rfl (Or.inl ⟨by rfl, ?_⟩) hS ?_
      rotate_left
      · rintro W' ⟨s0, s1, s2⟩; go_simp; try with_reducible rfl
      simp only [Act.put, List.setIfInBounds_toArray, List.set_cons_zero, List.set_cons_succ]
      refine headY (v := ?_) (some 53) rfl rfl (Or.inl ⟨by rfl, ?_⟩) hS ?_
      rotate_left
      · rintro W' ⟨s0, s1, s2⟩; go_simp; try with_reducible rfl
      simp only [Act.put, List.setIfInBounds_toArray, List.set_cons_zero, List.set_cons_succ]
      refine headY (v := ?_) (some 54) rfl rfl (Or.inl ⟨by rfl, ?_⟩) hS ?_
      rotate_left
      · rintro W' ⟨s0, s1, s2⟩; go_simp; try with_reducible rfl
      simp only [Act.put, List.setIfInBounds_toArray, List.set_cons_zero, List.set_cons_succ]
      refine headY (v := ?_) (some 55) rfl rfl (Or.inl ⟨by rfl, ?_⟩) hS ?_
      rotate_left
      · rintro W' ⟨s0, s1, s2⟩; go_simp; try with_reducible rfl
      simp only [Act.put, List.setIfInBounds_toArray, List.set_cons_zero, List.set_cons_succ]
      refine headC rfl (fun KK hK => ?_)
      -- CALL 19 slot (some 56)
      go_simp
      refine hK _ _ hS ?_
      clear hK KK
      refine headY (v := ?_) (some 57) rfl rfl (Or.inl ⟨by rfl, ?_⟩) hS ?_
      rotate_left
      · rintro W' ⟨s0, s1, s2⟩; go_simp; try with_reducible rfl
      simp only [Act.put, List.setIfInBounds_toArray, List.set_cons_zero, List.set_cons_succ]
      refine head0 ?_
      simp only [List.drop_succ_cons, List.drop_zero]
      clear hS
      go_wp2
      all_goals
        first
        | rw [show min (S.low u) (S.low v) = S.low v by omega] at b3 hr3
        | rw [show min (S.low u) (S.low v) = S.low u by omega] at b3 hr3
        | rw [show ((min (S.low u) (S.low v) : Nat) : Int) = min (S.low u : Int) (S.low v : Int) by omega] at b3 hr3
        refine NoPanic.normal ?_
        go_wp2
        go_meet
        case rel => exact ⟨b3, f3, hr3.out, h3⟩
  case rest =>
    obtain ⟨bc, f4, hr4, h4⟩ := hcut
    have oL := hr4.ownI h4.low
    have oF := hr4.ownI h4.fnd
    have cV := oL.at.cellD v (by rw [tab_len]; exact hvn)
    have dV := oF.at.cellD v (by rw [tab_len]; exact hvn)
    rw [tab_get _ _ _ hvn] at cV dV
    have hlv : ({ S with low := lowS S.low v r, calls := r } : TS).low v = S.low v := hlq.out
    rw [hlv] at cV
    have iL := fun w' => oL.at.idx v (by rw [tab_len]; exact hvn) w'
    have iF := fun w' => oF.at.idx v (by rw [tab_len]; exact hvn) w'
    have x1 := h4.cell hr4 1 (by decide)
    have x2 := h4.cell hr4 2 (by decide)
    simp only [List.getElem?_cons_succ, List.getElem?_cons_zero] at x1 x2
    replace hr4 := Lib.hid hr4
    clear oL oF
    generalize valAt lv v = la at *
    generalize valAt fv v = fa at *
    by_cases hlf : S.low v = S.found v
    · have hne : ((S.low v : Int) != (S.found v : Int)) = false := by rw [hlf]; simp
      go_upto_region 5 with fail
      go_quiet (fail)
      go_wp2_with fail
      clear cV dV iL iF x1 x2 hne
      go_loopg [] S.opn.length (fun k wr => ∃ o p f' ov', o.length = k ∧ k ≤ n ∧ v ∈ o ∧ (∀ x ∈ o, x < n) ∧ closeS v o p = closeS v S.opn S.part ∧ Rows B wr f' ∧ Below B w wr ∧ SN f' d nv lv fv pv ov' (.slice (some ⟨g, 0, none⟩) r.length c) n { S with low := lowS S.low v r, calls := r, opn := o, part := p })
      case atStart => exact ⟨S.opn, S.part, f4, ov, rfl, hI.out.opn_len, hvo.out, hol.out, rfl, hr4.out.drewN nq, bc.trans ⟨rfl, rfl, rfl, Nat.le_refl _, fun _ _ => rfl⟩, h4⟩
      case round =>
        obtain ⟨o, p, f5, ov', rfl, hol5, hvo5, hon, hcl, hr5, b5, h5⟩ := hrel
        obtain ⟨t, o', rfl⟩ : ∃ t o', o = t :: o' := by cases o with
          | nil => cases hvo5
          | cons t o' => exact ⟨t, o', rfl⟩
        have htn : t < n := hon t List.mem_cons_self
        obtain ⟨go, co, rfl, hco⟩ := h5.opnShape hr5 (by simp)
        simp only [List.length_cons] at h5 hco hol5
        obtain ⟨wo, rfl⟩ : ∃ wo : World, wo = wr := ⟨_, rfl⟩
        have x3 := h5.cell hr5 3 (by decide)
        simp only [List.getElem?_cons_succ, List.getElem?_cons_zero] at x3
        have oO := (hr5.ownI h5.opn).at
        have cT := oO.cellD o'.length (by rw [upI_len]; simp)
        rw [upI_top] at cT
        have iT := fun w' => oO.idx o'.length (by rw [upI_len]; simp) w'
        have hwr' : IntKind.i64.wrap (o'.length : Int) = o'.length := wrapK (by omega) (by omega)
        generalize valAt (.slice (some ⟨go, 0, none⟩) (o'.length + 1) co) o'.length = ta at *
        replace hcl := Lib.hid hcl
        replace hon := Lib.hid hon
        replace hr5 := Lib.hid hr5
        clear oO
        go_upto_region 6 with fail
        go_quiet (fail)
        go_upto_region 7 with fail
        refine wp_region_plan (fun w' => w'.cell? ⟨d, 3, none⟩ = some (.slice (some ⟨go, 0, none⟩) (o'.length + 1) co)) 14 [(0, true), (1, true), (2, true), (3, true), (4, true), (5, true), (6, true), (7, true), (8, true), (9, true), (10, true), (11, true), (12, true), (13, true)] (by kernel_rfl) (by kernel_rfl) ?_
        obtain ⟨W6, hW6⟩ : ∃ W6 : World, W6 = (wo.drewN nq).drew := ⟨_, rfl⟩
        rw [← hW6]
        have hr6 : Rows B W6 f5 := by rw [hW6]; exact (hr5.out.drewN nq).drew
        have b6 : Below B w W6 := by rw [hW6]; exact b5.trans ⟨rfl, rfl, rfl, Nat.le_refl _, fun _ _ => rfl⟩
        have hsl' : (0 ≤ (o'.length : Int) ∧ (o'.length : Int) ≤ (co : Int)) := ⟨by omega, by omega⟩
        have hS : W6.cell? ⟨d, 3, none⟩ = some (.slice (some ⟨go, 0, none⟩) (o'.length + 1) co) := by rw [hW6]; exact x3
        have g3 := h5.frz hr6 3
        clear hW6 x3 cT iT
        obtain ⟨f7, hr7, h7⟩ := h5.popOpen rfl hr6
        have b7 : Below B w (W6.setCell ⟨d, 3, none⟩ (.slice (some ⟨go, 0, none⟩) o'.length co)) := b6.setCell (h5.base hr6) _
        replace hr7 := Lib.hid hr7
        replace hr6 := Lib.hid hr6
        refine headY (v := ?_) (some 85) rfl rfl (Or.inl ⟨by rfl, ?_⟩) hS ?_
        rotate_left
        · rintro W' s0; go_simp; try with_reducible rfl
        simp only [Act.put, List.setIfInBounds_toArray, List.set_cons_zero, List.set_cons_succ]
        refine headY (v := ?_) (some 86) rfl rfl (Or.inl ⟨by rfl, ?_⟩) hS ?_
        rotate_left
        · rintro W' s0; go_simp; try with_reducible rfl
        simp only [Act.put, List.setIfInBounds_toArray, List.set_cons_zero, List.set_cons_succ]
        refine headY (v := ?_) (some 87) rfl rfl (Or.inl ⟨by rfl, ?_⟩) hS ?_
        rotate_left
        · rintro W' s0; go_simp; try with_reducible rfl
        simp only [Act.put, List.setIfInBounds_toArray, List.set_cons_zero, List.set_cons_succ]
        refine headY (v := ?_) (some 88) rfl rfl (Or.inl ⟨by rfl, ?_⟩) hS ?_
        rotate_left
        · rintro W' s0; go_simp; try with_reducible rfl
        simp only [Act.put, List.setIfInBounds_toArray, List.set_cons_zero, List.set_cons_succ]
        refine headY (v := ?_) (some 89) rfl rfl (Or.inl ⟨by rfl, ?_⟩) hS ?_
        rotate_left
        · rintro W' s0; go_simp; try with_reducible rfl
        simp only [Act.put, List.setIfInBounds_toArray, List.set_cons_zero, List.set_cons_succ]
        refine headY (v := ?_) (some 90) rfl rfl (Or.inl ⟨by rfl, ?_⟩) hS ?_
        rotate_left
        · rintro W' s0; go_simp; try with_reducible rfl
        simp only [Act.put, List.setIfInBounds_toArray, List.set_cons_zero, List.set_cons_succ]
        refine headY (v := ?_) (some 91) rfl rfl (Or.inl ⟨by rfl, ?_⟩) hS ?_
        rotate_left
        · rintro W' s0; go_simp; try with_reducible rfl
        simp only [Act.put, List.setIfInBounds_toArray, List.set_cons_zero, List.set_cons_succ]
        refine headY (v := ?_) (some 92) rfl rfl (Or.inl ⟨by rfl, ?_⟩) hS ?_
        rotate_left
        · rintro W' s0; go_simp; try with_reducible rfl
        simp only [Act.put, List.setIfInBounds_toArray, List.set_cons_zero, List.set_cons_succ]
        refine headY (v := ?_) (some 93) rfl rfl (Or.inl ⟨by rfl, ?_⟩) hS ?_
        rotate_left
        · rintro W' s0; go_simp; try with_reducible rfl
        simp only [Act.put, List.setIfInBounds_toArray, List.set_cons_zero, List.set_cons_succ]
        refine headY (v := ?_) (some 94) rfl rfl (Or.inl ⟨by rfl, ?_⟩) hS ?_
        rotate_left
        · rintro W' s0; go_simp; try with_reducible rfl
        simp only [Act.put, List.setIfInBounds_toArray, List.set_cons_zero, List.set_cons_succ]
        refine headY (v := ?_) (some 95) rfl rfl (Or.inl ⟨by rfl, ?_⟩) hS ?_
        rotate_left
        · rintro W' s0; go_simp; try with_reducible rfl
        simp only [Act.put, List.setIfInBounds_toArray, List.set_cons_zero, List.set_cons_succ]
        refine headY (v := ?_) (some 96) rfl rfl (Or.inl ⟨by rfl, ?_⟩) hS ?_
        rotate_left
        · rintro W' s0; go_simp; try with_reducible rfl
        simp only [Act.put, List.setIfInBounds_toArray, List.set_cons_zero, List.set_cons_succ]
        refine headY (v := ?_) (some 97) rfl rfl (Or.inl ⟨by rfl, ?_⟩) hS ?_
        rotate_left
        · rintro W' s0; go_simp; try with_reducible rfl
        simp only [Act.put, List.setIfInBounds_toArray, List.set_cons_zero, List.set_cons_succ]
        refine headY (v := ?_) (some 98) rfl rfl (Or.inl ⟨by rfl, ?_⟩) hS ?_
        rotate_left
        · rintro W' s0; go_simp; try with_reducible rfl
        simp only [Act.put, List.setIfInBounds_toArray, List.set_cons_zero, List.set_cons_succ]
        refine head0 ?_
        simp only [List.drop_succ_cons, List.drop_zero]
        go_wp2
        clear hS g3
        refine NoPanic.normal ?_
        obtain ⟨W7, hW7⟩ : ∃ W7 : World, W7 = W6.setCell ⟨d, 3, none⟩ (.slice (some ⟨go, 0, none⟩) o'.length co) := ⟨_, rfl⟩
        rw [← hW7]
        rw [← hW7] at hr7 b7
        clear hW7
        have x4 := h7.cell hr7.out 4 (by decide)
        simp only [List.getElem?_cons_succ, List.getElem?_cons_zero] at x4
        have oP := hr7.out.ownI h7.part
        have iP := fun w' => oP.at.idx t (by rw [tabI_len]; exact htn) w'
        have cP := oP.at.cellD t (by rw [tabI_len]; exact htn)
        have fP := oP.frz t (by rw [tabI_len]; exact htn)
        have kP := (oP.toV.blkB t (by rw [List.length_map, tabI_len]; exact htn)).2
        obtain ⟨f8, hr8, h8⟩ := h7.setPart hr7.out t htn (v : Int)
        have b8 : Below B w (W7.setCell (valAt pv t) (.int .i64 (v : Int))) := b7.setCell kP _
        replace hr8 := Lib.hid hr8
        clear oP
        generalize valAt pv t = pa at *
        by_cases htv : t = v
        · subst htv
          rw [show closeS t (t :: o') p = (o', updN p t t) by simp [closeS]] at hcl
          have hfin : leaveS S t r = { S with low := lowS S.low t r, calls := r, opn := o', part := updN p t t } := by
            unfold leaveS
            rw [hlq.out, if_pos hlf, ← hcl.out]
          replace hfin := Lib.hid hfin
          replace hlf := Lib.hid hlf
          go_wp2
          (try simp only [Exit.inBlock, Exit.then]); refine bodyPost_ret (results_none rfl _ _ _) rfl ?_
          exact ⟨rfl, b8, f8, _, _, hr8.out, by rw [hfin.out]; exact h8⟩
        · have hne : ((t : Int) == (v : Int)) = false := by rw [beq_eq_false_iff_ne]; omega
          have hvo6 : v ∈ o' := (List.mem_cons.1 hvo5).resolve_left (fun e => htv e.symm)
          rw [show closeS v (t :: o') p = closeS v o' (updN p t v) by simp [closeS, htv]] at hcl
          replace hlf := Lib.hid hlf
          go_wp2
          go_roundg o'.length
          case measure => simp
          case rel => exact ⟨o', updN p t v, f8, _, rfl, by omega, hvo6, fun x hx => hon.out x (List.mem_cons_of_mem _ hx), hcl.out, hr8.out, b8, h8⟩
    · have hne : ((S.low v : Int) != (S.found v : Int)) = true := by rw [bne_iff_ne]; omega
      have hfin : leaveS S v r = { S with low := lowS S.low v r, calls := r } := by
        unfold leaveS
        rw [hlq.out, if_neg hlf]
      replace hfin := Lib.hid hfin
      replace hlf := Lib.hid hlf
      go_upto_region 5 with fail
      go_quiet (fail)
      go_wp2
      (try simp only [Exit.inBlock, Exit.then]); refine bodyPost_ret (results_none rfl _ _ _) rfl ?_
      exact ⟨rfl, bc.trans ⟨rfl, rfl, rfl, Nat.le_refl _, fun _ _ => rfl⟩, f4, _, _, hr4.out.drewN nq, by rw [hfin.out]; exact h4⟩
end Go.Proofs.YtmhiambkfdkkbaaGreatDoor

namespace Go.Proofs.YtmhiambkfdkkbaaGreatDoor
open Go.RowKit
set_option maxRecDepth 100000

/-- What from leaves: the calls are done, what was found is found, and v. -/
def FromPost (B : Nat) (w : World) (d : Nat) (nv lv fv pv : Value) (n : Nat) (adj : Nat → List Nat) (S : TS) (v : Nat) (e : Ending) (w' : World) : Prop :=
  e = .returned (.tuple #[]) ∧ Below B w w' ∧ ∃ f' ov' cv' T, Rows B w' f' ∧ SN f' d nv lv fv pv ov' cv' n T ∧ TInv n adj T ∧ T.calls = [] ∧ ∀ x, S.found x ≠ 0 ∨ x = v → T.found x ≠ 0

theorem enter_keeps (S : TS) (v x : Nat) (h : S.found x ≠ 0 ∨ x = v) : (enterS S v).found x ≠ 0 := by
  show updN S.found v (S.time + 1) x ≠ 0
  by_cases e : x = v
  · subst e; rw [updN_same]; omega
  · rw [updN_other _ _ _ e]; exact h.resolve_right e

set_option maxHeartbeats 4000000 in
theorem from_any (w0 : World) (w : World) (f : Names) (d : Nat) (na : Option Addr) (nc : Nat) (lv fv pv ov cv : Value) (G : List (List Int)) (S : TS) (v : Nat) (hG : ListsAt w0 (.slice na G.length nc) G) (hok : GraphOk G) (hn : G.length ≤ 8192)
    (hb : Below w0.heap.size w0 w) (hr : Rows w0.heap.size w f) (h : SN f d (.slice na G.length nc) lv fv pv ov cv G.length S) (hI : TInv G.length (adjOf G) S) (hc : S.calls = []) (hv : v < G.length) (hf : S.found v = 0) :
    Calls Tryz.prog 158 #[.pointer (some ⟨d, 0, none⟩), .int .i64 v] w (FromPost w0.heap.size w d (.slice na G.length nc) lv fv pv G.length (adjOf G) S v) := by
  have hlen : ∀ x, x < G.length → (G.getD x []).length ≤ 9223372036854775807 := by
    intro x hx
    obtain ⟨_, _, _, hm⟩ := hG.row x hx
    exact hm.len_le
  have hE := enter_any w0.heap.size w f d (.slice na G.length nc) lv fv pv ov cv G.length S v hr h hb.size hv (by rw [hc]; simp) (by rw [h.opnNil hI hc]; simp) (by rw [hc]; simp) (by have := hI.time_le; omega)
  have hI1 := hI.enterRoot hc hv hf
  have hkeep := enter_keeps S v
  replace hG := Lib.hid hG
  replace hok := Lib.hid hok
  replace hI := Lib.hid hI
  replace hlen := Lib.hid hlen
  replace hr := Lib.hid hr
  go_enter Tryz.func158, Tryz.ntmps158
  go_wp2_with fail
  refine hE.mono ?_
  rintro e w1 ⟨rfl, b1, f1, ov1, cv1, hr1, h1⟩
  generalize enterS S v = S1 at *
  replace hE := ()
  clear hE
  replace hkeep := Lib.hid hkeep
  replace hI1 := Lib.hid hI1
  replace hr1 := Lib.hid hr1
  go_wp2_with fail
  go_loopg [] (phi G.length (adjOf G) S1) (fun k wr => ∃ Sx f' ov' cv', k = phi G.length (adjOf G) Sx ∧ TInv G.length (adjOf G) Sx ∧ (∀ x, S1.found x ≠ 0 → Sx.found x ≠ 0) ∧ Rows w0.heap.size wr f' ∧ Below w0.heap.size w wr ∧ SN f' d (.slice na G.length nc) lv fv pv ov' cv' G.length Sx)
  case atStart => exact ⟨S1, f1, ov1, cv1, rfl, hI1.out, fun _ h => h, hr1.out, b1, h1⟩
  case round =>
    obtain ⟨Sx, f2, ov2, cv2, rfl, hI2, hk2, hr2, b2, h2⟩ := hrel
    obtain ⟨wo, rfl⟩ : ∃ wo : World, wo = wr := ⟨_, rfl⟩
    have x5 := h2.cell hr2 5 (by decide)
    simp only [List.getElem?_cons_succ, List.getElem?_cons_zero] at x5
    cases hc2 : Sx.calls with
    | nil =>
      obtain ⟨ca, cc, rfl⟩ := h2.callsLen hr2
      rw [hc2, List.length_nil] at h2 x5
      have hfin := Lib.hid (show ∀ x, S.found x ≠ 0 ∨ x = v → Sx.found x ≠ 0 from fun x hx => hk2 x (hkeep.out x hx))
      replace hI2 := Lib.hid hI2
      replace hc2 := Lib.hid hc2
      replace hr2 := Lib.hid hr2
      clear hk2
      go_wp2
      go_end0
      exact ⟨rfl, b2, f2, ov2, _, Sx, hr2.out, h2, hI2.out, hc2.out, hfin.out⟩
    | cons x r =>
      obtain ⟨g, c, rfl, hcap⟩ := h2.callsShape hr2 (by rw [hc2]; simp)
      rw [hc2, List.length_cons] at h2 x5 hcap
      have hxc : x ∈ Sx.calls := by rw [hc2]; exact List.mem_cons_self
      have hxn := hI2.seenLt x (hI2.callsSeen hxc).1
      have hrl := hI2.calls_len
      rw [hc2, List.length_cons] at hrl
      have hxr : x ∉ r := fun hm => by
        have := hI2.callsSorted
        rw [hc2] at this
        exact absurd ((List.pairwise_cons.1 this).1 x hm) (Nat.lt_irrefl _)
      have hil := hI2.idxLe x (hI2.callsOpen x hxc)
      have hal := adjOf_len G x
      have hll := hlen.out x hxn
      have hphi := hI2.phi_step hc2
      have hI3 := hI2.step
      have hk3 := fun y (hy : S1.found y ≠ 0) => (keepsS (adjOf G) Sx (hk2 y hy)).symm ▸ hk2 y hy
      obtain ⟨t0, t1, t1f⟩ := h2.callTop hc2 hr2
      have x0 := h2.cell hr2 0 (by decide)
      simp only [List.getElem?_cons_zero] at x0
      have hb2 := hb.trans b2
      obtain ⟨mv, iR, cR, hM⟩ := (hG.out.below hb2).row x hxn
      have hget := fun (i : Nat) (hi : i < (G.getD x []).length) => hok.out.get hxn hi
      obtain ⟨gx, hgx⟩ : ∃ gx, G.getD x [] = gx := ⟨_, rfl⟩
      rw [hgx] at hM hal hll hget
      replace hgx := Lib.hid hgx
      replace hget := Lib.hid hget
      have lenM := hM.len
      have hwr : IntKind.i64.wrap (r.length : Int) = r.length := wrapK (by omega) (by omega)
      obtain ⟨ra, hra⟩ : ∃ ra, valAt (.slice na G.length nc) x = ra := ⟨_, rfl⟩
      rw [hra] at iR cR
      replace hra := Lib.hid hra
      replace hphi := Lib.hid hphi
      replace hI3 := Lib.hid hI3
      replace hk3 := Lib.hid hk3
      replace hM := Lib.hid hM
      replace hI2 := Lib.hid hI2
      replace hr2 := Lib.hid hr2
      replace hk2 := Lib.hid hk2
      replace hxr := Lib.hid hxr
      have hstep := Lib.hid (stepS_cons (adj := adjOf G) hc2)
      by_cases hi : Sx.idx x = (adjOf G x).length
      · have hieq : ((Sx.idx x : Int) == (gx.length : Int)) = true := by rw [beq_iff_eq]; omega
        rw [if_pos hi] at hstep
        have hL := fun (w' : World) (hr' : Rows w0.heap.size w' f2) => leave_any w0.heap.size w' f2 d (.slice na G.length nc) lv fv pv ov2 _ G.length (adjOf G) Sx x r hr' h2 hI2.out hc2 hn
        replace hL := Lib.hid hL
        replace hc2 := Lib.hid hc2
        replace hi := Lib.hid hi
        go_upto_region 2 with fail
        go_quiet (fail)
        go_upto_region 3 with fail
        go_quiet (fail)
        go_wp2_with fail
        clear t0 t1 t1f x0 x5 iR cR lenM
        refine (hL.out _ (hr2.out.drewN _)).mono ?_
        rintro e w3 ⟨rfl, b3, f3, ov3, cv3, hr3, h3⟩
        replace hr3 := Lib.hid hr3
        go_wp2
        go_roundg (phi G.length (adjOf G) (stepS (adjOf G) Sx))
        case measure => exact hphi.out
        case rel => exact ⟨stepS (adjOf G) Sx, f3, ov3, cv3, rfl, hI3.out, hk3.out, hr3.out, b2.trans (Below.trans (below_drewN (Below.refl _ _) _) b3), by rw [hstep.out]; exact h3⟩
      · have hine : ((Sx.idx x : Int) == (gx.length : Int)) = false := by rw [beq_eq_false_iff_ne]; omega
        have hilt : Sx.idx x < gx.length := by omega
        rw [if_neg hi] at hstep
        have hg1 := hget.out _ hilt
        obtain ⟨t, ht⟩ : ∃ t, (adjOf G x).getD (Sx.idx x) 0 = t := ⟨_, rfl⟩
        rw [ht] at hg1 hstep
        have htn := (hI2.out.idx_get hc2 hi).2.2
        rw [ht] at htn
        have iT := hM.out.idx _ hilt
        have cT := hM.out.cellD _ hilt
        rw [hg1] at cT
        generalize valAt mv (Sx.idx x) = ta at *
        replace hg1 := Lib.hid hg1
        replace ht := Lib.hid ht
        replace hi := Lib.hid hi
        have e1 : ((Sx.idx x + 1 : Nat) : Int) = (Sx.idx x : Int) + 1 := by omega
        have hbump := fun (w' : World) (hr' : Rows w0.heap.size w' f2) => h2.bump hc2 hxr.out hr' (Sx.idx x + 1)
        rw [e1] at hbump
        replace e1 := Lib.hid e1
        replace hbump := Lib.hid hbump
        have hgB := ((hr2.out.lt h2.calls) g rfl).1
        have hcb := Lib.hid (show t ∉ Sx.calls ∨ Sx.found t ≠ 0 from by
          by_cases q : Sx.found t = 0
          · exact .inl fun hm => (hI2.out.callsSeen hm).1 q
          · exact .inr q)
        have hlens := Lib.hid (show Sx.opn.length < 10000 ∧ Sx.calls.length < 10000 ∧ Sx.time < 100000 from ⟨by have := hI2.out.opn_len; omega, by have := hI2.out.calls_len; omega, by have := hI2.out.time_le; omega⟩)
        replace hc2 := Lib.hid hc2
        go_upto_region 2 with fail
        go_quiet (fail)
        revert nq
        intro q1
        go_upto_region 3 with fail
        go_quiet (fail)
        revert nq
        intro q2
        go_upto_region 5 with fail
        go_quiet (fail)
        go_upto_region 7 with fail
        obtain ⟨WN, hWN⟩ : ∃ WN : World, WN = wo.drewN (q1 + q2 + nq) := ⟨_, rfl⟩
        rw [← hWN]
        have hrN : Rows w0.heap.size WN f2 := by rw [hWN]; exact hr2.out.drewN _
        have bN : Below w0.heap.size w WN := by rw [hWN]; exact b2.trans (below_drewN (Below.refl _ _) _)
        clear hWN t0 t1 t1f x0 x5 iR cR lenM iT cT
        obtain ⟨f3, hr3, h3⟩ := hbump.out _ hrN
        have b3 : Below w0.heap.size w (WN.setCell ⟨g, r.length * 2 + 1, none⟩ (.int .i64 ((Sx.idx x : Int) + 1))) := bN.setCell hgB _
        obtain ⟨W3, hW3⟩ : ∃ W3 : World, W3 = WN.setCell ⟨g, r.length * 2 + 1, none⟩ (.int .i64 ((Sx.idx x : Int) + 1)) := ⟨_, rfl⟩
        rw [← hW3]
        rw [← hW3] at hr3 b3
        clear hW3 hrN bN
        have x2 := h3.cell hr3 2 (by decide)
        simp only [List.getElem?_cons_succ, List.getElem?_cons_zero] at x2
        have oF := (hr3.ownI h3.fnd).at
        have iF := fun w' => oF.idx t (by rw [tab_len]; exact htn) w'
        have cF := oF.cellD t (by rw [tab_len]; exact htn)
        rw [tab_get _ _ _ htn] at cF
        dsimp only at cF
        replace hr3 := Lib.hid hr3
        clear oF
        obtain ⟨fa, hfa⟩ : ∃ fa, valAt fv t = fa := ⟨_, rfl⟩
        rw [hfa] at iF cF
        replace hfa := Lib.hid hfa
        by_cases hft : Sx.found t = 0
        · rw [if_pos hft] at hstep
          have hE3 := enter_any w0.heap.size W3 f3 d (.slice na G.length nc) lv fv pv ov2 _ G.length _ t hr3.out h3 (Nat.le_trans hb.size (Nat.le_trans b3.size (Nat.le_refl _))) htn (by show t ∉ Sx.calls; exact hcb.out.resolve_right (fun q => q hft)) hlens.out.1 hlens.out.2.1 hlens.out.2.2
          replace hE3 := Lib.hid hE3
          rw [hft] at cF
          replace hft := Lib.hid hft
          go_wp2_with fail
          clear x2 iF cF
          refine hE3.out.mono ?_
          rintro e w4 ⟨rfl, b4, f4, ov4, cv4, hr4, h4⟩
          replace hr4 := Lib.hid hr4
          go_wp2
          go_roundg (phi G.length (adjOf G) (stepS (adjOf G) Sx))
          case measure => exact hphi.out
          case rel => exact ⟨stepS (adjOf G) Sx, f4, ov4, cv4, rfl, hI3.out, hk3.out, hr4.out, b3.trans b4, by rw [hstep.out]; exact h4⟩
        · have hne : ((Sx.found t : Int) == 0) = false := by rw [beq_eq_false_iff_ne]; omega
          rw [if_neg hft] at hstep
          replace hft := Lib.hid hft
          have x4 := h3.cell hr3.out 4 (by decide)
          simp only [List.getElem?_cons_succ, List.getElem?_cons_zero] at x4
          have oP := (hr3.out.ownI h3.part).at
          have iP := fun w' => oP.idx t (by rw [tabI_len]; exact htn) w'
          have cP := oP.cellD t (by rw [tabI_len]; exact htn)
          rw [tabI_get _ _ _ htn] at cP
          dsimp only at cP
          clear oP
          generalize valAt pv t = pa at *
          by_cases hpt : Sx.part t < 0
          · rw [if_pos hpt] at hstep
            have hcx : Sx.calls = x :: r := hc2.out
            have hT0 := fun (w' : World) (hr' : Rows w0.heap.size w' f3) => (h3.callTop hcx hr').1
            replace hcx := Lib.hid hcx
            replace hT0 := Lib.hid hT0
            go_upto_region 10 with fail
            clear x4 iP cP x2
            refine wp_region_plan (fun w' => w'.cell? ⟨d, 1, none⟩ = some lv ∧ w'.cell? ⟨d, 2, none⟩ = some fv ∧ w'.cell? ⟨g, r.length * 2, none⟩ = some (.int .i64 (x : Int)) ∧ w'.cell? (valAt lv x) = some (.int .i64 (Sx.low x : Int)) ∧ w'.cell? fa = some (.int .i64 (Sx.found t : Int))) 27 [(0, true), (1, true), (2, true), (3, true), (4, true), (5, true), (6, true), (7, true), (8, true), (9, true), (10, true), (11, true), (12, true), (13, true), (14, true), (15, true), (16, true), (17, true), (18, true), (19, true), (20, true), (21, true), (22, true), (23, true), (24, true), (25, false), (26, true)] (by kernel_rfl) (by kernel_rfl) ?_
            obtain ⟨W5, hW5⟩ : ∃ W5 : World, W5 = W3.drew := ⟨_, rfl⟩
            rw [← hW5]
            have hr5 : Rows w0.heap.size W5 f3 := by rw [hW5]; exact hr3.out.drew
            have b5 : Below w0.heap.size w W5 := by rw [hW5]; exact b3.drew
            have cF5 : W5.cell? fa = some (.int .i64 (Sx.found t : Int)) := by rw [hW5]; exact cF
            clear hW5 cF
            have oL := hr5.ownI h3.low
            have iX := fun w' => oL.at.idx x (by rw [tab_len]; exact hxn) w'
            have cX := oL.at.cellD x (by rw [tab_len]; exact hxn)
            rw [tab_get _ _ _ hxn] at cX
            dsimp only at cX
            have fX := oL.frz x (by rw [tab_len]; exact hxn)
            have kX := (oL.toV.blkB x (by rw [List.length_map, tab_len]; exact hxn)).2
            have hS : W5.cell? ⟨d, 1, none⟩ = some lv ∧ W5.cell? ⟨d, 2, none⟩ = some fv ∧ W5.cell? ⟨g, r.length * 2, none⟩ = some (.int .i64 (x : Int)) ∧ W5.cell? (valAt lv x) = some (.int .i64 (Sx.low x : Int)) ∧ W5.cell? fa = some (.int .i64 (Sx.found t : Int)) := ⟨h3.cell hr5 1 (by decide), h3.cell hr5 2 (by decide), hT0.out _ hr5, cX, cF5⟩
            obtain ⟨f6, hr6, h6⟩ := h3.setLow hr5 x hxn (min (Sx.low x) (Sx.found t))
            have b6 : Below w0.heap.size w (W5.setCell (valAt lv x) (.int .i64 ((min (Sx.low x) (Sx.found t) : Nat) : Int))) := b5.setCell kX _
            replace hr6 := Lib.hid hr6
            replace hr5 := Lib.hid hr5
            clear oL cF5
            generalize valAt lv x = la at *
            refine headY (v := ?_) (some 92) rfl rfl (Or.inl ⟨by rfl, ?_⟩) hS ?_
            rotate_left
            · rintro W' ⟨s0, s1, s2, s3, s4⟩; go_simp; try with_reducible rfl
            simp only [Act.put, List.setIfInBounds_toArray, List.set_cons_zero, List.set_cons_succ]
            refine headY (v := ?_) (some 93) rfl rfl (Or.inl ⟨by rfl, ?_⟩) hS ?_
            rotate_left
            · rintro W' ⟨s0, s1, s2, s3, s4⟩; go_simp; try with_reducible rfl
            simp only [Act.put, List.setIfInBounds_toArray, List.set_cons_zero, List.set_cons_succ]
            refine headY (v := ?_) (some 94) rfl rfl (Or.inl ⟨by rfl, ?_⟩) hS ?_
            rotate_left
            · rintro W' ⟨s0, s1, s2, s3, s4⟩; go_simp; try with_reducible rfl
            simp only [Act.put, List.setIfInBounds_toArray, List.set_cons_zero, List.set_cons_succ]
            refine headY (v := ?_) (some 95) rfl rfl (Or.inl ⟨by rfl, ?_⟩) hS ?_
            rotate_left
            · rintro W' ⟨s0, s1, s2, s3, s4⟩; go_simp; try with_reducible rfl
            simp only [Act.put, List.setIfInBounds_toArray, List.set_cons_zero, List.set_cons_succ]
            refine headY (v := ?_) (some 96) rfl rfl (Or.inl ⟨by rfl, ?_⟩) hS ?_
            rotate_left
            · rintro W' ⟨s0, s1, s2, s3, s4⟩; go_simp; try with_reducible rfl
            simp only [Act.put, List.setIfInBounds_toArray, List.set_cons_zero, List.set_cons_succ]
            refine headY (v := ?_) (some 97) rfl rfl (Or.inl ⟨by rfl, ?_⟩) hS ?_
            rotate_left
            · rintro W' ⟨s0, s1, s2, s3, s4⟩; go_simp; try with_reducible rfl
            simp only [Act.put, List.setIfInBounds_toArray, List.set_cons_zero, List.set_cons_succ]
            refine headY (v := ?_) (some 98) rfl rfl (Or.inl ⟨by rfl, ?_⟩) hS ?_
            rotate_left
            · rintro W' ⟨s0, s1, s2, s3, s4⟩; go_simp; try with_reducible rfl
            simp only [Act.put, List.setIfInBounds_toArray, List.set_cons_zero, List.set_cons_succ]
            refine headY (v := ?_) (some 99) rfl rfl (Or.inl ⟨by rfl, ?_⟩) hS ?_
            rotate_left
            · rintro W' ⟨s0, s1, s2, s3, s4⟩; go_simp; try with_reducible rfl
            simp only [Act.put, List.setIfInBounds_toArray, List.set_cons_zero, List.set_cons_succ]
            refine headY (v := ?_) (some 100) rfl rfl (Or.inl ⟨by rfl, ?_⟩) hS ?_
            rotate_left
            · rintro W' ⟨s0, s1, s2, s3, s4⟩; go_simp; try with_reducible rfl
            simp only [Act.put, List.setIfInBounds_toArray, List.set_cons_zero, List.set_cons_succ]
            refine headY (v := ?_) (some 101) rfl rfl (Or.inl ⟨by rfl, ?_⟩) hS ?_
            rotate_left
            · rintro W' ⟨s0, s1, s2, s3, s4⟩; go_simp; try with_reducible rfl
            simp only [Act.put, List.setIfInBounds_toArray, List.set_cons_zero, List.set_cons_succ]
            refine headY (v := ?_) (some 102) rfl rfl (Or.inl ⟨by rfl, ?_⟩) hS ?_
            rotate_left
            · rintro W' ⟨s0, s1, s2, s3, s4⟩; go_simp; try with_reducible rfl
            simp only [Act.put, List.setIfInBounds_toArray, List.set_cons_zero, List.set_cons_succ]
            refine headY (v := ?_) (some 103) rfl rfl (Or.inl ⟨by rfl, ?_⟩) hS ?_
            rotate_left
            · rintro W' ⟨s0, s1, s2, s3, s4⟩; go_simp; try with_reducible rfl
            simp only [Act.put, List.setIfInBounds_toArray, List.set_cons_zero, List.set_cons_succ]
            refine headY (v := ?_) (some 104) rfl rfl (Or.inl ⟨by rfl, ?_⟩) hS ?_
            rotate_left
            · rintro W' ⟨s0, s1, s2, s3, s4⟩; go_simp; try with_reducible rfl
            simp only [Act.put, List.setIfInBounds_toArray, List.set_cons_zero, List.set_cons_succ]
            refine headY (v := ?_) (some 105) rfl rfl (Or.inl ⟨by rfl, ?_⟩) hS ?_
            rotate_left
            · rintro W' ⟨s0, s1, s2, s3, s4⟩; go_simp; try with_reducible rfl
            simp only [Act.put, List.setIfInBounds_toArray, List.set_cons_zero, List.set_cons_succ]
            refine headY (v := ?_) (some 106) rfl rfl (Or.inl ⟨by rfl, ?_⟩) hS ?_
            rotate_left
            · rintro W' ⟨s0, s1, s2, s3, s4⟩; go_simp; try with_reducible rfl
            simp only [Act.put, List.setIfInBounds_toArray, List.set_cons_zero, List.set_cons_succ]
            refine headY (v := ?_) (some 107) rfl rfl (Or.inl ⟨by rfl, ?_⟩) hS ?_
            rotate_left
            · rintro W' ⟨s0, s1, s2, s3, s4⟩; go_simp; try with_reducible rfl
            simp only [Act.put, List.setIfInBounds_toArray, List.set_cons_zero, List.set_cons_succ]
            refine headY (v := ?_) (some 108) rfl rfl (Or.inl ⟨by rfl, ?_⟩) hS ?_
            rotate_left
            · rintro W' ⟨s0, s1, s2, s3, s4⟩; go_simp; try with_reducible rfl
            simp only [Act.put, List.setIfInBounds_toArray, List.set_cons_zero, List.set_cons_succ]
            refine headY (v := ?_) (some 109) rfl rfl (Or.inl ⟨by rfl, ?_⟩) hS ?_
            rotate_left
            · rintro W' ⟨s0, s1, s2, s3, s4⟩; go_simp; try with_reducible rfl
            simp only [Act.put, List.setIfInBounds_toArray, List.set_cons_zero, List.set_cons_succ]
            refine headY (v := ?_) (some 110) rfl rfl (Or.inl ⟨by rfl, ?_⟩) hS ?_
            rotate_left
            · rintro W' ⟨s0, s1, s2, s3, s4⟩; go_simp; try with_reducible rfl
            simp only [Act.put, List.setIfInBounds_toArray, List.set_cons_zero, List.set_cons_succ]
            refine headY (v := ?_) (some 111) rfl rfl (Or.inl ⟨by rfl, ?_⟩) hS ?_
            rotate_left
            · rintro W' ⟨s0, s1, s2, s3, s4⟩; go_simp; try with_reducible rfl
            simp only [Act.put, List.setIfInBounds_toArray, List.set_cons_zero, List.set_cons_succ]
            refine headY (v := ?_) (some 112) rfl rfl (Or.inl ⟨by rfl, ?_⟩) hS ?_
            rotate_left
            · rintro W' ⟨s0, s1, s2, s3, s4⟩; go_simp; try with_reducible rfl
            simp only [Act.put, List.setIfInBounds_toArray, List.set_cons_zero, List.set_cons_succ]
            refine headY (v := ?_) (some 113) rfl rfl (Or.inl ⟨by rfl, ?_⟩) hS ?_
            rotate_left
            · rintro W' ⟨s0, s1, s2, s3, s4⟩; go_simp; try with_reducible rfl
            simp only [Act.put, List.setIfInBounds_toArray, List.set_cons_zero, List.set_cons_succ]
            refine headY (v := ?_) (some 114) rfl rfl (Or.inl ⟨by rfl, ?_⟩) hS ?_
            rotate_left
            · rintro W' ⟨s0, s1, s2, s3, s4⟩; go_simp; try with_reducible rfl
            simp only [Act.put, List.setIfInBounds_toArray, List.set_cons_zero, List.set_cons_succ]
            refine headY (v := ?_) (some 115) rfl rfl (Or.inl ⟨by rfl, ?_⟩) hS ?_
            rotate_left
            · rintro W' ⟨s0, s1, s2, s3, s4⟩; go_simp; try with_reducible rfl
            simp only [Act.put, List.setIfInBounds_toArray, List.set_cons_zero, List.set_cons_succ]
            refine headY (v := ?_) (some 116) rfl rfl (Or.inl ⟨by rfl, ?_⟩) hS ?_
            rotate_left
            · rintro W' ⟨s0, s1, s2, s3, s4⟩; go_simp; try with_reducible rfl
            simp only [Act.put, List.setIfInBounds_toArray, List.set_cons_zero, List.set_cons_succ]
            refine headC rfl (fun KK hK => ?_)
            -- CALL 25 slot (some 117)
            go_simp
            refine hK _ _ hS ?_
            clear hK KK
            refine headY (v := ?_) (some 118) rfl rfl (Or.inl ⟨by rfl, ?_⟩) hS ?_
            rotate_left
            · rintro W' ⟨s0, s1, s2, s3, s4⟩; go_simp; try with_reducible rfl
            simp only [Act.put, List.setIfInBounds_toArray, List.set_cons_zero, List.set_cons_succ]
            refine head0 ?_
            simp only [List.drop_succ_cons, List.drop_zero]
            clear hS iX iF
            go_wp2
            all_goals
              first
              | rw [show min (Sx.low x) (Sx.found t) = Sx.found t by omega] at b6 hr6
              | rw [show min (Sx.low x) (Sx.found t) = Sx.low x by omega] at b6 hr6
              | rw [show ((min (Sx.low x) (Sx.found t) : Nat) : Int) = min (Sx.low x : Int) (Sx.found t : Int) by omega] at b6 hr6
              refine NoPanic.normal ?_
              go_wp2
              go_roundg (phi G.length (adjOf G) (stepS (adjOf G) Sx))
              case measure => exact hphi.out
              case rel => exact ⟨stepS (adjOf G) Sx, f6, ov2, _, rfl, hI3.out, hk3.out, hr6.out, b6, by rw [hstep.out]; exact h6⟩
          · rw [if_neg hpt] at hstep
            go_wp2
            go_roundg (phi G.length (adjOf G) (stepS (adjOf G) Sx))
            case measure => exact hphi.out
            case rel => exact ⟨stepS (adjOf G) Sx, f3, ov2, _, rfl, hI3.out, hk3.out, hr3.out, b3, by rw [hstep.out]; exact h3⟩
end Go.Proofs.YtmhiambkfdkkbaaGreatDoor

namespace Go.Proofs.YtmhiambkfdkkbaaGreatDoor

def updM (M : Int → Option Int) (p x : Int) : Int → Option Int := fun q => if q = p then some x else M q
/-- Behind the first k: what has a number, and how many have. -/
def numM (p : Nat → Int) : Nat → (Int → Option Int) × Nat
  | 0 => (fun _ => none, 0)
  | k + 1 => if ((numM p k).1 (p k)).isSome then numM p k else (updM (numM p k).1 (p k) ((numM p k).2 : Int), (numM p k).2 + 1)
/-- The number of the k-th. -/
def numO (p : Nat → Int) (k : Nat) : Int := ((numM p (k + 1)).1 (p k)).getD 0
theorem numM_size (p : Nat → Int) : ∀ k, (numM p k).2 ≤ k
  | 0 => Nat.le_refl _
  | k + 1 => by
    have := numM_size p k
    simp only [numM]; split <;> simp <;> omega
theorem numM_keep (p : Nat → Int) {q x : Int} (k : Nat) (h : (numM p k).1 q = some x) : ∀ d, (numM p (k + d)).1 q = some x
  | 0 => h
  | d + 1 => by
    have ih := numM_keep p k h d
    show (numM p (k + d + 1)).1 q = some x
    simp only [numM]
    split
    · exact ih
    · next hn =>
      show updM _ _ _ q = some x
      unfold updM
      by_cases e : q = p (k + d)
      · subst e; rw [ih] at hn; exact absurd rfl hn
      · rw [if_neg e]; exact ih
theorem numM_own (p : Nat → Int) (k : Nat) : (numM p (k + 1)).1 (p k) = some (numO p k) := by
  unfold numO
  have : ((numM p (k + 1)).1 (p k)).isSome := by
    simp only [numM]
    split
    · next h => exact h
    · simp [updM]
  obtain ⟨x, hx⟩ := Option.isSome_iff_exists.1 this
  rw [hx]; rfl
theorem numM_below (p : Nat → Int) : ∀ k q x, (numM p k).1 q = some x → 0 ≤ x ∧ x < (numM p k).2
  | 0, q, x, h => by cases h
  | k + 1, q, x, h => by
    have ih := numM_below p k q x
    simp only [numM] at h ⊢
    split at h
    · next hs => rw [if_pos hs]; exact ih h
    · next hs =>
      rw [if_neg hs]
      simp only [updM] at h ⊢
      by_cases e : q = p k
      · rw [if_pos e] at h; injection h with h; omega
      · rw [if_neg e] at h; have := ih h; omega
theorem numM_inj (p : Nat → Int) : ∀ k q q' x, (numM p k).1 q = some x → (numM p k).1 q' = some x → q = q'
  | 0, q, q', x, h, _ => by cases h
  | k + 1, q, q', x, h, h' => by
    have ih := numM_inj p k q q' x
    simp only [numM] at h h'
    split at h
    · next hs => rw [if_pos hs] at h'; exact ih h h'
    · next hs =>
      rw [if_neg hs] at h'
      simp only [updM] at h h'
      by_cases e : q = p k <;> by_cases e' : q' = p k
      · rw [e, e']
      · rw [if_pos e] at h; rw [if_neg e'] at h'
        have := numM_below p k q' x h'
        injection h with h; omega
      · rw [if_neg e] at h; rw [if_pos e'] at h'
        have := numM_below p k q x h
        injection h' with h'; omega
      · rw [if_neg e] at h; rw [if_neg e'] at h'; exact ih h h'
/-- One number just where it is one thing. -/
theorem numO_eq (p : Nat → Int) (i j : Nat) : numO p i = numO p j ↔ p i = p j := by
  have key : ∀ i d, (numM p (i + 1 + d)).1 (p i) = some (numO p i) := fun i d => numM_keep p (i + 1) (numM_own p i) d
  have hi := key i j
  have hj := key j i
  rw [show j + 1 + i = i + 1 + j by omega] at hj
  constructor
  · intro h; rw [h] at hi; exact numM_inj p _ _ _ _ hi hj
  · intro h; rw [h] at hi; rw [hi] at hj; injection hj
theorem numO_bound (p : Nat → Int) (k : Nat) : 0 ≤ numO p k ∧ numO p k ≤ k := by
  have h1 := numM_below p (k + 1) _ _ (numM_own p k)
  have h2 := numM_size p (k + 1)
  omega
/-- What the numbers tell: one number just where there are ways both ways. -/
def PartsOf (n : Nat) (adj : Nat → List Nat) (ps : List Int) : Prop :=
  ∃ p : Nat → Int, (∀ x y, x < n → y < n → (p x = p y ↔ Goes adj x y ∧ Goes adj y x)) ∧ ps = (List.range n).map (numO p)
theorem PartsOf.len {n : Nat} {adj : Nat → List Nat} {ps : List Int} (h : PartsOf n adj ps) : ps.length = n := by
  obtain ⟨p, _, rfl⟩ := h; simp
theorem PartsOf.eq {n : Nat} {adj : Nat → List Nat} {ps : List Int} (h : PartsOf n adj ps) {x y : Nat} (hx : x < n) (hy : y < n) : ps.getD x 0 = ps.getD y 0 ↔ Goes adj x y ∧ Goes adj y x := by
  obtain ⟨p, hp, rfl⟩ := h
  simp only [List.getD_eq_getElem?_getD, List.getElem?_map, List.getElem?_range hx, List.getElem?_range hy, Option.map_some, Option.getD_some]
  rw [numO_eq, hp x y hx hy]
end Go.Proofs.YtmhiambkfdkkbaaGreatDoor

namespace Go.Proofs.YtmhiambkfdkkbaaGreatDoor
open Go.RowKit Go.Maps
set_option maxRecDepth 100000

theorem uIntN : Tryz.prog.underlying 3 = some (.int .i64) := by kernel_rfl
theorem uMapN : Tryz.prog.underlying 211 = some (.map 3 3) := by kernel_rfl
theorem keyedN : Keyed Tryz.prog 3 := int_keyed uIntN
theorem zeroN (w : World) : (zeroValue 3).run Tryz.prog w = .ok (.int .i64 0) w := by kernel_rfl

/-- Block b is a map that has these numbers under these keys, s in all. -/
def NumMap (w : World) (b n : Nat) (M : Int → Option Int) (s : Nat) : Prop :=
  ∃ D : DataW Unit, w.ownsMap Tryz.prog 3 (plainElem Tryz.prog 3) b n D ∧ Maps.size D = s ∧
    ∀ k, (Lit.int .i64 k).wf = true → Maps.has D (.int .i64 k) = (M k).isSome ∧ ∀ x, M k = some x → D.atKey (.int .i64 k) (.lit (.int .i64 0)) = .lit (.int .i64 x)
theorem NumMap.made (w : World) : NumMap (w.alloc (.map #[] 0)) w.heap.size 0 (fun _ => none) 0 :=
  ⟨_, World.ownsMap_made w Tryz.prog 3 _, rfl, fun k _ => ⟨rfl, fun x h => by cases h⟩⟩
theorem NumMap.blk {w : World} {b n s : Nat} {M : Int → Option Int} (h : NumMap w b n M s) : ∃ es c, w.heap[b]? = some (.map es c) := by
  obtain ⟨D, ⟨es, c, hb, _⟩, _⟩ := h
  exact ⟨es, c, hb⟩
theorem NumMap.kept {w w' : World} {b n s : Nat} {M : Int → Option Int} {row : Option Nat} (h : NumMap w b n M s) (hg : w.grownBy w' row) (hne : some b ≠ row) : NumMap w' b n M s := by
  obtain ⟨D, h1, h2⟩ := h
  exact ⟨D, h1.kept hg hne, h2⟩
theorem NumMap.drew {w : World} {b n s : Nat} {M : Int → Option Int} (h : NumMap w b n M s) : NumMap w.drew b n M s := h
theorem NumMap.drewN {w : World} {b n s : Nat} {M : Int → Option Int} (h : NumMap w b n M s) (q : Nat) : NumMap (w.drewN q) b n M s := h
theorem NumMap.len {w : World} {b n s : Nat} {M : Int → Option Int} (h : NumMap w b n M s) (ty : TypeId) : (Builtin.len_ #[211] ty #[.map (some b)]).run Tryz.prog w = .ok (.int .i64 s) w := by
  obtain ⟨D, h1, rfl, _⟩ := h
  exact h1.len uMapN ty
theorem NumMap.lookOk {w : World} {b n s : Nat} {M : Int → Option Int} (h : NumMap w b n M s) (k : Int) (hk : (Lit.int .i64 k).wf = true) :
    ∃ c : Int, (Instr.lookup 211 (.map (some b)) (.int .i64 k) true).run Tryz.prog w = .ok (.tuple #[.int .i64 c, .bool (M k).isSome]) w := by
  obtain ⟨D, h1, _, h3⟩ := h
  obtain ⟨v, ps, hr, hv⟩ := h1.look_ok keyedN uMapN (zeroN w) (plainElem_int uIntN (by decide)) (keyOf_int_mk uIntN hk)
  obtain ⟨c, rfl, _, _⟩ := plainElem_int_inv uIntN hv
  exact ⟨c, by rw [hr, (h3 k hk).1]⟩
theorem NumMap.look {w : World} {b n s : Nat} {M : Int → Option Int} (h : NumMap w b n M s) (k x : Int) (hk : (Lit.int .i64 k).wf = true) (hx : M k = some x) :
    (Instr.lookup 211 (.map (some b)) (.int .i64 k) false).run Tryz.prog w = .ok (.int .i64 x) w := by
  obtain ⟨D, h1, _, h3⟩ := h
  obtain ⟨c, hr, hc, _⟩ := h1.lookup_int keyedN uMapN uIntN (zeroN w) (keyOf_int_mk uIntN hk)
  rw [(h3 k hk).2 x hx] at hc
  injection hc with hc
  injection hc with _ hc
  rw [hr, hc]
theorem NumMap.store {w : World} {b n s : Nat} {M : Int → Option Int} (h : NumMap w b n M s) (k x : Int) (hk : (Lit.int .i64 k).wf = true) (hx : (Lit.int .i64 x).wf = true) (hM : M k = none) (hn : n < 1000000) :
    ∃ w', (Instr.mapUpdate 211 (.map (some b)) (.int .i64 k) (.int .i64 x)).run Tryz.prog w = .ok () w' ∧ NumMap w' b (n + 1) (updM M k x) (s + 1) ∧ w.grownBy w' (some b) := by
  obtain ⟨D, h1, h2, h3⟩ := h
  have hT := h1.tidy keyedN
  have hI := h1.isMap
  obtain ⟨w', hr, ho, hg⟩ := h1.update keyedN uMapN (by unfold maxLen; omega) (keyOf_int_mk uIntN hk) (plainElem_int uIntN hx)
  have hkl : WideAt.IsKeyLit (Lit.int .i64 k) := keyedN.key (keyOf_int_mk uIntN hk)
  refine ⟨w', hr, ⟨_, ho, ?_, fun q hq => ?_⟩, hg⟩
  · rw [Maps.size_put hT, (h3 k hk).1, hM, h2]; rfl
  · by_cases e : q = k
    · subst e
      refine ⟨by rw [Maps.has_put_same hI hkl]; simp [updM], fun y hy => ?_⟩
      simp [updM] at hy
      subst hy
      exact Maps.atKey_put_same hI hkl _ _
    · have hne : (Lit.int .i64 q) ≠ (Lit.int .i64 k) := fun h => e (by injection h)
      refine ⟨by rw [Maps.has_put_other hne, (h3 q hq).1]; simp [updM, e], fun y hy => ?_⟩
      rw [Maps.atKey_put_other hne]
      exact (h3 q hq).2 y (by simpa [updM, e] using hy)
/-- Rows stay while a map's block is written. -/
theorem ownI_map {B : Nat} {w w' : World} {b : Nat} {es : Array MapEntry} {c : Nat} {v : Value} {xs : List Int} (h : OwnI B w v xs) (hb : w.heap[b]? = some (.map es c)) (hg : w.grownBy w' (some b)) : OwnI B w' v xs := by
  refine World.ownsRow.kept h hg ?_
  rcases h.2 with ⟨e, _⟩ | ⟨g, cap, cur, e, _, hh, _⟩
  · left; rw [e]; rfl
  · right; rw [e]; intro q
    have : g = b := by injection q
    subst this; rw [hh] at hb; cases hb
end Go.Proofs.YtmhiambkfdkkbaaGreatDoor
