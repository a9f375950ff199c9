/-
  Walks: edenref18.Onto, One.
-/
import Derived.Test.YtmddapkhipmlgaaDoorRefMake
import Derived.Test.YtmddapkhipmlgaaDoorAddOnto
import Derived.RegionTactic
namespace Go.Proofs.YtmddapkhipmlgaaDoor
open Go.RowKit
set_option maxRecDepth 100000

theorem EOwn.drew {B : Nat} {w : World} {t : PErr} {v : Value} (h : EOwn B w t v) : EOwn B w.drew t v := by
  match t, h with
  | none, h => exact h
  | some (n, l), h => exact h
theorem factP_num {k : Int} {f : List Int} {t : Int × List (ByteArray × Int)} (h : factP k f = some t) : 1 ≤ t.1 ∧ t.1 ≤ 11 ∧ t.2.length = 1 := by
  unfold factP numP fresh at h
  split at h
  · cases h; decide
  · split at h
    · cases h; decide
    · split at h
      · cases h
      · cases h; exact ⟨by simp, by simp, rfl⟩

set_option maxHeartbeats 400000 in
theorem onto18_bad (k : Int) (v : Value) (f : List Int) (t : Int × List (ByteArray × Int)) (w : World) (hf : IntsAt w v f) (hc : factP k f = some t) (hn : t.1 ≠ 0) :
    Calls Tryd.prog 35 #[.int .i64 k, v] w (Ret2 (fun x y w' => x = .bool false ∧ EOwn w.heap.size w' (some t) y) w) := by
  have b0 := belowAlloc w (.cells #[.int .i64 0, .slice none 0 0, .slice none 0 0] 55)
  have q5 : Box3 (w.alloc (.cells #[.int .i64 0, .slice none 0 0, .slice none 0 0] 55)) w.heap.size (.int .i64 0) (.slice none 0 0) (.slice none 0 0) := by simp [Box3, go_sem]
  replace hf := Lib.hid (hf.below b0)
  replace hc := Lib.hid hc
  obtain ⟨n, l⟩ := t
  have hnb : (n != 0) = true := by rw [bne_iff_ne]; exact hn
  clear hn
  go_enter Tryd.func35, Tryd.ntmps35
  go_wp2_with fail
  refine (f18_any k v f _ hf.out).mono ?_
  rintro e w1 ⟨x, rfl, b1, he⟩
  rw [hc.out] at he
  obtain ⟨a1, n1, c1, a2, n2, c2, rfl, hs1, hs2⟩ := he
  have he : EOwn (w.alloc (.cells #[.int .i64 0, .slice none 0 0, .slice none 0 0] 55)).heap.size w1 (some (n, l)) (.agg #[.int .i64 n, .slice a1 n1 c1, .slice a2 n2 c2]) := ⟨_, _, _, _, _, _, rfl, hs1, hs2⟩
  clear hs1 hs2
  replace he := Lib.hid he
  have q6 := q5.below b1
  go_wp2_with fail
  refine (err_bad n a1 n1 c1 a2 n2 c2 _).mono ?_
  rintro e w2 ⟨x, rfl, b2, rfl⟩
  have b12 := Below.step (belowAlloc w1 (.cells #[.int .i64 n, .slice a1 n1 c1, .slice a2 n2 c2] 55)) b2
  obtain ⟨⟨y0, y1, y2⟩, f0, f1, f2⟩ := q6.below b12
  obtain ⟨x0, x1, x2⟩ := keep3 (n := w1.heap.size) (a := .int .i64 n) (b := .slice a1 n1 c1) (c := .slice a2 n2 c2) b2 ⟨by simp, by simp, by simp⟩
  have hEf := Lib.hid (he.out.below b12)
  have hBf := Lib.hid (Below.step (Below.step b0 b1) b12)
  go_wp2
  go_region
  go_wp2
  refine bodyPost_ret (v := .tuple #[.bool false, .agg #[.int .i64 n, .slice a1 n1 c1, .slice a2 n2 c2]]) (by simp [results, Tryd.results35, go_sem, y0, y1, y2]) rfl ⟨_, _, rfl, ?_, rfl, ?_⟩
  · exact (below_set3 hBf.out (Nat.le_refl _) _ _ _).drew
  · exact ((hEf.out.set3 (by simp) _ _ _).mono (by simp)).drew


set_option maxHeartbeats 400000 in
theorem onto18_ok (K : Nat) (v : Value) (f : List Int) (w : World) (hf : IntsAt w v f) (hc : factP K f = none) :
    Calls Tryd.prog 35 #[.int .i64 K, v] w (Ret2 (fun x y _ => x = .bool (ontoR K f) ∧ y = zErr) w) := by
  obtain ⟨h1, h4, ho, hs⟩ := factP_none hc
  have hk1 : 1 ≤ K := by omega
  have hk4 : K ≤ 4 := by omega
  have hl7 : f.length ≤ 7 := by simp [oddP] at ho; omega
  have b0 := belowAlloc w (.cells #[.int .i64 0, .slice none 0 0, .slice none 0 0] 55)
  have q5 : Box3 (w.alloc (.cells #[.int .i64 0, .slice none 0 0, .slice none 0 0] 55)) w.heap.size (.int .i64 0) (.slice none 0 0) (.slice none 0 0) := by simp [Box3, go_sem]
  have hlen := hf.len
  replace hf := Lib.hid (hf.below b0)
  replace hc := Lib.hid hc
  replace hs := Lib.hid hs
  clear ho
  generalize hres : ontoR K f = res
  replace hres := Lib.hid hres
  go_enter Tryd.func35, Tryd.ntmps35
  go_wp2_with fail
  refine (f18_any K v f _ hf.out).mono ?_
  rintro e w1 ⟨x, rfl, b1, he⟩
  rw [hc.out] at he
  obtain rfl : x = zErr := he
  have q6 := q5.below b1
  go_wp2_with fail
  refine (err_bad 0 none 0 0 none 0 0 _).mono ?_
  rintro e w2 ⟨x, rfl, b2, rfl⟩
  have b12 := Below.step (belowAlloc w1 (.cells #[.int .i64 0, .slice none 0 0, .slice none 0 0] 55)) b2
  obtain ⟨⟨y0, y1, y2⟩, f0, f1, f2⟩ := q6.below b12
  have hf2 := Lib.hid (hf.out.below (Below.step b1 b12))
  have hBf := Lib.hid (Below.step (Below.step b0 b1) b12)
  clear b1 b2 b12 q6
  go_wp2
  go_loop [7] (fun d => ∃ t : Nat, 2 ≤ t ∧ d = .int .i64 t ∧ ∀ d', 2 ≤ d' → d' < t → ¬ (K % d' = 0 ∧ allD d' f = true)) (fun d => 6 - (intOf d).toNat)
  case atStart => exact ⟨2, by omega, rfl, by omega⟩
  case round =>
    obtain ⟨t, ht, rfl, hp⟩ := hrel
    replace hp := Lib.hid hp
    by_cases htk : t ≤ K
    · have hte : ((K : Int) % (t : Int) == 0) = decide (K % t = 0) := by
        rw [Bool.eq_iff_iff]; simp; omega
      have ht0 : ((t : Int) == 0) = false := by rw [beq_eq_false_iff_ne]; omega
      have ht1 : ¬ (t : Int) = 0 := by omega
      have ht2 : (0 : Int) < t := by omega
      have ht3 : ¬ t = 0 := by omega
      go_wp2
      go_loop [8, 9] (fun a i => ∃ j : Nat, j ≤ f.length ∧ i = .int .i64 j ∧ a = .bool (decide (K % t = 0) && allD t (f.take j))) (fun _ i => f.length - (intOf i).toNat)
      case atStart => exact ⟨0, by omega, rfl, by simp [allD]⟩
      case round =>
        obtain ⟨j, hj, rfl, rfl⟩ := hrel
        by_cases hjl : j < f.length
        · have i1 := hf2.out.idx j hjl
          have c1 := hf2.out.cell j hjl
          have hx := hs.out f[j] (by simp)
          have hst : Hid ((decide (K % t = 0) && allD t (f.take (j + 1))) = ((decide (K % t = 0) && allD t (f.take j)) && (f[j] % (t : Int) == 0))) := by
            show _ = _
            rw [take_snoc f j hjl, allD_snoc, Bool.and_assoc]
          generalize f[j] = x at c1 hx hst
          obtain ⟨hx0, hx1⟩ := hx
          cases hb : (decide (K % t = 0) && allD t (f.take j)) with
          | false =>
            rw [hb, Bool.false_and] at hst
            replace hb := Lib.hid hb
            go_wp2
            go_round
            case rel => exact ⟨j + 1, by omega, by go_num, by rw [hst.out]⟩
            case measure => simp [intOf]; omega
          | true =>
            rw [hb, Bool.true_and] at hst
            replace hb := Lib.hid hb
            go_wp2
            go_round
            case rel => exact ⟨j + 1, by omega, by go_num, by rw [hst.out]⟩
            case measure => simp [intOf]; omega
        · obtain rfl : j = f.length := by omega
          rw [List.take_length]
          cases hb : (decide (K % t = 0) && allD t f) with
          | false =>
            have hpn : Hid (¬ (K % t = 0 ∧ allD t f = true)) := by
              show ¬ _
              rintro ⟨h1, h2⟩
              rw [h1, h2] at hb
              simp at hb
            replace hb := Lib.hid hb
            go_wp2
            go_round
            case rel =>
              refine ⟨t + 1, by omega, by go_num, ?_⟩
              intro d' hd1 hd2
              by_cases e : d' = t
              · subst e; exact hpn.out
              · exact hp.out d' hd1 (by omega)
            case measure => simp [intOf]; omega
          | true =>
            have hpn : ontoR K f = false := by
              simp only [Bool.and_eq_true, decide_eq_true_eq] at hb
              exact ontoR_false hk4 ht htk hb.1 hb.2
            rw [hres.out] at hpn
            subst hpn
            replace hb := Lib.hid hb
            go_wp2
            exact bodyPost_ret (v := .tuple #[.bool false, zErr]) (by simp [results, Tryd.results35, go_sem, y0, y1, y2]) rfl ⟨_, _, rfl, below_set3 hBf.out (Nat.le_refl _) _ _ _, rfl, rfl⟩
    · have hpn : ontoR K f = true := ontoR_true hk1 hk4 fun d h2 h3 => hp.out d h2 (by omega)
      rw [hres.out] at hpn
      subst hpn
      go_wp2
      exact bodyPost_ret (v := .tuple #[.bool true, zErr]) (by simp [results, Tryd.results35, go_sem, y0, y1, y2]) rfl ⟨_, _, rfl, below_set3 hBf.out (Nat.le_refl _) _ _ _, rfl, rfl⟩
end Go.Proofs.YtmddapkhipmlgaaDoor
