/-
  Walks: slices.IndexFunc, package rule's first functions.
-/
import Derived.Test.YtmddapkhipmlgaaDoorErr
import Derived.BigQuiet
import Derived.Deep.QuietTactic
namespace Go.Proofs.YtmddapkhipmlgaaDoor
open Go.RowKit

/-- slices.IndexFunc at a function value that only looks. -/
theorem indexFunc_any (v b : Value) (F : Nat) (xs : List Int) (p : Int → Bool) (w : World) (h : IntsAt w v xs)
    (eg : ∀ args w, (callFunc F args).run Tryd.prog w = .ok (.enter F args) w)
    (hF : ∀ x : Int, x ∈ xs → Calls Tryd.prog F #[.int .i64 x, b] w fun e w' => e = .returned (.bool (p x)) ∧ w = w') :
    Calls Tryd.prog 97 #[v, .func (.func F) #[] #[b]] w fun e w' => e = .returned (.int .i64 (idxOf p xs)) ∧ w = w' := by
  have hlen := h.len
  have hm := h.len_le
  go_enter Tryd.func97, Tryd.ntmps97
  go_wp2
  go_loop [8] (fun i => ∃ k : Nat, k ≤ xs.length ∧ i = .int .i64 k ∧ ∀ j (hj : j < xs.length), j < k → p xs[j] = false) (fun i => xs.length - (intOf i).toNat)
  case atStart => exact ⟨0, by omega, rfl, by omega⟩
  case round =>
    obtain ⟨k, hk, rfl, hp⟩ := hrel
    replace hp := Lib.hid hp
    by_cases hlt : k < xs.length
    · have hi := h.idx k hlt
      have hc := h.cell k hlt
      have hf := Lib.hid (hF xs[k] (by simp))
      clear hF
      go_wp2_with fail
      refine hf.out.mono ?_
      rintro e w' ⟨rfl, rfl⟩
      cases hpk : p xs[k]
      · have HP := Lib.hid hpk
        go_wp2
        go_round
        case rel =>
          refine ⟨k+1, by omega, by go_num, ?_⟩
          intro j hj hjk
          by_cases e : j = k
          · subst e; exact HP.out
          · exact hp.out j hj (by omega)
        case measure => simp [intOf]; omega
      · have HP := Lib.hid hpk
        go_wp2
        go_ret
        exact ⟨ret_int (idxOf_at k hlt HP.out fun j hj h => hp.out j hj h).symm, rfl⟩
    · go_wp2
      go_ret
      refine ⟨ret_int (idxOf_neg fun x hx => ?_).symm, rfl⟩
      obtain ⟨j, hj, rfl⟩ := List.mem_iff_getElem.1 hx
      exact hp.out j hj (by omega)

theorem rule_wrong (r : Nat → Addr) (at_ n : Int) (w : World) (hg : Glob r w) (h1 : 1 ≤ n) (h2 : n ≤ 11) :
    Calls Tryd.prog 62 #[.int .i64 at_, .int .i64 n] w (Ret1 (fun v w' => ErrIs r w' (fresh sRule at_ n) v) w) := by
  go_enter Tryd.func62, Tryd.ntmps62
  go_wp2_with fail
  refine (new_any r _ at_ n w hg h1 h2).mono ?_
  rintro e w' ⟨v, rfl, hb, he⟩
  go_wp2
  go_ret
  exact ⟨_, rfl, hb, he⟩

theorem rule_odd1 (x k : Int) (b : Addr) (w : World) (hb : w.cell? b = some (.int .i64 k)) :
    Calls Tryd.prog 102 #[.int .i64 x, .pointer (some b)] w fun e w' => e = .returned (.bool (odd1 k x)) ∧ w = w' := by
  by_cases h : x < 0
  · have e : odd1 k x = true := by simp [odd1, h]
    rw [e]
    go_enter Tryd.func102, Tryd.ntmps102
    go_wp2
    go_ret
    exact ⟨rfl, rfl⟩
  · have e : odd1 k x = decide (k ≤ x) := by simp [odd1, h]
    rw [e]
    go_enter Tryd.func102, Tryd.ntmps102
    go_wp2
    go_ret
    exact ⟨ret_bool (by simp), rfl⟩

theorem eg_rule_odd1 (args : Array Value) (w : World) : (callFunc 102 args).run Tryd.prog w = .ok (.enter 102 args) w := by kernel_rfl

theorem rule_odd (k : Int) (v : Value) (xs : List Int) (w : World) (h : IntsAt w v xs) :
    Calls Tryd.prog 63 #[.int .i64 k, v] w (Ret1 (fun x _ => x = .int .i64 (idxOf (odd1 k) xs)) w) := by
  have h' := Lib.hid h
  clear h
  go_enter Tryd.func63, Tryd.ntmps63
  go_wp2_with fail
  refine (indexFunc_any v _ 102 xs (odd1 k) _ (h'.out.below ((Below.refl _ _).alloc (Nat.le_refl _) _)) eg_rule_odd1 (fun x _ => rule_odd1 x k _ _ (by simp))).mono ?_
  rintro e w' ⟨rfl, rfl⟩
  go_wp2
  go_ret
  exact ⟨_, rfl, (Below.refl _ _).alloc (Nat.le_refl _) _, rfl⟩

theorem size_ok (K R : Nat) (w : World) (h1 : 1 ≤ K) (h4 : K ≤ 4) (h3 : R ≤ 3) :
    Calls Tryd.prog 49 #[.int .i64 K, .int .i64 R] w fun e w' => e = .returned (.tuple #[.int .i64 (pw K (2 * R + 1)), .nilIface]) ∧ w = w' := by
  go_enter Tryd.func49, Tryd.ntmps49
  go_wp2
  go_loop [6, 25] (fun n i => ∃ k : Nat, k ≤ 2 * R ∧ i = .int .i64 k ∧ n = .int .i64 (pw K (k + 1))) (fun _ i => 2 * R - (intOf i).toNat)
  case atStart => exact ⟨0, by omega, rfl, by rw [pw_one]⟩
  case round =>
    obtain ⟨k, hk, rfl, rfl⟩ := hrel
    by_cases hlt : k < 2 * R
    · have hb := pw_le (i := k + 1 + 1) h1 h4 (by omega)
      have hs : ((pw K (k + 1 + 1) : Nat) : Int) = (pw K (k + 1) : Int) * (K : Int) := by rw [pw_succ]; simp
      have hb1 : 0 ≤ (pw K (k + 1) : Int) * (K : Int) := by rw [← hs]; omega
      have hb2 : (pw K (k + 1) : Int) * (K : Int) ≤ 16384 := by rw [← hs]; omega
      replace hs := Lib.hid hs
      go_wp2
      go_round
      case rel => exact ⟨k + 1, by omega, by go_num, by rw [hs.out]⟩
      case measure => simp [intOf]; omega
    · obtain rfl : k = 2 * R := by omega
      go_wp2
      go_ret2
      exact ⟨rfl, rfl⟩

theorem size_bad (r : Nat → Addr) (k R : Int) (w : World) (hg : Glob r w) (h : k < 1 ∨ 4 < k ∨ R < 0 ∨ 3 < R) :
    Calls Tryd.prog 49 #[.int .i64 k, .int .i64 R] w (Ret2 (fun x y w' => x = .int .i64 0 ∧ ErrIs r w' (fresh sRule 0 3) y) w) := by
  have hg' := Lib.hid hg
  clear hg
  by_cases h1 : k < 1
  · clear h
    go_enter Tryd.func49, Tryd.ntmps49
    go_wp2_with fail
    refine (rule_wrong r _ _ w hg'.out (by decide) (by decide)).mono ?_
    rintro e w' ⟨v, rfl, hb, he⟩
    go_wp2
    go_ret2
    exact ⟨_, _, rfl, hb, rfl, he⟩
  by_cases h2 : 4 < k
  · clear h
    go_enter Tryd.func49, Tryd.ntmps49
    go_wp2_with fail
    refine (rule_wrong r _ _ w hg'.out (by decide) (by decide)).mono ?_
    rintro e w' ⟨v, rfl, hb, he⟩
    go_wp2
    go_ret2
    exact ⟨_, _, rfl, hb, rfl, he⟩
  by_cases h3 : R < 0
  · clear h
    go_enter Tryd.func49, Tryd.ntmps49
    go_wp2_with fail
    refine (rule_wrong r _ _ w hg'.out (by decide) (by decide)).mono ?_
    rintro e w' ⟨v, rfl, hb, he⟩
    go_wp2
    go_ret2
    exact ⟨_, _, rfl, hb, rfl, he⟩
  have h4 : 3 < R := by omega
  clear h
  go_enter Tryd.func49, Tryd.ntmps49
  go_wp2_with fail
  refine (rule_wrong r _ _ w hg'.out (by decide) (by decide)).mono ?_
  rintro e w' ⟨v, rfl, hb, he⟩
  go_wp2
  go_ret2
  exact ⟨_, _, rfl, hb, rfl, he⟩
end Go.Proofs.YtmddapkhipmlgaaDoor
