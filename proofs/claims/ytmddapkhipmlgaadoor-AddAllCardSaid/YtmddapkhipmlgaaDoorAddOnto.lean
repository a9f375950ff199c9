/-
  Walks: additive.Onto, additive.One.
-/
import Derived.Test.YtmddapkhipmlgaaDoorAddOf
namespace Go.Proofs.YtmddapkhipmlgaaDoor
open Go.RowKit
set_option maxRecDepth 100000

theorem primes_any (K : Int) (w : World) (h1 : 1 ≤ K) (h4 : K ≤ 4) :
    Calls Tryd.prog 114 #[.int .i64 K] w (Ret1 (fun x w' => IntsAt w' x (primesP K)) w) := by
  have h : K = 1 ∨ K = 2 ∨ K = 3 ∨ K = 4 := by omega
  rcases h with rfl | rfl | rfl | rfl
  · go_enter Tryd.func114, Tryd.ntmps114
    go_wp2
    go_ret
    exact ⟨_, rfl, Below.refl _ _, (OwnI.nil 0 _).at⟩
  · go_enter Tryd.func114, Tryd.ntmps114
    go_wp2
    go_ret
    exact ⟨_, rfl, (Below.refl _ _).alloc (Nat.le_refl _) _, (OwnI.lit _ _ (Nat.le_refl _) [2] (by decide) #[.int .i64 2] rfl 1 rfl).at⟩
  · go_enter Tryd.func114, Tryd.ntmps114
    go_wp2
    go_ret
    exact ⟨_, rfl, (Below.refl _ _).alloc (Nat.le_refl _) _, (OwnI.lit _ _ (Nat.le_refl _) [3] (by decide) #[.int .i64 3] rfl 1 rfl).at⟩
  · go_enter Tryd.func114, Tryd.ntmps114
    go_wp2
    go_ret
    exact ⟨_, rfl, (Below.refl _ _).alloc (Nat.le_refl _) _, (OwnI.lit _ _ (Nat.le_refl _) [2] (by decide) #[.int .i64 2] rfl 1 rfl).at⟩

theorem whole_bad (r : Nat → Addr) (k : Int) (v g : Value) (f : List Int) (t : Int × List (ByteArray × Int)) (w : World) (hg : Glob r w) (h : IntsAt w v f) (hl : f.length ≤ 17592186044416) (hc : factP k f = some t) :
    Calls Tryd.prog 80 #[.int .i64 k, v, g] w (Ret2 (fun x y w' => x = .bool false ∧ ErrIs r w' (some t) y) w) := by
  replace h := Lib.hid h
  replace hg := Lib.hid hg
  replace hc := Lib.hid hc
  go_enter Tryd.func80, Tryd.ntmps80
  go_wp2_with fail
  refine (fact_any r k v f _ hg.out h.out hl).mono ?_
  rintro e w1 ⟨x, rfl, hb, he⟩
  rw [hc.out] at he
  have he' := Lib.hid he
  obtain ⟨T, p, rfl⟩ := he.some_shape
  clear he
  go_wp2
  go_ret2
  exact ⟨_, _, rfl, hb, rfl, he'.out⟩

set_option maxHeartbeats 1000000 in
theorem whole_ok (r : Nat → Addr) (K : Int) (v : Value) (F : Nat) (may : Int → Bool) (f : List Int) (w : World) (hg : Glob r w) (h : IntsAt w v f) (hl : f.length ≤ 17592186044416) (hc : factP K f = none) (h1 : 1 ≤ K) (h4 : K ≤ 4) (hs : Syms K f)
    (eg : ∀ args w, (callFunc F args).run Tryd.prog w = .ok (.enter F args) w)
    (hF : ∀ (n : Int) (w : World), Calls Tryd.prog F #[.int .i64 n] w fun e w' => e = .returned (.bool (may n)) ∧ w = w') :
    Calls Tryd.prog 80 #[.int .i64 K, v, .func (.func F) #[] #[]] w (Ret2 (fun x y _ => x = .bool (wholeP may K f) ∧ y = .nilIface) w) := by
  replace h := Lib.hid h
  replace hg := Lib.hid hg
  replace hc := Lib.hid hc
  replace hs := Lib.hid hs
  replace hF := Lib.hid hF
  go_enter Tryd.func80, Tryd.ntmps80
  go_wp2_with fail
  refine (fact_any r K v f _ hg.out h.out hl).mono ?_
  rintro e w1 ⟨x, rfl, hb, he⟩
  rw [hc.out] at he
  obtain rfl := he.none_eq
  clear he
  go_wp2_with fail
  refine (primes_any K _ h1 h4).mono ?_
  rintro e w2 ⟨pv, rfl, hb2, hp⟩
  have hpl := hp.len
  have hfa := h.out.below (hb.trans (hb2.mono hb.size))
  have hfl := hfa.len
  have hp2 : (primesP K).length ≤ 1 := by
    unfold primesP; split
    · simp
    · split <;> simp
  replace hb := Lib.hid (hb.trans (hb2.mono hb.size))
  clear hb2
  go_wp2
  go_loop [23] (fun i => ∃ j : Nat, j ≤ (primesP K).length ∧ i = .int .i64 j ∧ ∀ t (h : t < (primesP K).length), t < j → may (cnt (primesP K)[t] f) = true) (fun i => (primesP K).length - (intOf i).toNat)
  case atStart => exact ⟨0, by omega, rfl, by intro t h1 h2; omega⟩
  case round =>
    obtain ⟨j, hj, rfl, hm⟩ := hrel
    replace hm := Lib.hid hm
    by_cases hlt : j < (primesP K).length
    · have i1 := hp.idx j hlt
      have c1 := hp.cell j hlt
      have hpm := primesP_mem (List.getElem_mem hlt)
      have hPE : Hid (∀ t (h : t < (primesP K).length), t < j + 1 → (t < j ∨ (primesP K)[t] = (primesP K)[j])) := by
        intro t h1 h2
        by_cases e : t = j
        · subst e; exact .inr rfl
        · exact .inl (by omega)
      have hWF : Hid (may (cnt (primesP K)[j] f) = false → wholeP may K f = false) := wholeP_false j hlt
      have hWT : Hid (may (cnt (primesP K)[j] f) = true → ∀ t (h : t < (primesP K).length), t < j + 1 → may (cnt (primesP K)[t] f) = true) := by
        intro h t h1 h2
        by_cases e : t = j
        · subst e; exact h
        · exact hm.out t h1 (by omega)
      generalize (primesP K)[j] = p at c1 hpm hWF hWT hPE
      have hp2 : 2 ≤ p := by omega
      have hp3 : p ≤ 3 := by omega
      clear hpm hPE
      go_wp2
      go_loop [11, 29] (fun n i => ∃ s : Nat, s ≤ f.length ∧ i = .int .i64 s ∧ n = .int .i64 (cnt p (f.take s))) (fun _ i => f.length - (intOf i).toNat)
      case atStart => exact ⟨0, by omega, rfl, rfl⟩
      case round =>
        obtain ⟨s, hs', rfl, rfl⟩ := hrel
        by_cases hsl : s < f.length
        · have i2 := hfa.idx s hsl
          have c2 := hfa.cell s hsl
          have hxs := hs.out f[s] (by simp)
          have hcs : Hid (cnt p (f.take (s + 1)) = cnt p (f.take s) + (if (f[s] % p != 0) = true then 1 else 0)) := by
            show _ = _
            rw [take_snoc f s hsl, cnt_snoc]
          have hcl : cnt p (f.take s) ≤ s := Nat.le_trans (cnt_le _ _) (by simp; omega)
          generalize f[s] = x at c2 hxs hcs
          generalize cnt p (f.take s) = c at hcs hcl
          cases hd : (x % p != 0)
          · rw [hd] at hcs
            go_wp2
            go_round
            case rel => exact ⟨s + 1, by omega, by go_num, by rw [hcs.out]; rfl⟩
            case measure => simp [intOf]; omega
          · rw [hd] at hcs
            go_wp2
            go_round
            case rel => exact ⟨s + 1, by omega, by go_num, by rw [hcs.out]; rfl⟩
            case measure => simp [intOf]; omega
        · obtain rfl : s = f.length := by omega
          rw [List.take_length]
          go_wp2_with fail
          refine (hF.out _ _).mono ?_
          rintro e w' ⟨rfl, rfl⟩
          cases hy : may (cnt p f)
          · have hz := hWF.out hy
            rw [hy] at *
            replace hz := Lib.hid hz
            clear hy
            go_wp2
            go_ret2
            exact ⟨_, _, rfl, hb.out, (by rw [hz.out]; rfl), rfl⟩
          · have hz := hWT.out hy
            replace hz := Lib.hid hz
            replace hy := Lib.hid hy
            go_wp2
            go_round
            case rel => exact ⟨j + 1, by omega, by go_num, hz.out⟩
            case measure => simp [intOf]; omega
    · have hz : wholeP may K f = true := wholeP_true fun t h => hm.out t h (by omega)
      replace hz := Lib.hid hz
      go_wp2
      go_ret2
      exact ⟨_, _, rfl, hb.out, (by rw [hz.out]; rfl), rfl⟩

theorem eg_onto1 (args : Array Value) (w : World) : (callFunc 81 args).run Tryd.prog w = .ok (.enter 81 args) w := by kernel_rfl
theorem eg_one1 (args : Array Value) (w : World) : (callFunc 83 args).run Tryd.prog w = .ok (.enter 83 args) w := by kernel_rfl
theorem onto1 (n : Int) (w : World) : Calls Tryd.prog 81 #[.int .i64 n] w fun e w' => e = .returned (.bool (mayOnto n)) ∧ w = w' := by
  go_enter Tryd.func81, Tryd.ntmps81
  go_wp2
  go_ret
  exact ⟨rfl, rfl⟩
theorem one1 (n : Int) (w : World) : Calls Tryd.prog 83 #[.int .i64 n] w fun e w' => e = .returned (.bool (mayOne n)) ∧ w = w' := by
  go_enter Tryd.func83, Tryd.ntmps83
  go_wp2
  go_ret
  exact ⟨rfl, rfl⟩

/-- What Onto, One answer. -/
def toldP (may : Int → Bool) (k : Int) (f : List Int) : Bool := if factP k f = none then wholeP may k f else false
theorem factP_none {k : Int} {f : List Int} (h : factP k f = none) : 1 ≤ k ∧ k ≤ 4 ∧ oddP f.length = true ∧ Syms k f := by
  unfold factP at h
  by_cases hk : k < 1 ∨ 4 < k
  · rw [if_pos hk] at h; cases h
  rw [if_neg hk] at h
  cases ho : oddP f.length
  · rw [ho, if_pos rfl] at h; cases h
  · rw [ho, if_neg (by decide)] at h
    exact ⟨by omega, by omega, rfl, numP_none h⟩

theorem whole_any (r : Nat → Addr) (k : Int) (v : Value) (F : Nat) (may : Int → Bool) (f : List Int) (w : World) (hg : Glob r w) (h : IntsAt w v f) (hl : f.length ≤ 17592186044416)
    (eg : ∀ args w, (callFunc F args).run Tryd.prog w = .ok (.enter F args) w)
    (hF : ∀ (n : Int) (w : World), Calls Tryd.prog F #[.int .i64 n] w fun e w' => e = .returned (.bool (may n)) ∧ w = w') :
    Calls Tryd.prog 80 #[.int .i64 k, v, .func (.func F) #[] #[]] w (Ret2 (fun x y w' => x = .bool (toldP may k f) ∧ ErrIs r w' (factP k f) y) w) := by
  cases hc : factP k f with
  | none =>
    obtain ⟨h1, h4, _, hs⟩ := factP_none hc
    refine (whole_ok r k v F may f w hg h hl hc h1 h4 hs eg hF).mono ?_
    rintro e w' ⟨x, y, he, hb, hx, hy⟩
    exact ⟨x, y, he, hb, by rw [hx, toldP, if_pos hc], hy⟩
  | some t =>
    refine (whole_bad r k v _ f t w hg h hl hc).mono ?_
    rintro e w' ⟨x, y, he, hb, hx, hy⟩
    exact ⟨x, y, he, hb, by rw [hx, toldP, if_neg (by rw [hc]; simp)], hy⟩

theorem add_onto (r : Nat → Addr) (k : Int) (v : Value) (f : List Int) (w : World) (hg : Glob r w) (h : IntsAt w v f) (hl : f.length ≤ 17592186044416) :
    Calls Tryd.prog 34 #[.int .i64 k, v] w (Ret2 (fun x y w' => x = .bool (toldP mayOnto k f) ∧ ErrIs r w' (factP k f) y) w) := by
  replace h := Lib.hid h
  replace hg := Lib.hid hg
  go_enter Tryd.func34, Tryd.ntmps34
  go_wp2_with fail
  refine (whole_any r k v _ mayOnto f _ hg.out h.out hl eg_onto1 onto1).mono ?_
  rintro e w' ⟨x, y, rfl, hb, hx, hy⟩
  replace hx := Lib.hid hx
  go_wp2
  go_ret2
  exact ⟨_, _, rfl, hb, hx.out, hy⟩
theorem add_one (r : Nat → Addr) (k : Int) (v : Value) (f : List Int) (w : World) (hg : Glob r w) (h : IntsAt w v f) (hl : f.length ≤ 17592186044416) :
    Calls Tryd.prog 36 #[.int .i64 k, v] w (Ret2 (fun x y w' => x = .bool (toldP mayOne k f) ∧ ErrIs r w' (factP k f) y) w) := by
  replace h := Lib.hid h
  replace hg := Lib.hid hg
  go_enter Tryd.func36, Tryd.ntmps36
  go_wp2_with fail
  refine (whole_any r k v _ mayOne f _ hg.out h.out hl eg_one1 one1).mono ?_
  rintro e w' ⟨x, y, rfl, hb, hx, hy⟩
  replace hx := Lib.hid hx
  go_wp2
  go_ret2
  exact ⟨_, _, rfl, hb, hx.out, hy⟩
end Go.Proofs.YtmddapkhipmlgaaDoor
