/-
  Walk: additive.Mul.
-/
import Derived.Test.YtmddapkhipmlgaaDoorAddOnto
namespace Go.Proofs.YtmddapkhipmlgaaDoor
open Go.RowKit
set_option maxRecDepth 100000

theorem oddP_true {n : Nat} (h : oddP n = true) : n % 2 = 1 ∧ n ≤ 7 := by
  simp [oddP] at h; exact h

theorem mul_bad1 (r : Nat → Addr) (k : Int) (v u : Value) (a : List Int) (t : Int × List (ByteArray × Int)) (w : World) (hg : Glob r w) (h : IntsAt w v a) (hl : a.length ≤ 17592186044416) (hc : factP k a = some t) :
    Calls Tryd.prog 15 #[.int .i64 k, v, u] w (Ret2 (fun x y w' => x = .slice none 0 0 ∧ ErrIs r w' (some t) y) w) := by
  replace h := Lib.hid h
  replace hg := Lib.hid hg
  replace hc := Lib.hid hc
  go_enter Tryd.func15, Tryd.ntmps15
  go_wp2_with fail
  refine (fact_any r k v a _ hg.out h.out hl).mono ?_
  rintro e w1 ⟨x, rfl, hb, he⟩
  rw [hc.out] at he
  have he' := Lib.hid he
  obtain ⟨T, p, rfl⟩ := he.some_shape
  clear he
  go_wp2
  go_ret2
  exact ⟨_, _, rfl, hb, rfl, he'.out⟩

theorem mul_bad2 (r : Nat → Addr) (k : Int) (v u : Value) (a b : List Int) (w : World) (hg : Glob r w) (h : IntsAt w v a) (h' : IntsAt w u b) (hl : a.length ≤ 17592186044416) (hl' : b.length ≤ 17592186044416) (hc : factP k a = none) (ho : oddP b.length = false) :
    Calls Tryd.prog 15 #[.int .i64 k, v, u] w (Ret2 (fun x y w' => x = .slice none 0 0 ∧ ErrIs r w' (fresh sAdditive 2 3) y) w) := by
  have hlen := h'.len
  replace h := Lib.hid h
  replace h' := Lib.hid h'
  replace hg := Lib.hid hg
  replace hc := Lib.hid hc
  replace ho := Lib.hid ho
  go_enter Tryd.func15, Tryd.ntmps15
  go_wp2_with fail
  refine (fact_any r k v a _ hg.out h.out hl).mono ?_
  rintro e w1 ⟨x, rfl, hb, he⟩
  rw [hc.out] at he
  obtain rfl := he.none_eq
  clear he
  go_wp2_with fail
  refine (odd_any _ _ hl').mono ?_
  rintro e w' ⟨rfl, rfl⟩
  rw [ho.out]
  go_wp2_with fail
  refine (add_wrong r _ _ _ (hg.out.below hb) (by decide) (by decide)).mono ?_
  rintro e w2 ⟨x, rfl, hb', he⟩
  go_wp2
  go_ret2
  exact ⟨_, _, rfl, hb.trans (hb'.mono hb.size), rfl, he⟩

theorem mul_bad3 (r : Nat → Addr) (k : Int) (v u : Value) (a b : List Int) (t : Int × List (ByteArray × Int)) (w : World) (hg : Glob r w) (h : IntsAt w v a) (h' : IntsAt w u b) (hl : a.length ≤ 17592186044416) (hl' : b.length ≤ 17592186044416) (hc : factP k a = none) (ho : oddP b.length = true) (hn : numP k b a.length = some t) :
    Calls Tryd.prog 15 #[.int .i64 k, v, u] w (Ret2 (fun x y w' => x = .slice none 0 0 ∧ ErrIs r w' (some t) y) w) := by
  have hlen := h'.len
  have hlen2 := h.len
  replace h := Lib.hid h
  replace h' := Lib.hid h'
  replace hg := Lib.hid hg
  replace hc := Lib.hid hc
  replace ho := Lib.hid ho
  replace hn := Lib.hid hn
  go_enter Tryd.func15, Tryd.ntmps15
  go_wp2_with fail
  refine (fact_any r k v a _ hg.out h.out hl).mono ?_
  rintro e w1 ⟨x, rfl, hb, he⟩
  rw [hc.out] at he
  obtain rfl := he.none_eq
  clear he
  go_wp2_with fail
  refine (odd_any _ _ hl').mono ?_
  rintro e w' ⟨rfl, rfl⟩
  rw [ho.out]
  go_wp2_with fail
  refine (numbers_any r _ _ u b _ (hg.out.below hb) (h'.out.below hb) hl' (by omega) (by omega)).mono ?_
  rintro e w2 ⟨x, rfl, hb', he⟩
  rw [hn.out] at he
  have he' := Lib.hid he
  obtain ⟨T, p, rfl⟩ := he.some_shape
  clear he
  go_wp2
  go_ret2
  exact ⟨_, _, rfl, hb.trans (hb'.mono hb.size), rfl, he'.out⟩

theorem mul_bad4 (r : Nat → Addr) (k : Int) (v u : Value) (a b : List Int) (w : World) (hg : Glob r w) (h : IntsAt w v a) (h' : IntsAt w u b) (hl : a.length ≤ 7) (hl1 : 1 ≤ a.length) (hl' : b.length ≤ 7) (hc : factP k a = none) (ho : oddP b.length = true) (hn : numP k b a.length = none) (ho2 : oddP (a.length + b.length - 1) = false) :
    Calls Tryd.prog 15 #[.int .i64 k, v, u] w (Ret2 (fun x y w' => x = .slice none 0 0 ∧ ErrIs r w' (fresh sAdditive 2 3) y) w) := by
  have hlen := h'.len
  have hlen2 := h.len
  replace h := Lib.hid h
  replace h' := Lib.hid h'
  replace hg := Lib.hid hg
  replace hc := Lib.hid hc
  replace ho := Lib.hid ho
  replace hn := Lib.hid hn
  replace ho2 := Lib.hid ho2
  have hcast : Hid ((a.length : Int) + (b.length : Int) - 1 = ((a.length + b.length - 1 : Nat) : Int)) := by show _ = _; omega
  go_enter Tryd.func15, Tryd.ntmps15
  go_wp2_with fail
  refine (fact_any r k v a _ hg.out h.out (by omega)).mono ?_
  rintro e w1 ⟨x, rfl, hb, he⟩
  rw [hc.out] at he
  obtain rfl := he.none_eq
  clear he
  go_wp2_with fail
  refine (odd_any _ _ (by omega)).mono ?_
  rintro e w' ⟨rfl, rfl⟩
  rw [ho.out]
  go_wp2_with fail
  refine (numbers_any r _ _ u b _ (hg.out.below hb) (h'.out.below hb) (by omega) (by omega) (by omega)).mono ?_
  rintro e w2 ⟨x, rfl, hb', he⟩
  rw [hn.out] at he
  obtain rfl := he.none_eq
  clear he
  go_wp2_with fail
  rw [hcast.out]
  refine (odd_any _ _ (by omega)).mono ?_
  rintro e w' ⟨rfl, rfl⟩
  rw [ho2.out]
  go_wp2_with fail
  refine (add_wrong r _ _ _ ((hg.out.below hb).below hb') (by decide) (by decide)).mono ?_
  rintro e w3 ⟨x, rfl, hb3, he⟩
  go_wp2
  go_ret2
  exact ⟨_, _, rfl, (hb.trans (hb'.mono hb.size)).trans (hb3.mono (Nat.le_trans hb.size hb'.size)), rfl, he⟩

set_option maxHeartbeats 1000000 in
theorem mul_ok (r : Nat → Addr) (K : Nat) (v u : Value) (a b : List Int) (w : World) (hg : Glob r w) (h : IntsAt w v a) (h' : IntsAt w u b) (hl : a.length ≤ 7) (hl1 : 1 ≤ a.length) (hl' : b.length ≤ 7) (hk1 : 1 ≤ K) (hk4 : K ≤ 4) (hsa : Syms K a) (hsb : Syms K b) (hc : factP K a = none) (ho : oddP b.length = true) (hn : numP K b a.length = none) (ho2 : oddP (a.length + b.length - 1) = true) :
    Calls Tryd.prog 15 #[.int .i64 K, v, u] w (Ret2 (fun x y w' => OwnI w.heap.size w' x (mulL K a b) ∧ y = .nilIface) w) := by
  have hlen := h'.len
  have hlen2 := h.len
  have hb1 : 1 ≤ b.length := by have := oddP_true ho; omega
  replace h := Lib.hid h
  replace h' := Lib.hid h'
  replace hg := Lib.hid hg
  replace hc := Lib.hid hc
  replace ho := Lib.hid ho
  replace hn := Lib.hid hn
  replace ho2 := Lib.hid ho2
  replace hsa := Lib.hid hsa
  replace hsb := Lib.hid hsb
  have hcast : Hid ((a.length : Int) + (b.length : Int) - 1 = ((a.length + b.length - 1 : Nat) : Int)) := by show _ = _; omega
  go_enter Tryd.func15, Tryd.ntmps15
  go_wp2_with fail
  refine (fact_any r K v a _ hg.out h.out (by omega)).mono ?_
  rintro e w1 ⟨x, rfl, hb, he⟩
  rw [hc.out] at he
  obtain rfl := he.none_eq
  clear he
  go_wp2_with fail
  refine (odd_any _ _ (by omega)).mono ?_
  rintro e w' ⟨rfl, rfl⟩
  rw [ho.out]
  go_wp2_with fail
  refine (numbers_any r _ _ u b _ (hg.out.below hb) (h'.out.below hb) (by omega) (by omega) (by omega)).mono ?_
  rintro e w2 ⟨x, rfl, hb', he⟩
  rw [hn.out] at he
  obtain rfl := he.none_eq
  clear he
  replace hb' := hb.trans (hb'.mono hb.size)
  clear hb
  go_wp2_with fail
  rw [hcast.out]
  refine (odd_any _ _ (by omega)).mono ?_
  rintro e w' ⟨rfl, rfl⟩
  rw [ho2.out]
  go_wp2_with (at_make; refine wpl_make rfl _ _ rfl _ rfl rfl (by omega) (by omega) ?_)
  intro ov w3 hout hb3
  have hn0 : ((a.length : Int) + (b.length : Int)).toNat - 1 = a.length + b.length - 1 := by omega
  rw [hn0] at hout
  clear hn0
  go_wp2
  go_loopw [52] (fun i wr => ∃ s : Nat, s ≤ a.length ∧ i = .int .i64 s ∧ OwnI w2.heap.size wr ov (mulAll K a b s) ∧ Below w2.heap.size w2 wr) (fun i _ => a.length - (intOf i).toNat)
  case atStart => exact ⟨0, by omega, rfl, hout, hb3⟩
  case round =>
    obtain ⟨s, hs, rfl, hos, hbs⟩ := hrel
    obtain ⟨wo, rfl⟩ : ∃ wo : World, wo = wr := ⟨_, rfl⟩
    by_cases hlt : s < a.length
    · have haw := h.out.below (hb'.trans (hbs.mono hb'.size))
      have i1 := haw.idx s hlt
      have c1 := haw.cellD s hlt
      have hx := Syms.getD (by omega) hsa.out s
      have hnx : Hid (mulAll K a b (s + 1) = mulRow K s (a.getD s 0) b b.length (mulAll K a b s)) := rfl
      have hol : (mulAll K a b s).length = a.length + b.length - 1 := mulAll_length ..
      have hosy := mulAll_syms hk1 a b s
      generalize a.getD s 0 = x at c1 hx hnx
      generalize mulAll K a b s = O at hos hnx hol hosy
      replace hosy := Lib.hid hosy
      replace hol := Lib.hid hol
      go_wp2
      go_loopw [59] (fun i wr => ∃ q : Nat, q ≤ b.length ∧ i = .int .i64 q ∧ OwnI w2.heap.size wr ov (mulRow K s x b q O) ∧ Below w2.heap.size w2 wr) (fun i _ => b.length - (intOf i).toNat)
      case atStart => exact ⟨0, by omega, rfl, hos, hbs⟩
      case round =>
        obtain ⟨q, hq, rfl, hoq, hbq⟩ := hrel
        obtain ⟨wi, rfl⟩ : ∃ wi : World, wi = wr := ⟨_, rfl⟩
        by_cases hql : q < b.length
        · have hbw := h'.out.below (hb'.trans (hbq.mono hb'.size))
          have i2 := hbw.idx q hql
          have c2 := hbw.cellD q hql
          have hy := Syms.getD (by omega) hsb.out q
          have hpl : s + q < (mulRow K s x b q O).length := by rw [mulRow_length, hol.out]; omega
          have i3 : ∀ w', (Instr.indexAt 22 ov (.int .i64 ((s : Int) + (q : Int)))).run Tryd.prog w' = .ok (.pointer (some (valAt ov (s + q)))) w' := hoq.at.idx (s + q) hpl
          have c3 := hoq.at.cellD (s + q) hpl
          have f3 := hoq.frz (s + q) hpl
          have hz := Syms.getD (by omega) (mulRow_syms hk1 s x b q hosy.out) (s + q)
          have hnq : Hid (mulRow K s x b (q + 1) O = (mulRow K s x b q O).set (s + q) (((mulRow K s x b q O).getD (s + q) 0 + x * b.getD q 0) % K)) := rfl
          generalize b.getD q 0 = y at c2 hy hnq
          generalize (mulRow K s x b q O).getD (s + q) 0 = z at c3 hz hnq
          have hm := mul3 (x := x) (s := y) ⟨hx.1, by omega⟩ ⟨hy.1, by omega⟩
          have hset := Lib.hid (hoq.set (s + q) hpl ((z + x * y) % K))
          have hsb' := Lib.hid (hoq.setBelow hbq (s + q) hpl (.int .i64 ((z + x * y) % K)))
          go_wp2
          go_roundw
          case rel => exact ⟨q + 1, by omega, by go_num, by rw [hnq.out]; exact hset.out, hsb'.out⟩
          case measure => simp [intOf]; omega
        · obtain rfl : q = b.length := by omega
          go_wp2
          go_roundw
          case rel => exact ⟨s + 1, by omega, by go_num, by rw [hnx.out]; exact hoq, hbq⟩
          case measure => simp [intOf]; omega
    · obtain rfl : s = a.length := by omega
      go_wp2
      go_ret2
      exact ⟨_, _, rfl, hb'.trans (hbs.mono hb'.size), hos.mono hb'.size, rfl⟩

/-- additive.Mul at all factors. -/
theorem mul_any (r : Nat → Addr) (k : Int) (v u : Value) (a b : List Int) (w : World) (hg : Glob r w) (h : IntsAt w v a) (h' : IntsAt w u b) (hl : a.length ≤ 17592186044416) (hl' : b.length ≤ 17592186044416) :
    Calls Tryd.prog 15 #[.int .i64 k, v, u] w (Ret2 (fun x y w' => ErrIs r w' (mulP k a b) y ∧ (mulP k a b = none → OwnI w.heap.size w' x (mulL k.toNat a b)) ∧ (mulP k a b ≠ none → x = .slice none 0 0)) w) := by
  cases hc : factP k a with
  | some t =>
    have e : mulP k a b = some t := by simp [mulP, hc]
    refine (mul_bad1 r k v u a t w hg h hl hc).mono ?_
    rintro e1 w' ⟨x, y, he, hb, hx, hy⟩
    exact ⟨x, y, he, hb, by rw [e]; exact hy, (fun h => by rw [e] at h; cases h), fun _ => hx⟩
  | none =>
    obtain ⟨hk1, hk4, ho1, hsa⟩ := factP_none hc
    have ho1' := oddP_true ho1
    cases ho : oddP b.length with
    | false =>
      have e : mulP k a b = fresh sAdditive 2 3 := by simp [mulP, hc, ho]
      refine (mul_bad2 r k v u a b w hg h h' hl hl' hc ho).mono ?_
      rintro e1 w' ⟨x, y, he, hb, hx, hy⟩
      exact ⟨x, y, he, hb, by rw [e]; exact hy, (fun h => by rw [e] at h; cases h), fun _ => hx⟩
    | true =>
      have ho' := oddP_true ho
      cases hn : numP k b a.length with
      | some t =>
        have e : mulP k a b = some t := by simp [mulP, hc, ho, hn]
        refine (mul_bad3 r k v u a b t w hg h h' hl hl' hc ho hn).mono ?_
        rintro e1 w' ⟨x, y, he, hb, hx, hy⟩
        exact ⟨x, y, he, hb, by rw [e]; exact hy, (fun h => by rw [e] at h; cases h), fun _ => hx⟩
      | none =>
        cases ho2 : oddP (a.length + b.length - 1) with
        | false =>
          have e : mulP k a b = fresh sAdditive 2 3 := by simp [mulP, hc, ho, hn, ho2]
          refine (mul_bad4 r k v u a b w hg h h' ho1'.2 (by omega) ho'.2 hc ho hn ho2).mono ?_
          rintro e1 w' ⟨x, y, he, hb, hx, hy⟩
          exact ⟨x, y, he, hb, by rw [e]; exact hy, (fun h => by rw [e] at h; cases h), fun _ => hx⟩
        | true =>
          have e : mulP k a b = none := by simp [mulP, hc, ho, hn, ho2]
          obtain ⟨K, rfl⟩ := Int.eq_ofNat_of_zero_le (show 0 ≤ k by omega)
          refine (mul_ok r K v u a b w hg h h' ho1'.2 (by omega) ho'.2 (by omega) (by omega) hsa (numP_none hn) hc ho hn ho2).mono ?_
          rintro e1 w' ⟨x, y, he, hb, hx, hy⟩
          exact ⟨x, y, he, hb, by rw [e]; exact hy, fun _ => by rw [Int.toNat_natCast]; exact hx, fun h => absurd e h⟩
end Go.Proofs.YtmddapkhipmlgaaDoor
