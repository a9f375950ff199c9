/-
  Walks: forms.behind, forms.check, forms.wrong, forms.Compose.
-/
import Derived.Test.YtmddapkhipmlgaaDoorMade
namespace Go.Proofs.YtmddapkhipmlgaaDoor
open Go.RowKit
set_option maxRecDepth 100000

abbrev zR : Value := .agg #[.int .i64 0, .int .i64 0, .slice none 0 0]
def sForms : ByteArray := ⟨#[102, 111, 114, 109, 115]⟩
theorem madeP_behind (K R1 : Nat) (T1 : List Int) (R2 : Nat) (T2 : List Int) :
    madeP K (2 * (R1 + R2) + 1) (fun ys => T1.getD (numW K (imgP K R2 T2 ys)) 0) (pw K (2 * (R1 + R2) + 1)) = behindT K R1 T1 R2 T2 := rfl

theorem eg_behind1 (args : Array Value) (w : World) : (callFunc 101 args).run Tryd.prog w = .ok (.enter 101 args) w := by kernel_rfl

set_option maxHeartbeats 800000 in
theorem behind_any (K R1 R2 : Nat) (va : Option Addr) (vn vc : Nat) (T1 : List Int) (ua : Option Addr) (un uc : Nat) (T2 : List Int) (w : World)
    (h1 : IntsAt w (.slice va vn vc) T1) (hr1 : RuleOk K R1 T1) (h2 : IntsAt w (.slice ua un uc) T2) (hr2 : RuleOk K R2 T2) (hR : R1 + R2 ≤ 3) :
    Calls Tryd.prog 61 #[.agg #[.int .i64 K, .int .i64 R1, .slice va vn vc], .agg #[.int .i64 K, .int .i64 R2, .slice ua un uc]] w
      (Ret1 (fun x w' => ∃ a n c, x = .agg #[.int .i64 K, .int .i64 ((R1 + R2 : Nat) : Int), .slice a n c] ∧ OwnI w.heap.size w' (.slice a n c) (behindT K R1 T1 R2 T2)) w) := by
  have hk1 := hr1.k1
  have hk4 := hr1.k4
  have b0 := belowAlloc w (.cells #[.int .i64 K, .int .i64 R1, .slice va vn vc] 24)
  have b1 := Below.step (Below.step b0 (belowAlloc _ (.cells #[.int .i64 K, .int .i64 R2, .slice ua un uc] 24))) (belowAlloc _ (.cells #[.int .i64 0, .int .i64 0, .slice none 0 0] 24))
  replace h1 := Lib.hid (h1.below b1)
  replace h2 := Lib.hid (h2.below b1)
  replace hr1 := Lib.hid hr1
  replace hr2 := Lib.hid hr2
  go_enter Tryd.func61, Tryd.ntmps61
  go_wp2_with fail
  refine (made_two K (R1 + R2) 101 _ _ (fun ys => T1.getD (numW K (imgP K R2 T2 ys)) 0) _ hk1 hk4 hR _ (by omega) eg_behind1 ?_).mono ?_
  · intro v ys w' hb hv hy hyl
    obtain ⟨x0, x1, x2⟩ := keep3 (n := w.heap.size + 1) (a := .int .i64 K) (b := .int .i64 R2) (c := .slice ua un uc) hb ⟨by simp [go_sem], by simp [go_sem], by simp [go_sem]⟩
    obtain ⟨y0, y1, y2⟩ := keep3 (n := w.heap.size) (a := .int .i64 K) (b := .int .i64 R1) (c := .slice va vn vc) hb ⟨by simp [go_sem], by simp [go_sem], by simp [go_sem]⟩
    exact behind1_any K R1 R2 va vn vc T1 ua un uc T2 _ _ v ys w' (h1.out.below hb) hr1.out (h2.out.below hb) hr2.out hv hy hyl x0 x1 x2 y0 y1 y2
  · rintro e w1 ⟨x, rfl, hb, a, n, c, rfl, ho⟩
    rw [madeP_behind] at ho
    replace ho := Lib.hid ho
    obtain ⟨y0, y1, y2, f0, f1, f2⟩ := cells3 hb
    rw [show ((w.alloc (.cells #[.int .i64 K, .int .i64 R1, .slice va vn vc] 24)).alloc (.cells #[.int .i64 K, .int .i64 R2, .slice ua un uc] 24)).heap.size = w.heap.size + 1 + 1 by simp] at y0 y1 y2 f0 f1 f2
    go_wp2
    refine bodyPost_ret (v := .agg #[.int .i64 K, .int .i64 ((R1 + R2 : Nat) : Int), .slice a n c]) (by simp [results, Tryd.results61, go_sem, y0, y1, y2]) rfl ⟨_, rfl, ?_, a, n, c, rfl, ?_⟩
    · exact (((Below.step b1 hb).setCell (by simp; omega) _).setCell (by simp; omega) _).setCell (by simp; omega) _
    · exact (((ho.out.setBelowBase (a := ⟨w.heap.size + 1 + 1, 0, none⟩) (by simp) _).setBelowBase (a := ⟨w.heap.size + 1 + 1, 1, none⟩) (by simp) _).setBelowBase (a := ⟨w.heap.size + 1 + 1, 2, none⟩) (by simp) _).mono (by simp; omega)

theorem forms_wrong (r : Nat → Addr) (at_ n : Int) (w : World) (hg : Glob r w) (h1 : 1 ≤ n) (h2 : n ≤ 11) :
    Calls Tryd.prog 60 #[.int .i64 at_, .int .i64 n] w (Ret1 (fun v w' => ErrIs r w' (fresh sForms at_ n) v) w) := by
  go_enter Tryd.func60, Tryd.ntmps60
  go_wp2_with fail
  refine (new_any r _ at_ n w hg h1 h2).mono ?_
  rintro e w' ⟨v, rfl, hb, he⟩
  go_wp2
  go_ret
  exact ⟨_, rfl, hb, he⟩

theorem forms_check (r : Nat → Addr) (at_ : Int) (k R : Int) (va : Option Addr) (vn vc : Nat) (xs : List Int) (w : World) (hg : Glob r w) (h : IntsAt w (.slice va vn vc) xs) :
    Calls Tryd.prog 59 #[.int .i64 at_, .agg #[.int .i64 k, .int .i64 R, .slice va vn vc]] w (Ret1 (fun x w' => ErrIs r w' (under sForms at_ (checkP k R xs)) x) w) := by
  have hb0 := belowAlloc w (.cells #[.int .i64 k, .int .i64 R, .slice va vn vc] 24)
  replace hg := Lib.hid (hg.below hb0)
  replace h := Lib.hid (h.below hb0)
  go_enter Tryd.func59, Tryd.ntmps59
  go_wp2_with fail
  refine (check_any r k R _ xs _ hg.out h.out).mono ?_
  rintro e w1 ⟨x, rfl, hb, he⟩
  go_wp2_with fail
  refine (under_any r _ _ _ _ _ he).mono ?_
  rintro e w2 ⟨x, rfl, hb', he⟩
  go_wp2
  go_ret
  exact ⟨_, rfl, Below.step hb0 (Below.step hb hb'), he⟩

/-- forms.Compose's fault. -/
def composeP (k R : Int) (T : List Int) (k' R' : Int) (T' : List Int) : PErr :=
  match checkP k R T with
  | some t => under sForms 0 (some t)
  | none => match checkP k' R' T' with
    | some t => under sForms 1 (some t)
    | none => if k ≠ k' then fresh sForms 1 3 else if 3 < R + R' then fresh sForms 0 4 else none


/-- Two rules boxed, and a result's variable: their cells stay. -/
theorem cells9 {w w1 : World} {x0 x1 x2 x3 x4 x5 x6 x7 x8 : Value} {T1 T2 T3 : TypeId} (hb : Below (((w.alloc (.cells #[x0, x1, x2] T1)).alloc (.cells #[x3, x4, x5] T2)).alloc (.cells #[x6, x7, x8] T3)).heap.size (((w.alloc (.cells #[x0, x1, x2] T1)).alloc (.cells #[x3, x4, x5] T2)).alloc (.cells #[x6, x7, x8] T3)) w1) :
    (w1.cell? ⟨w.heap.size, 0, none⟩ = some x0 ∧ w1.cell? ⟨w.heap.size, 1, none⟩ = some x1 ∧ w1.cell? ⟨w.heap.size, 2, none⟩ = some x2) ∧
    (w1.cell? ⟨w.heap.size + 1, 0, none⟩ = some x3 ∧ w1.cell? ⟨w.heap.size + 1, 1, none⟩ = some x4 ∧ w1.cell? ⟨w.heap.size + 1, 2, none⟩ = some x5) ∧
    (w1.cell? ⟨w.heap.size + 1 + 1, 0, none⟩ = some x6 ∧ w1.cell? ⟨w.heap.size + 1 + 1, 1, none⟩ = some x7 ∧ w1.cell? ⟨w.heap.size + 1 + 1, 2, none⟩ = some x8) ∧
    (w1.frozen? ⟨w.heap.size + 1 + 1, 0, none⟩ = false ∧ w1.frozen? ⟨w.heap.size + 1 + 1, 1, none⟩ = false ∧ w1.frozen? ⟨w.heap.size + 1 + 1, 2, none⟩ = false) := by
  refine ⟨keep3 (n := w.heap.size) hb ⟨by simp [go_sem], by simp [go_sem], by simp [go_sem]⟩, keep3 (n := w.heap.size + 1) hb ⟨by simp [go_sem], by simp [go_sem], by simp [go_sem]⟩, ?_⟩
  have := cells3 hb
  rw [show ((w.alloc (.cells #[x0, x1, x2] T1)).alloc (.cells #[x3, x4, x5] T2)).heap.size = w.heap.size + 1 + 1 by simp] at this
  exact ⟨⟨this.1, this.2.1, this.2.2.1⟩, this.2.2.2⟩

set_option maxHeartbeats 800000 in
theorem compose_bad1 (r : Nat → Addr) (k R : Int) (va : Option Addr) (vn vc : Nat) (T : List Int) (k' R' : Int) (ua : Option Addr) (un uc : Nat) (t : Int × List (ByteArray × Int)) (w : World) (hg : Glob r w)
    (h : IntsAt w (.slice va vn vc) T) (hc : checkP k R T = some t) :
    Calls Tryd.prog 25 #[.agg #[.int .i64 k, .int .i64 R, .slice va vn vc], .agg #[.int .i64 k', .int .i64 R', .slice ua un uc]] w (Ret2 (fun x y w' => x = zR ∧ ErrIs r w' (under sForms 0 (some t)) y) w) := by
  replace hc := Lib.hid hc
  have b1 := Below.step (Below.step (belowAlloc w (.cells #[.int .i64 k, .int .i64 R, .slice va vn vc] 24)) (belowAlloc _ (.cells #[.int .i64 k', .int .i64 R', .slice ua un uc] 24))) (belowAlloc _ (.cells #[.int .i64 0, .int .i64 0, .slice none 0 0] 24))
  replace hg := Lib.hid (hg.below b1)
  replace h := Lib.hid (h.below b1)
  go_enter Tryd.func25, Tryd.ntmps25
  go_wp2_with fail
  refine (forms_check r _ k R va vn vc T _ hg.out h.out).mono ?_
  rintro e w1 ⟨x, rfl, hb, he⟩
  rw [hc.out] at he
  obtain ⟨T1, a1, rfl⟩ := ErrIs.some_shape he
  replace he := Lib.hid he
  obtain ⟨-, -, ⟨y0, y1, y2⟩, f0, f1, f2⟩ := cells9 hb
  go_wp2
  rw [setCell_self3 y0 y1 y2]
  exact bodyPost_ret (v := .tuple #[zR, .iface T1 (.pointer (some a1))]) (by simp [results, Tryd.results25, go_sem, y0, y1, y2]) rfl ⟨_, _, rfl, Below.step b1 hb, rfl, he.out⟩

set_option maxHeartbeats 800000 in
theorem compose_bad2 (r : Nat → Addr) (k R : Int) (va : Option Addr) (vn vc : Nat) (T : List Int) (k' R' : Int) (ua : Option Addr) (un uc : Nat) (T' : List Int) (t : Int × List (ByteArray × Int)) (w : World) (hg : Glob r w)
    (h : IntsAt w (.slice va vn vc) T) (h' : IntsAt w (.slice ua un uc) T') (hc : checkP k R T = none) (hc' : checkP k' R' T' = some t) :
    Calls Tryd.prog 25 #[.agg #[.int .i64 k, .int .i64 R, .slice va vn vc], .agg #[.int .i64 k', .int .i64 R', .slice ua un uc]] w (Ret2 (fun x y w' => x = zR ∧ ErrIs r w' (under sForms 1 (some t)) y) w) := by
  replace hc := Lib.hid hc
  replace hc' := Lib.hid hc'
  have b1 := Below.step (Below.step (belowAlloc w (.cells #[.int .i64 k, .int .i64 R, .slice va vn vc] 24)) (belowAlloc _ (.cells #[.int .i64 k', .int .i64 R', .slice ua un uc] 24))) (belowAlloc _ (.cells #[.int .i64 0, .int .i64 0, .slice none 0 0] 24))
  replace hg := Lib.hid (hg.below b1)
  replace h := Lib.hid (h.below b1)
  replace h' := Lib.hid (h'.below b1)
  go_enter Tryd.func25, Tryd.ntmps25
  go_wp2_with fail
  refine (forms_check r _ k R va vn vc T _ hg.out h.out).mono ?_
  rintro e w1 ⟨x, rfl, hb, he⟩
  rw [hc.out] at he
  obtain rfl := ErrIs.none_eq he
  clear he
  obtain ⟨⟨x0, x1, x2⟩, ⟨z0, z1, z2⟩, ⟨y0, y1, y2⟩, f0, f1, f2⟩ := cells9 hb
  go_wp2_with fail
  refine (forms_check r _ k' R' ua un uc T' _ (hg.out.below hb) (h'.out.below hb)).mono ?_
  rintro e w2 ⟨x, rfl, hb', he⟩
  rw [hc'.out] at he
  clear x0 x1 x2 z0 z1 z2 y0 y1 y2 f0 f1 f2
  obtain ⟨-, -, ⟨y0, y1, y2⟩, f0, f1, f2⟩ := cells9 (Below.step hb hb')
  obtain ⟨T1, a1, rfl⟩ := ErrIs.some_shape he
  replace he := Lib.hid he
  go_wp2
  rw [setCell_self3 y0 y1 y2]
  exact bodyPost_ret (v := .tuple #[zR, .iface T1 (.pointer (some a1))]) (by simp [results, Tryd.results25, go_sem, y0, y1, y2]) rfl ⟨_, _, rfl, Below.step b1 (Below.step hb hb'), rfl, he.out⟩

set_option maxHeartbeats 800000 in
theorem compose_bad3 (r : Nat → Addr) (k R : Int) (va : Option Addr) (vn vc : Nat) (T : List Int) (k' R' : Int) (ua : Option Addr) (un uc : Nat) (T' : List Int) (w : World) (hg : Glob r w)
    (h : IntsAt w (.slice va vn vc) T) (h' : IntsAt w (.slice ua un uc) T') (hc : checkP k R T = none) (hc' : checkP k' R' T' = none) (hk : k ≠ k') :
    Calls Tryd.prog 25 #[.agg #[.int .i64 k, .int .i64 R, .slice va vn vc], .agg #[.int .i64 k', .int .i64 R', .slice ua un uc]] w (Ret2 (fun x y w' => x = zR ∧ ErrIs r w' (fresh sForms 1 3) y) w) := by
  replace hc := Lib.hid hc
  replace hc' := Lib.hid hc'
  have hkb : (k != k') = true := by rw [bne_iff_ne]; exact hk
  clear hk
  have b1 := Below.step (Below.step (belowAlloc w (.cells #[.int .i64 k, .int .i64 R, .slice va vn vc] 24)) (belowAlloc _ (.cells #[.int .i64 k', .int .i64 R', .slice ua un uc] 24))) (belowAlloc _ (.cells #[.int .i64 0, .int .i64 0, .slice none 0 0] 24))
  replace hg := Lib.hid (hg.below b1)
  replace h := Lib.hid (h.below b1)
  replace h' := Lib.hid (h'.below b1)
  go_enter Tryd.func25, Tryd.ntmps25
  go_wp2_with fail
  refine (forms_check r _ k R va vn vc T _ hg.out h.out).mono ?_
  rintro e w1 ⟨x, rfl, hb, he⟩
  rw [hc.out] at he
  obtain rfl := ErrIs.none_eq he
  clear he
  obtain ⟨⟨x0, x1, x2⟩, ⟨z0, z1, z2⟩, ⟨y0, y1, y2⟩, f0, f1, f2⟩ := cells9 hb
  go_wp2_with fail
  refine (forms_check r _ k' R' ua un uc T' _ (hg.out.below hb) (h'.out.below hb)).mono ?_
  rintro e w2 ⟨x, rfl, hb', he⟩
  rw [hc'.out] at he
  obtain rfl := ErrIs.none_eq he
  clear x0 x1 x2 z0 z1 z2 y0 y1 y2 f0 f1 f2 he
  obtain ⟨⟨x0, x1, x2⟩, ⟨z0, z1, z2⟩, ⟨y0, y1, y2⟩, f0, f1, f2⟩ := cells9 (Below.step hb hb')
  go_wp2_with fail
  refine (forms_wrong r _ _ _ ((hg.out.below hb).below hb') (by decide) (by decide)).mono ?_
  rintro e w3 ⟨x, rfl, hb3, he⟩
  clear x0 x1 x2 z0 z1 z2 y0 y1 y2 f0 f1 f2
  obtain ⟨-, -, ⟨y0, y1, y2⟩, f0, f1, f2⟩ := cells9 (Below.step (Below.step hb hb') hb3)
  obtain ⟨T1, a1, rfl⟩ := ErrIs.some_shape he
  replace he := Lib.hid he
  go_wp2
  rw [setCell_self3 y0 y1 y2]
  exact bodyPost_ret (v := .tuple #[zR, .iface T1 (.pointer (some a1))]) (by simp [results, Tryd.results25, go_sem, y0, y1, y2]) rfl ⟨_, _, rfl, Below.step b1 (Below.step (Below.step hb hb') hb3), rfl, he.out⟩

set_option maxHeartbeats 800000 in
theorem compose_bad4 (r : Nat → Addr) (K Q Q' : Nat) (va : Option Addr) (vn vc : Nat) (T : List Int) (ua : Option Addr) (un uc : Nat) (T' : List Int) (w : World) (hg : Glob r w)
    (h : IntsAt w (.slice va vn vc) T) (h' : IntsAt w (.slice ua un uc) T') (hc : RuleOk K Q T) (hc' : RuleOk K Q' T') (hR : 3 < Q + Q') :
    Calls Tryd.prog 25 #[.agg #[.int .i64 K, .int .i64 Q, .slice va vn vc], .agg #[.int .i64 K, .int .i64 Q', .slice ua un uc]] w (Ret2 (fun x y w' => x = zR ∧ ErrIs r w' (fresh sForms 0 4) y) w) := by
  have hq := hc.r3
  have hq' := hc'.r3
  have hRi : (3 : Int) < (Q : Int) + (Q' : Int) := by omega
  replace hc := hc.check
  replace hc' := hc'.check
  obtain ⟨k, hk⟩ : ∃ k : Int, k = K := ⟨_, rfl⟩
  obtain ⟨R, hr⟩ : ∃ k : Int, k = Q := ⟨_, rfl⟩
  obtain ⟨R', hr'⟩ : ∃ k : Int, k = Q' := ⟨_, rfl⟩
  have hr0 : 0 ≤ R := by omega
  have hr3 : R ≤ 3 := by omega
  have hr0' : 0 ≤ R' := by omega
  have hr3' : R' ≤ 3 := by omega
  rw [← hk, ← hr] at hc
  rw [← hk, ← hr'] at hc'
  rw [← hr, ← hr'] at hRi
  rw [← hk, ← hr, ← hr']
  clear hk hr hr'
  replace hc := Lib.hid hc
  replace hc' := Lib.hid hc'
  have hkb : (k != k) = false := by simp
  have b1 := Below.step (Below.step (belowAlloc w (.cells #[.int .i64 k, .int .i64 R, .slice va vn vc] 24)) (belowAlloc _ (.cells #[.int .i64 k, .int .i64 R', .slice ua un uc] 24))) (belowAlloc _ (.cells #[.int .i64 0, .int .i64 0, .slice none 0 0] 24))
  replace hg := Lib.hid (hg.below b1)
  replace h := Lib.hid (h.below b1)
  replace h' := Lib.hid (h'.below b1)
  go_enter Tryd.func25, Tryd.ntmps25
  go_wp2_with fail
  refine (forms_check r _ k R va vn vc T _ hg.out h.out).mono ?_
  rintro e w1 ⟨x, rfl, hb, he⟩
  rw [hc.out] at he
  obtain rfl := ErrIs.none_eq he
  clear he
  obtain ⟨⟨x0, x1, x2⟩, ⟨z0, z1, z2⟩, ⟨y0, y1, y2⟩, f0, f1, f2⟩ := cells9 hb
  go_wp2_with fail
  refine (forms_check r _ k R' ua un uc T' _ (hg.out.below hb) (h'.out.below hb)).mono ?_
  rintro e w2 ⟨x, rfl, hb', he⟩
  rw [hc'.out] at he
  obtain rfl := ErrIs.none_eq he
  clear x0 x1 x2 z0 z1 z2 y0 y1 y2 f0 f1 f2 he
  obtain ⟨⟨x0, x1, x2⟩, ⟨z0, z1, z2⟩, ⟨y0, y1, y2⟩, f0, f1, f2⟩ := cells9 (Below.step hb hb')
  go_wp2_with fail
  refine (forms_wrong r _ _ _ ((hg.out.below hb).below hb') (by decide) (by decide)).mono ?_
  rintro e w3 ⟨x, rfl, hb3, he⟩
  clear x0 x1 x2 z0 z1 z2 y0 y1 y2 f0 f1 f2
  obtain ⟨-, -, ⟨y0, y1, y2⟩, f0, f1, f2⟩ := cells9 (Below.step (Below.step hb hb') hb3)
  obtain ⟨T1, a1, rfl⟩ := ErrIs.some_shape he
  replace he := Lib.hid he
  go_wp2
  rw [setCell_self3 y0 y1 y2]
  exact bodyPost_ret (v := .tuple #[zR, .iface T1 (.pointer (some a1))]) (by simp [results, Tryd.results25, go_sem, y0, y1, y2]) rfl ⟨_, _, rfl, Below.step b1 (Below.step (Below.step hb hb') hb3), rfl, he.out⟩

set_option maxHeartbeats 800000 in
theorem compose_ok (r : Nat → Addr) (K Q Q' : Nat) (va : Option Addr) (vn vc : Nat) (T : List Int) (ua : Option Addr) (un uc : Nat) (T' : List Int) (w : World) (hg : Glob r w)
    (h : IntsAt w (.slice va vn vc) T) (h' : IntsAt w (.slice ua un uc) T') (hc : RuleOk K Q T) (hc' : RuleOk K Q' T') (hR : Q + Q' ≤ 3) :
    Calls Tryd.prog 25 #[.agg #[.int .i64 K, .int .i64 Q, .slice va vn vc], .agg #[.int .i64 K, .int .i64 Q', .slice ua un uc]] w (Ret2 (fun x y w' => y = .nilIface ∧ ∃ a n c, x = .agg #[.int .i64 K, .int .i64 ((Q + Q' : Nat) : Int), .slice a n c] ∧ OwnI w.heap.size w' (.slice a n c) (behindT K Q T Q' T')) w) := by
  have b1 := Below.step (Below.step (belowAlloc w (.cells #[.int .i64 K, .int .i64 Q, .slice va vn vc] 24)) (belowAlloc _ (.cells #[.int .i64 K, .int .i64 Q', .slice ua un uc] 24))) (belowAlloc _ (.cells #[.int .i64 0, .int .i64 0, .slice none 0 0] 24))
  have hRi : (Q : Int) + (Q' : Int) ≤ 3 := by omega
  have hkb : ((K : Int) != (K : Int)) = false := by simp
  have d1 := Lib.hid hc.check
  have d2 := Lib.hid hc'.check
  replace hc := Lib.hid hc
  replace hc' := Lib.hid hc'
  replace hg := Lib.hid (hg.below b1)
  replace h := Lib.hid (h.below b1)
  replace h' := Lib.hid (h'.below b1)
  go_enter Tryd.func25, Tryd.ntmps25
  go_wp2_with fail
  refine (forms_check r _ K Q va vn vc T _ hg.out h.out).mono ?_
  rintro e w1 ⟨x, rfl, hb, he⟩
  rw [d1.out] at he
  obtain rfl := ErrIs.none_eq he
  clear he
  obtain ⟨⟨x0, x1, x2⟩, ⟨z0, z1, z2⟩, ⟨y0, y1, y2⟩, f0, f1, f2⟩ := cells9 hb
  go_wp2_with fail
  refine (forms_check r _ K Q' ua un uc T' _ (hg.out.below hb) (h'.out.below hb)).mono ?_
  rintro e w2 ⟨x, rfl, hb', he⟩
  rw [d2.out] at he
  obtain rfl := ErrIs.none_eq he
  clear x0 x1 x2 z0 z1 z2 y0 y1 y2 f0 f1 f2 he
  have hb2 := Below.step hb hb'
  obtain ⟨⟨x0, x1, x2⟩, ⟨z0, z1, z2⟩, ⟨y0, y1, y2⟩, f0, f1, f2⟩ := cells9 hb2
  go_wp2_with fail
  refine (behind_any K Q Q' va vn vc T ua un uc T' _ (h.out.below hb2) hc.out (h'.out.below hb2) hc'.out hR).mono ?_
  rintro e w3 ⟨x, rfl, hb3, a, n, c, rfl, ho⟩
  clear x0 x1 x2 z0 z1 z2 y0 y1 y2 f0 f1 f2
  obtain ⟨-, -, ⟨y0, y1, y2⟩, f0, f1, f2⟩ := cells9 (Below.step hb2 hb3)
  have hsz := hb2.size
  simp at hsz
  replace ho := Lib.hid ho
  go_wp2
  refine bodyPost_ret (v := .tuple #[.agg #[.int .i64 K, .int .i64 ((Q + Q' : Nat) : Int), .slice a n c], .nilIface]) (by simp [results, Tryd.results25, go_sem, y0, y1, y2]) rfl ⟨_, _, rfl, ?_, rfl, a, n, c, rfl, ?_⟩
  · exact (((Below.step b1 (Below.step hb2 hb3)).setCell (by simp; omega) _).setCell (by simp; omega) _).setCell (by simp; omega) _
  · exact (((ho.out.setBelowBase (a := ⟨w.heap.size + 1 + 1, 0, none⟩) (by simp; omega) _).setBelowBase (a := ⟨w.heap.size + 1 + 1, 1, none⟩) (by simp; omega) _).setBelowBase (a := ⟨w.heap.size + 1 + 1, 2, none⟩) (by simp; omega) _).mono (by omega)

/-- forms.Compose at all rules. -/
theorem compose_any (r : Nat → Addr) (k R : Int) (va : Option Addr) (vn vc : Nat) (T : List Int) (k' R' : Int) (ua : Option Addr) (un uc : Nat) (T' : List Int) (w : World) (hg : Glob r w)
    (h : IntsAt w (.slice va vn vc) T) (h' : IntsAt w (.slice ua un uc) T') :
    Calls Tryd.prog 25 #[.agg #[.int .i64 k, .int .i64 R, .slice va vn vc], .agg #[.int .i64 k', .int .i64 R', .slice ua un uc]] w (Ret2 (fun x y w' => ErrIs r w' (composeP k R T k' R' T') y ∧ (composeP k R T k' R' T' ≠ none → x = zR) ∧
      (composeP k R T k' R' T' = none → ∃ a n c, x = .agg #[.int .i64 k, .int .i64 (R + R'), .slice a n c] ∧ OwnI w.heap.size w' (.slice a n c) (behindT k.toNat R.toNat T R'.toNat T'))) w) := by
  cases hc : checkP k R T with
  | some t =>
    have e : composeP k R T k' R' T' = under sForms 0 (some t) := by simp [composeP, hc]
    refine (compose_bad1 r k R va vn vc T k' R' ua un uc t w hg h hc).mono ?_
    rintro _ w' ⟨x, y, he, hb, hx, hy⟩
    exact ⟨x, y, he, hb, by rw [e]; exact hy, fun _ => hx, (fun q => by rw [e] at q; cases q)⟩
  | none =>
    cases hc' : checkP k' R' T' with
    | some t =>
      have e : composeP k R T k' R' T' = under sForms 1 (some t) := by simp [composeP, hc, hc']
      refine (compose_bad2 r k R va vn vc T k' R' ua un uc T' t w hg h h' hc hc').mono ?_
      rintro _ w' ⟨x, y, he, hb, hx, hy⟩
      exact ⟨x, y, he, hb, by rw [e]; exact hy, fun _ => hx, (fun q => by rw [e] at q; cases q)⟩
    | none =>
      by_cases hk : k = k'
      case neg =>
        have e : composeP k R T k' R' T' = fresh sForms 1 3 := by simp [composeP, hc, hc', hk]
        refine (compose_bad3 r k R va vn vc T k' R' ua un uc T' w hg h h' hc hc' hk).mono ?_
        rintro _ w' ⟨x, y, he, hb, hx, hy⟩
        exact ⟨x, y, he, hb, by rw [e]; exact hy, fun _ => hx, (fun q => by rw [e] at q; cases q)⟩
      subst hk
      obtain ⟨K, Q, rfl, rfl, hok⟩ := checkP_none hc
      obtain ⟨K', Q', hK, rfl, hok'⟩ := checkP_none hc'
      obtain rfl : K = K' := by omega
      by_cases hR : Q + Q' ≤ 3
      · have e : composeP K Q T K Q' T' = none := by
          simp only [composeP, hc, hc']
          rw [if_neg (by simp), if_neg (by omega)]
        refine (compose_ok r K Q Q' va vn vc T ua un uc T' w hg h h' hok hok' hR).mono ?_
        rintro _ w' ⟨x, y, he, hb, hy, a, n, c, hx, ho⟩
        exact ⟨x, y, he, hb, by rw [e]; exact hy, fun q => absurd e q, fun _ => ⟨a, n, c, by rw [hx]; simp, by simpa using ho⟩⟩
      · have e : composeP K Q T K Q' T' = fresh sForms 0 4 := by
          simp only [composeP, hc, hc']
          rw [if_neg (by simp), if_pos (by omega)]
        refine (compose_bad4 r K Q Q' va vn vc T ua un uc T' w hg h h' hok hok' (by omega)).mono ?_
        rintro _ w' ⟨x, y, he, hb, hx, hy⟩
        exact ⟨x, y, he, hb, by rw [e]; exact hy, fun _ => hx, (fun q => by rw [e] at q; cases q)⟩
end Go.Proofs.YtmddapkhipmlgaaDoor
