/-
  Proved: the law edenlaw13.PairsKeeps as its tied card: it returns true and never panics, for any rule and any list. No conditions beyond the card's own.
  Walks: forms.Mirror and the function that it hands to forms.made.
  Walks: slices.Index, forms.Rename and the function that it hands to forms.made.
  Walk: pairs.Way.
  Walk: edenlaw13.PairsKeeps where it passes over: long rules and words, faults.
  Plain mathematics: the way of two words, read back.
  Lists of their own in any order: what Apart asks, also behind an append to the list that holds them.
  append of one list of one-cell values to another.
  Apart over rows that are held under names.
  Walk: edenlaw13.PairsKeeps returns true.
  Opening what a call is handed: []int, api.Rule, the package-level errors.
-/
import Derived.Test.YthnkdiejmclmkaaDoorMPk7
import Derived.Test.YthnkdiejmclmkaaDoorRows
import Derived.ProofKit
import Derived.OpenShut
import Derived.ShutString
import Derived.ChangeOld
import Derived.LaidMore
import Derived.Stop.Joined
import Derived.Stop.LaidErr
import Derived.Lib.SmallJoins
import Derived.Test.YthnkdiejmclmkaaDoorCards
import Derived.Test.YthnkdiejmclmkaaDoorTie
import Derived.SevenTiedAt
namespace Go.Proofs.YthnkdiejmclmkaaDoor
open Go.RowKit
set_option maxRecDepth 100000

theorem fmirror1_any (K R : Nat) (va : Option Addr) (vn vc : Nat) (T : List Int) (p : Nat) (v : Value) (ys : List Int) (w : World)
    (h : IntsAt w (.slice va vn vc) T) (hr : RuleOk K R T) (hv : IntsAt w v ys) (hy : Syms K ys) (hyl : ys.length = 2 * R + 1)
    (x0 : w.cell? ⟨p, 0, none⟩ = some (.int .i64 K)) (x1 : w.cell? ⟨p, 1, none⟩ = some (.int .i64 R)) (x2 : w.cell? ⟨p, 2, none⟩ = some (.slice va vn vc)) :
    Calls Tryd.prog 36 #[v, .pointer (some ⟨p, 0, none⟩)] w (Ret1 (fun x _ => x = .int .i64 (T.getD (numW K ys.reverse) 0)) w) := by
  have hR := hr.r3
  have hle : ys.length ≤ 7 := by omega
  replace h := Lib.hid h
  replace hv := Lib.hid hv
  replace hy := Lib.hid hy
  replace hyl := Lib.hid hyl
  replace hr := Lib.hid hr
  have yy := Lib.hid (And.intro x0 (And.intro x1 x2))
  clear x0 x1 x2
  generalize hY : T.getD (numW K ys.reverse) 0 = Y
  replace hY := Lib.hid hY
  go_enter Tryd.func36, Tryd.ntmps36
  go_wp2_with fail
  refine (clone_any v ys _ hv.out (by omega)).mono ?_
  rintro e w1 ⟨x, rfl, b1, ho⟩
  have s1 := b1.size
  go_wp2_with fail
  refine (reverse_own _ x ys _ ho (by omega)).mono ?_
  rintro e w2 ⟨rfl, ho2, b2⟩
  have b12 := b1.trans b2
  obtain ⟨y0, y1, y2⟩ := keep3 b12 yy.out
  replace ho2 := Lib.hid ho2
  go_wp2_with fail
  refine (symbol_any K R va vn vc T x _ _ (h.out.below b12) hr.out ho2.out.at (fun z hz => hy.out z (List.mem_reverse.1 hz)) (by rw [List.length_reverse]; exact hyl.out)).mono ?_
  rintro e w3 ⟨x, rfl, b3, rfl⟩
  rw [hY.out]
  go_wp2
  go_ret
  exact ⟨_, rfl, Below.step b12 b3, rfl⟩

theorem eg_fmirror1 (args : Array Value) (w : World) : (callFunc 36 args).run Tryd.prog w = .ok (.enter 36 args) w := by kernel_rfl

theorem madeP_mir {K n : Nat} {T : List Int} (h : T.length = pw K n) : madeP K n (fun ys => T.getD (numW K ys.reverse) 0) (pw K n) = mirT K n T := by
  rw [madeP, mirT, h]

theorem fmirror_bad (r : Nat → Addr) (k R : Int) (va : Option Addr) (vn vc : Nat) (T : List Int) (t : Int × List (ByteArray × Int)) (w : World) (hg : Glob r w) (h : IntsAt w (.slice va vn vc) T) (hc : checkP k R T = some t) :
    Calls Tryd.prog 11 #[.agg #[.int .i64 k, .int .i64 R, .slice va vn vc]] w (Ret2 (fun x y w' => x = zR ∧ ErrIs r w' (under sForms 0 (some t)) y) w) := by
  have b0 := Below.step (belowAlloc w (.cells #[.int .i64 k, .int .i64 R, .slice va vn vc] 24)) (belowAlloc _ (.cells #[.int .i64 0, .int .i64 0, .slice none 0 0] 24))
  have q2 : Box3 ((w.alloc (.cells #[.int .i64 k, .int .i64 R, .slice va vn vc] 24)).alloc (.cells #[.int .i64 0, .int .i64 0, .slice none 0 0] 24)) (w.heap.size + 1) (.int .i64 0) (.int .i64 0) (.slice none 0 0) := by simp [Box3, go_sem]
  replace hg := Lib.hid (hg.below b0)
  replace h := Lib.hid (h.below b0)
  replace hc := Lib.hid hc
  go_enter Tryd.func11, Tryd.ntmps11
  go_wp2_with fail
  refine (forms_check r _ k R va vn vc T _ hg.out h.out).mono ?_
  rintro e w1 ⟨x, rfl, hb, he⟩
  rw [hc.out] at he
  obtain ⟨T1, a1, rfl⟩ := ErrIs.some_shape he
  replace he := Lib.hid he
  obtain ⟨⟨y0, y1, y2⟩, f0, f1, f2⟩ := q2.below hb
  go_wp2
  rw [setCell_self3 y0 y1 y2]
  exact bodyPost_ret (v := .tuple #[zR, .iface T1 (.pointer (some a1))]) (by simp [results, Tryd.results11, go_sem, y0, y1, y2]) rfl ⟨_, _, rfl, Below.step b0 hb, rfl, he.out⟩

set_option maxHeartbeats 800000 in
theorem fmirror_ok (r : Nat → Addr) (K R : Nat) (va : Option Addr) (vn vc : Nat) (T : List Int) (w : World) (hg : Glob r w) (h : IntsAt w (.slice va vn vc) T) (hr : RuleOk K R T) :
    Calls Tryd.prog 11 #[.agg #[.int .i64 K, .int .i64 R, .slice va vn vc]] w (Ret2 (fun x y w' => y = .nilIface ∧ ∃ a n c, x = .agg #[.int .i64 K, .int .i64 R, .slice a n c] ∧ OwnI w.heap.size w' (.slice a n c) (mirT K (2 * R + 1) T)) w) := by
  have b0 := Below.step (belowAlloc w (.cells #[.int .i64 K, .int .i64 R, .slice va vn vc] 24)) (belowAlloc _ (.cells #[.int .i64 0, .int .i64 0, .slice none 0 0] 24))
  have q2 : Box3 ((w.alloc (.cells #[.int .i64 K, .int .i64 R, .slice va vn vc] 24)).alloc (.cells #[.int .i64 0, .int .i64 0, .slice none 0 0] 24)) (w.heap.size + 1) (.int .i64 0) (.int .i64 0) (.slice none 0 0) := by simp [Box3, go_sem]
  have q1 : Box3 ((w.alloc (.cells #[.int .i64 K, .int .i64 R, .slice va vn vc] 24)).alloc (.cells #[.int .i64 0, .int .i64 0, .slice none 0 0] 24)) w.heap.size (.int .i64 K) (.int .i64 R) (.slice va vn vc) := by simp [Box3, go_sem]
  have hk1 := hr.k1
  have hk4 := hr.k4
  have hR3 := hr.r3
  have hck := Lib.hid hr.check
  replace hg := Lib.hid (hg.below b0)
  replace h := Lib.hid (h.below b0)
  replace hr := Lib.hid hr
  go_enter Tryd.func11, Tryd.ntmps11
  go_wp2_with fail
  refine (forms_check r _ K R va vn vc T _ hg.out h.out).mono ?_
  rintro e w1 ⟨x, rfl, hb, he⟩
  rw [hck.out] at he
  obtain rfl := ErrIs.none_eq he
  have q11 := q1.below hb
  have q11x := q11
  obtain ⟨⟨z0, z1, z2⟩, -, -, -⟩ := q11x
  have s1 := hb.size
  simp only [World.size_alloc] at s1
  go_wp2_with fail
  refine (made_one K R _ _ (fun ys => T.getD (numW K ys.reverse) 0) _ hk1 hk4 hR3 _ rfl eg_fmirror1 (fun v ys w' hB hv hy hyl => by
    have := q11.below hB
    exact fmirror1_any K R va vn vc T _ v ys w' ((h.out.below hb).below hB) hr.out hv hy hyl this.1.1 this.1.2.1 this.1.2.2)).mono ?_
  rintro e w2 ⟨x, rfl, b2, a, n, c, rfl, ho⟩
  rw [madeP_mir hr.out.len] at ho
  obtain ⟨⟨y0, y1, y2⟩, f0, f1, f2⟩ := q2.below (Below.step hb b2)
  replace ho := Lib.hid ho
  clear z0 z1 z2
  go_wp2
  refine bodyPost_ret (v := .tuple #[.agg #[.int .i64 K, .int .i64 R, .slice a n c], .nilIface]) (by simp [results, Tryd.results11, go_sem, y0, y1, y2]) rfl ⟨_, _, rfl, below_set3 (Below.step b0 (Below.step hb b2)) (Nat.le_succ _) _ _ _, rfl, a, n, c, rfl, ?_⟩
  exact (((ho.out.setBelowBase (a := ⟨w.heap.size + 1, 0, none⟩) (by simp; omega) _).setBelowBase (a := ⟨w.heap.size + 1, 1, none⟩) (by simp; omega) _).setBelowBase (a := ⟨w.heap.size + 1, 2, none⟩) (by simp; omega) _).mono (by omega)
end Go.Proofs.YthnkdiejmclmkaaDoor

namespace Go.Proofs.YthnkdiejmclmkaaDoor
open Go.RowKit
set_option maxRecDepth 100000

/-- The first place of x. -/
def invP (p : List Int) (x : Int) : Int := idxOf (fun y => x == y) p

theorem index_any (v : Value) (xs : List Int) (x : Int) (w : World) (h : IntsAt w v xs) :
    Calls Tryd.prog 46 #[v, .int .i64 x] w fun e w' => e = .returned (.int .i64 (invP xs x)) ∧ w = w' := by
  have hlen := h.len
  have hm := h.len_le
  replace h := Lib.hid h
  go_enter Tryd.func46, Tryd.ntmps46
  go_wp2
  go_loop [8] (fun i => ∃ j : Nat, j ≤ xs.length ∧ i = .int .i64 j ∧ ∀ t (ht : t < xs.length), t < j → (x == xs[t]) = false) (fun i => xs.length - (intOf i).toNat)
  case atStart => exact ⟨0, by omega, rfl, fun t ht h => by omega⟩
  case round =>
    obtain ⟨j, hj, rfl, hne⟩ := hrel
    by_cases hjl : j < xs.length
    · have i1 := h.out.idx j hjl
      have c1 := h.out.cell j hjl
      by_cases he : (x == xs[j]) = true
      · have hr : Hid (invP xs x = j) := Lib.hid (idxOf_at j hjl he (fun t ht htj => hne t ht htj))
        have he' : x = xs[j] := by simpa using he
        rw [← he'] at c1
        clear he he'
        replace hne := Lib.hid hne
        go_wp2
        go_ret
        exact ⟨ret_int hr.out.symm, rfl⟩
      · have hn : Hid (∀ t (ht : t < xs.length), t < j + 1 → (x == xs[t]) = false) := Lib.hid (fun t ht htj => by
          by_cases e : t = j
          · subst e; simpa using he
          · exact hne t ht (by omega))
        have he' : (x == xs[j]) = false := by simpa using he
        obtain ⟨y, hy⟩ : ∃ y, y = xs[j] := ⟨_, rfl⟩
        rw [← hy] at c1 he'
        clear he hne hy
        go_wp2
        go_round
        case rel => exact ⟨j + 1, by omega, by go_num, hn.out⟩
        case measure => simp [intOf]; omega
    · have hr : Hid (invP xs x = -1) := Lib.hid (idxOf_neg (fun y hy => by
        obtain ⟨t, ht, rfl⟩ := List.mem_iff_getElem.1 hy
        exact hne t ht (by omega)))
      replace hne := Lib.hid hne
      go_wp2
      go_ret
      exact ⟨ret_int hr.out.symm, rfl⟩

/-- The names' list is one: each symbol once. -/
def permOk (K : Nat) (p : List Int) : Bool := decide (p.length = K) && decide (srt p = (List.range K).map (fun i : Nat => (i : Int)))
theorem srt_perm (p : List Int) : (srt p).Perm p := List.mergeSort_perm ..
theorem permOk_mem {K : Nat} {p : List Int} (h : permOk K p = true) (x : Int) : x ∈ p ↔ 0 ≤ x ∧ x < K := by
  simp only [permOk, Bool.and_eq_true, decide_eq_true_eq] at h
  rw [← (srt_perm p).mem_iff, h.2, List.mem_map]
  constructor
  · rintro ⟨i, hi, rfl⟩; have := List.mem_range.1 hi; omega
  · intro hx; exact ⟨x.toNat, List.mem_range.2 (by omega), by omega⟩
theorem permOk_syms {K : Nat} {p : List Int} (h : permOk K p = true) : Syms K p := fun x hx => (permOk_mem h x).1 hx
theorem permOk_len {K : Nat} {p : List Int} (h : permOk K p = true) : p.length = K := by
  simp only [permOk, Bool.and_eq_true, decide_eq_true_eq] at h; exact h.1
theorem invP_spec {K : Nat} {p : List Int} (h : permOk K p = true) {x : Int} (h0 : 0 ≤ x) (h1 : x < K) : ∃ i : Nat, invP p x = i ∧ i < K ∧ p.getD i 0 = x := by
  have hm := (permOk_mem h x).2 ⟨h0, h1⟩
  obtain ⟨j, hj, hje⟩ := List.mem_iff_getElem.1 hm
  rcases idxOf_cases (fun y => x == y) p with ⟨_, hn⟩ | ⟨k, hk, hkl, hp, _⟩
  · have := hn _ (List.getElem_mem hj); rw [hje] at this; simp at this
  · refine ⟨k, hk, by rw [← permOk_len h]; exact hkl, ?_⟩
    simp only [List.getD, List.getElem?_eq_getElem hkl, Option.getD_some]
    exact (show x = p[k] by simpa using hp).symm

/-- The symbol of a window by the other names. -/
def renF (K : Nat) (T p ys : List Int) : Int := p.getD (T.getD (numW K (ys.map (invP p))) 0).toNat 0
def renT (K n : Nat) (T p : List Int) : List Int := madeP K n (renF K T p) (pw K n)
theorem invP_syms {K : Nat} {p ys : List Int} (h : permOk K p = true) (hy : Syms K ys) : Syms K (ys.map (invP p)) := by
  intro z hz
  obtain ⟨y, hyy, rfl⟩ := List.mem_map.1 hz
  obtain ⟨i, e, hi, _⟩ := invP_spec h (hy y hyy).1 (hy y hyy).2
  rw [e]; omega

theorem fill_front' (A B : List Int) (j : Nat) (hj : j < A.length) (hl : B.length = A.length) : (A.take j ++ B.drop j).set j A[j] = A.take (j + 1) ++ B.drop (j + 1) := by
  have e : (A.take j).length = j := by simp; omega
  rw [List.set_append_right _ _ (by omega), e, Nat.sub_self, List.drop_eq_getElem_cons (show j < B.length by omega), List.set_cons_zero, take_snoc A j hj, List.append_assoc, List.singleton_append]
theorem map_fill (f : Int → Int) (A B : List Int) (j : Nat) (hj : j < A.length) (hl : B.length = A.length) : ((A.map f).take j ++ B.drop j).set j (f A[j]) = (A.map f).take (j + 1) ++ B.drop (j + 1) := by
  have := fill_front' (A.map f) B j (by simpa using hj) (by simpa using hl)
  simpa using this

set_option maxHeartbeats 1000000 in
theorem frename1_any (K R : Nat) (va : Option Addr) (vn vc : Nat) (T : List Int) (pa : Option Addr) (pn pc : Nat) (p : List Int) (b q : Nat) (v : Value) (ys : List Int) (w : World)
    (h : IntsAt w (.slice va vn vc) T) (hr : RuleOk K R T) (hp : IntsAt w (.slice pa pn pc) p) (hpo : permOk K p = true) (hv : IntsAt w v ys) (hy : Syms K ys) (hyl : ys.length = 2 * R + 1)
    (c0 : w.cell? ⟨b, 0, none⟩ = some (.slice pa pn pc)) (x0 : w.cell? ⟨q, 0, none⟩ = some (.int .i64 K)) (x1 : w.cell? ⟨q, 1, none⟩ = some (.int .i64 R)) (x2 : w.cell? ⟨q, 2, none⟩ = some (.slice va vn vc)) :
    Calls Tryd.prog 45 #[v, .pointer (some ⟨b, 0, none⟩), .pointer (some ⟨q, 0, none⟩)] w (Ret1 (fun x _ => x = .int .i64 (renF K T p ys)) w) := by
  have hk1 := hr.k1
  have hR := hr.r3
  have hyl7 : ys.length ≤ 7 := by omega
  have hlen := hv.len
  have hsy := invP_syms hpo hy
  have hyv : T.getD (numW K (ys.map (invP p))) 0 < K ∧ 0 ≤ T.getD (numW K (ys.map (invP p))) 0 := by
    have := hr.syms.getD (by omega) (numW K (ys.map (invP p))); omega
  have hpl := permOk_len hpo
  replace h := Lib.hid h
  replace hp := Lib.hid hp
  replace hpo := Lib.hid hpo
  replace hv := Lib.hid hv
  replace hy := Lib.hid hy
  replace hyl := Lib.hid hyl
  replace hr := Lib.hid hr
  replace hsy := Lib.hid hsy
  replace hpl := Lib.hid hpl
  replace x0 := Lib.hid x0
  replace x1 := Lib.hid x1
  replace x2 := Lib.hid x2
  go_enter Tryd.func45, Tryd.ntmps45
  go_wp2_with (at_make; refine wpl_make rfl _ _ rfl _ rfl rfl (by omega) (by omega) ?_)
  intro ov w1 ho b1
  replace ho := Lib.hid ho
  go_wp2
  go_loopw [13] (fun i wr => ∃ j : Nat, j ≤ ys.length ∧ i = .int .i64 j ∧ OwnI w.heap.size wr ov ((ys.map (invP p)).take j ++ (List.replicate ys.length (0 : Int)).drop j) ∧ Below w.heap.size w wr) (fun i _ => ys.length - (intOf i).toNat)
  case atStart => exact ⟨0, by omega, rfl, by simpa using ho.out, b1⟩
  case round =>
    obtain ⟨j, hj, rfl, hO, hB⟩ := hrel
    obtain ⟨wi, rfl⟩ : ∃ wi : World, wi = wr := ⟨_, rfl⟩
    have cb := cell_keep hB c0
    by_cases hjl : j < ys.length
    · have hXl : ((ys.map (invP p)).take j ++ (List.replicate ys.length (0 : Int)).drop j).length = ys.length := by simp; omega
      have i1 := (hv.out.below hB).idx j hjl
      have c1 := (hv.out.below hB).cell j hjl
      have i2 := hO.at.idx j (by rw [hXl]; exact hjl)
      have c2 := hO.at.cellD j (by rw [hXl]; exact hjl)
      have f2 := hO.frz j (by rw [hXl]; exact hjl)
      have hS := hO.set j (by rw [hXl]; exact hjl) (invP p ys[j])
      have hbS := hO.setBelow hB j (by rw [hXl]; exact hjl) (.int .i64 (invP p ys[j]))
      rw [map_fill (invP p) ys _ j hjl (by simp)] at hS
      have hIx := index_any (.slice pa pn pc) p ys[j] wi (hp.out.below hB)
      obtain ⟨y, hy'⟩ : ∃ y, y = ys[j] := ⟨_, rfl⟩
      rw [← hy'] at c1 hS hbS hIx
      obtain ⟨z, hz⟩ : ∃ z, z = invP p y := ⟨_, rfl⟩
      rw [← hz] at hS hbS hIx
      obtain ⟨z', hz'⟩ : ∃ z', z' = ((ys.map (invP p)).take j ++ (List.replicate ys.length (0 : Int)).drop j).getD j 0 := ⟨_, rfl⟩
      rw [← hz'] at c2
      replace hS := Lib.hid hS
      replace hbS := Lib.hid hbS
      clear hXl hO hy' hz hz'
      replace hIx := Lib.hid hIx
      go_wp2_with (go_at_call 46; refine hIx.out.mono ?_; rintro e w' ⟨rfl, rfl⟩)
      go_roundw
      case rel => exact ⟨j + 1, by omega, by go_num, hS.out, hbS.out⟩
      case measure => simp [intOf]; omega
    · obtain rfl : ys.length = j := by omega
      rw [List.take_of_length_le (by simp), List.drop_of_length_le (by simp), List.append_nil] at hO
      go_wp2
      have hTi := h.out.below hB
      have hPi := hp.out.below hB
      obtain ⟨yi, hyi⟩ : ∃ yi : Nat, T.getD (numW K (ys.map (invP p))) 0 = yi := ⟨(T.getD (numW K (ys.map (invP p))) 0).toNat, by omega⟩
      have i3 := hPi.idx yi (by rw [hpl.out]; omega)
      have c3 := hPi.cellD yi (by rw [hpl.out]; omega)
      have hres : Hid (renF K T p ys = p.getD yi 0) := Lib.hid (by rw [renF, hyi]; rfl)
      have hyi' := Lib.hid hyi
      obtain ⟨W, hW⟩ : ∃ W : World, W = wi.drew := ⟨_, rfl⟩
      have hol : Hid ((ys.map (invP p)).length = 2 * R + 1) := Lib.hid (by rw [List.length_map]; exact hyl.out)
      have hS : W.cell? ⟨b, 0, none⟩ = some (.slice pa pn pc) ∧ W.cell? ⟨q, 0, none⟩ = some (.int .i64 K) ∧ W.cell? ⟨q, 1, none⟩ = some (.int .i64 R) ∧ W.cell? ⟨q, 2, none⟩ = some (.slice va vn vc) ∧ W.cell? (valAt (.slice pa pn pc) yi) = some (.int .i64 (p.getD yi 0)) := by
        have k0 := cell_keep hB x0.out
        have k1 := cell_keep hB x1.out
        have k2 := cell_keep hB x2.out
        rw [hW]; exact ⟨cb, k0, k1, k2, c3⟩
      have hTW := Lib.hid (show IntsAt W _ _ by rw [hW]; exact hTi.drew)
      have hOW := Lib.hid (show OwnI w.heap.size W _ _ by rw [hW]; exact hO.drew)
      have hBW := Lib.hid (show Below w.heap.size w W by rw [hW]; exact hB.drew)
      obtain ⟨ya, hya⟩ : ∃ ya, ya = valAt (.slice pa pn pc) yi := ⟨_, rfl⟩
      obtain ⟨yv, hyv'⟩ : ∃ yv, yv = p.getD yi 0 := ⟨_, rfl⟩
      rw [← hya, ← hyv'] at hS
      rw [← hya] at i3
      rw [← hyv'] at hres
      refine wp_region_plan (fun w' => w'.cell? ⟨b, 0, none⟩ = some (.slice pa pn pc) ∧ w'.cell? ⟨q, 0, none⟩ = some (.int .i64 K) ∧ w'.cell? ⟨q, 1, none⟩ = some (.int .i64 R) ∧ w'.cell? ⟨q, 2, none⟩ = some (.slice va vn vc) ∧ w'.cell? ya = some (.int .i64 yv)) 6 [(0, true), (1, true), (2, true), (3, false), (4, true), (5, true)] (by kernel_rfl) (by kernel_rfl) ?_
      rw [← hW]
      replace hW := Lib.hid hW
      clear c3 hya hyv' cb hyi
      refine headY (v := ?_) (some 25) rfl rfl (Or.inl ⟨by rfl, ?_⟩) hS ?_
      rotate_left
      · rintro W' ⟨s0, s1, s2, s3, s4⟩; go_simp; try with_reducible rfl
      simp only [Act.put, List.setIfInBounds_toArray, List.set_cons_zero, List.set_cons_succ]
      refine headY (v := ?_) (some 26) rfl rfl (Or.inl ⟨by rfl, ?_⟩) hS ?_
      rotate_left
      · rintro W' ⟨s0, s1, s2, s3, s4⟩; go_simp; try with_reducible rfl
      simp only [Act.put, List.setIfInBounds_toArray, List.set_cons_zero, List.set_cons_succ]
      refine headY (v := ?_) (some 27) rfl rfl (Or.inl ⟨by rfl, ?_⟩) hS ?_
      rotate_left
      · rintro W' ⟨s0, s1, s2, s3, s4⟩; go_simp; try with_reducible rfl
      simp only [Act.put, List.setIfInBounds_toArray, List.set_cons_zero, List.set_cons_succ]
      refine headC rfl (fun KK hK => ?_)
      go_simp
      refine (symbol_any K R va vn vc T ov _ _ hTW.out hr.out hOW.out.at hsy.out hol.out).mono ?_
      rintro e w7 ⟨x, rfl, b7, rfl⟩
      rw [hyi'.out]
      have hS7 : w7.cell? ⟨b, 0, none⟩ = some (.slice pa pn pc) ∧ w7.cell? ⟨q, 0, none⟩ = some (.int .i64 K) ∧ w7.cell? ⟨q, 1, none⟩ = some (.int .i64 R) ∧ w7.cell? ⟨q, 2, none⟩ = some (.slice va vn vc) ∧ w7.cell? ya = some (.int .i64 yv) :=
        ⟨cell_keep b7 hS.1, cell_keep b7 hS.2.1, cell_keep b7 hS.2.2.1, cell_keep b7 hS.2.2.2.1, (b7.cell (World.block_lt_of_cell? _ _ hS.2.2.2.2)).trans hS.2.2.2.2⟩
      refine hK _ _ hS7 ?_
      clear hK KK
      refine headY (v := ?_) (some 29) rfl rfl (Or.inl ⟨by rfl, ?_⟩) hS7 ?_
      rotate_left
      · rintro W' ⟨s0, s1, s2, s3, s4⟩; go_simp; try with_reducible rfl
      simp only [Act.put, List.setIfInBounds_toArray, List.set_cons_zero, List.set_cons_succ]
      refine headY (v := ?_) (some 30) rfl rfl (Or.inl ⟨by rfl, ?_⟩) hS7 ?_
      rotate_left
      · rintro W' ⟨s0, s1, s2, s3, s4⟩; go_simp; try with_reducible rfl
      simp only [Act.put, List.setIfInBounds_toArray, List.set_cons_zero, List.set_cons_succ]

      refine head0 ?_
      simp only [List.drop_succ_cons, List.drop_zero]
      have hBe := Lib.hid (Below.step hBW.out b7)
      clear hS hS7
      go_wp2
      refine NoPanic.normal ?_
      go_wp2
      go_ret
      exact ⟨_, rfl, hBe.out, by rw [hres.out]; rfl⟩
end Go.Proofs.YthnkdiejmclmkaaDoor

namespace Go.Proofs.YthnkdiejmclmkaaDoor
open Go.RowKit
set_option maxRecDepth 100000

theorem pway_bad (r : Nat → Addr) (k R : Int) (va : Option Addr) (vn vc : Nat) (T : List Int) (u v : Value) (t : Int × List (ByteArray × Int)) (w : World) (hg : Glob r w) (h : IntsAt w (.slice va vn vc) T) (hc : smallP k R T = some t) :
    Calls Tryd.prog 22 #[.agg #[.int .i64 k, .int .i64 R, .slice va vn vc], u, v] w (Ret2 (fun x y w' => x = .slice none 0 0 ∧ ErrIs r w' (under sPairs 0 (some t)) y) w) := by
  have b0 := belowAlloc w (.cells #[.int .i64 k, .int .i64 R, .slice va vn vc] 24)
  replace hg := Lib.hid (hg.below b0)
  replace h := Lib.hid (h.below b0)
  replace hc := Lib.hid hc
  go_enter Tryd.func22, Tryd.ntmps22
  go_wp2_with fail
  refine (working_bad r k R va vn vc T t _ hg.out h.out hc.out).mono ?_
  rintro e w1 ⟨x, y, rfl, b1, rfl, hy⟩
  obtain ⟨T2, a2, rfl⟩ : ∃ T a, y = .iface T (.pointer (some a)) := by
    unfold under at hy
    exact ErrIs.some_shape hy
  have ba := belowAlloc w1 (.cells #[.int .i64 0, .int .i64 0, .slice none 0 0] 24)
  have hy2 := hy.below ba
  replace hy := Lib.hid hy
  replace hy2 := Lib.hid hy2
  go_wp2
  go_ret2
  exact ⟨_, _, rfl, Below.step b0 (Below.step b1 ba), rfl, hy2.out⟩

/-- Way's answer at a small rule. -/
def wayP (K R : Nat) (T x y : List Int) : PErr :=
  match lookP K x 1 0 with
  | some t => some t
  | none => match lookP K y 2 x.length with
    | some t => some t
    | none => if x.length ≠ y.length ∨ x.length < 2 * R then fresh sPairs 1 3 else if imgP K R T x = imgP K R T y then none else fresh sPairs 2 3
theorem wayP_none {K R : Nat} {T x y : List Int} (h : wayP K R T x y = none) : Syms K x ∧ Syms K y ∧ x.length ≤ 4096 ∧ x.length = y.length ∧ 2 * R ≤ x.length ∧ imgP K R T x = imgP K R T y := by
  unfold wayP at h
  cases h1 : lookP K x 1 0 with
  | some t => rw [h1] at h; cases h
  | none =>
    rw [h1] at h
    cases h2 : lookP K y 2 x.length with
    | some t => simp only [h2] at h; cases h
    | none =>
      simp only [h2] at h
      by_cases h3 : x.length ≠ y.length ∨ x.length < 2 * R
      · rw [if_pos h3] at h; cases h
      · rw [if_neg h3] at h
        by_cases h4 : imgP K R T x = imgP K R T y
        · exact ⟨(lookP_none h1).2, (lookP_none h2).2, (lookP_none h1).1, by omega, by omega, h4⟩
        · rw [if_neg h4] at h; cases h

theorem pathN_all {K m : Nat} {x : List Int} {j : Nat} (hj : j < (pathN K m x x.length).length) : (castI (pathN K m x x.length)).getD j 0 = ((nodeAt K m x j : Nat) : Int) := by
  rw [pathN_len] at hj
  simp [castI, pathN, List.getD, hj]
theorem wayW_all {K m : Nat} {x y : List Int} {j : Nat} (hj : j < x.length - m + 1) : (castI (wayW K m x y)).getD j 0 = ((nodeAt K m x j * pw K m + nodeAt K m y j : Nat) : Int) := by
  simp [castI, wayW, List.getD, hj]

set_option maxHeartbeats 4000000 in
theorem pway_ok (r : Nat → Addr) (K R : Nat) (va : Option Addr) (vn vc : Nat) (T : List Int) (u v : Value) (x y : List Int) (w : World) (hg : Glob r w) (h : IntsAt w (.slice va vn vc) T) (hu : IntsAt w u x) (hv : IntsAt w v y) (hr : RuleOk K R T) (hl : T.length ≤ 256) :
    Calls Tryd.prog 22 #[.agg #[.int .i64 K, .int .i64 R, .slice va vn vc], u, v] w (Ret2 (fun z e w' => ErrIs r w' (wayP K (wkR R) (wkT K R T) x y) e ∧ (wayP K (wkR R) (wkT K R T) x y ≠ none → z = .slice none 0 0) ∧ (wayP K (wkR R) (wkT K R T) x y = none → OwnI w.heap.size w' z (castI (wayW K (2 * wkR R) x y)))) w) := by
  have b0 := belowAlloc w (.cells #[.int .i64 K, .int .i64 R, .slice va vn vc] 24)
  have q : Box3 (w.alloc (.cells #[.int .i64 K, .int .i64 R, .slice va vn vc] 24)) w.heap.size (.int .i64 K) (.int .i64 R) (.slice va vn vc) := by simp [Box3, go_sem]
  have hk1 := hr.k1
  have hk4 := hr.k4
  have hokW := wk_ok hr
  have hlW := wk_small hr hl
  have hRW := wk_pos R
  have hN81 := nodes_le hokW hRW hlW
  obtain ⟨hdiv, hlen⟩ := hokW.half
  have hR3 := hokW.r3
  have hN1 := pw_pos (K := K) (2 * wkR R) hk1
  have hwork := fun (w' : World) (hgl : Glob r w') (hT : IntsAt w' (.slice va vn vc) T) => working_ok r K R va vn vc T w' hgl hT hr hl
  have hNodes := fun (a : Option Addr) (n c : Nat) (w' : World) (hgl : Glob r w') (hT : IntsAt w' (.slice a n c) (wkT K R T)) => over_Nodes r K (wkR R) a n c (wkT K R T) w' hgl hT hokW hlW
  have hPath := fun (a : Option Addr) (n c : Nat) (u : Value) (x : List Int) (w' : World) (hgl : Glob r w') (hT : IntsAt w' (.slice a n c) (wkT K R T)) (hu : IntsAt w' u x) (hx : Syms K x) (hxl : x.length ≤ 4096) => over_path r K (wkR R) a n c (wkT K R T) u x w' hgl hT hu hokW hlW hRW hx hxl
  rw [hdiv] at hNodes
  generalize wkT K R T = T' at *
  generalize wkR R = R' at *
  have lu := hu.len
  have lv := hv.len
  have lum := hu.len_le
  have lvm := hv.len_le
  obtain ⟨ua, un, uc, rfl⟩ := hu.shape
  obtain ⟨wa, wn, wc, rfl⟩ := hv.shape
  obtain ⟨E, hE⟩ : ∃ E, wayP K R' T' x y = E := ⟨_, rfl⟩
  have hEn := @wayP_none K R' T' x y
  rw [hE] at hEn ⊢
  unfold wayP at hE
  obtain ⟨m, hm⟩ : ∃ m, 2 * R' = m := ⟨_, rfl⟩
  have hm2 : 2 * (R' : Int) = (m : Int) := by omega
  have hm6 : m ≤ 6 := by omega
  rw [hm] at hNodes hPath hN81 hN1 hdiv hlen hE hEn ⊢
  obtain ⟨N, hN⟩ : ∃ N, pw K m = N := ⟨_, rfl⟩
  rw [hN] at hNodes hN81 hN1 hdiv hlen
  have hwm : IntKind.i64.wrap (m : Int) = m := wrapK (by omega) (by omega)
  replace hwork := Lib.hid hwork
  replace hNodes := Lib.hid hNodes
  replace hPath := Lib.hid hPath
  replace hg := Lib.hid (hg.below b0)
  replace h := Lib.hid (h.below b0)
  replace hu := Lib.hid (hu.below b0)
  replace hv := Lib.hid (hv.below b0)
  replace hokW := Lib.hid hokW
  replace hr := Lib.hid hr
  replace hdiv := Lib.hid hdiv
  replace hlen := Lib.hid hlen
  replace hEn := Lib.hid hEn
  replace hE := Lib.hid hE
  replace hm := Lib.hid hm
  replace hN := Lib.hid hN
  go_enter Tryd.func22, Tryd.ntmps22
  go_wp2_with fail
  refine (hwork.out _ hg.out h.out).mono ?_
  rintro e w1 ⟨z, e1, rfl, b1, rfl, a, n, c, rfl, hT1⟩
  have b01 := Below.step b0 b1
  have ba := belowAlloc w1 (.cells #[.int .i64 K, .int .i64 R', .slice a n c] 24)
  have qw : Box3 (w1.alloc (.cells #[.int .i64 K, .int .i64 R', .slice a n c] 24)) w1.heap.size (.int .i64 K) (.int .i64 R') (.slice a n c) := by simp [Box3, go_sem]
  obtain ⟨W2, hW2⟩ : ∃ W2 : World, W2 = w1.alloc (.cells #[.int .i64 K, .int .i64 R', .slice a n c] 24) := ⟨_, rfl⟩
  rw [← hW2] at ba qw
  have b12 := Below.step b1 ba
  have b02 := Below.step b01 ba
  have hT2 := hT1.below ba
  obtain ⟨⟨z0, z1, z2⟩, -, -, -⟩ := q.below b12
  replace hT1 := Lib.hid hT1
  replace hT2 := Lib.hid hT2
  replace qw := Lib.hid qw
  go_upto_region 2 with fail
  rw [← hW2]
  replace hW2 := Lib.hid hW2
  go_wp2_with fail
  refine (look_any r K (.slice ua un uc) x 1 0 W2 (hg.out.below b12) (hu.out.below b12) (by omega)).mono ?_
  rintro e w3 ⟨e3, rfl, b3, he3⟩
  have he3' : ErrIs r w3 (lookP K x 1 0) e3 := he3
  have b03 := Below.step b02 b3
  have b13 := Below.step b12 b3
  clear z0 z1 z2 he3
  cases hk : lookP K x 1 0 with
  | some t =>
    rw [hk] at he3'
    have hEe : E = some t := by have := hE.out; rw [hk] at this; exact this.symm
    obtain ⟨T3, a3, rfl⟩ := he3'.some_shape
    replace he3' := Lib.hid he3'
    replace hEe := Lib.hid hEe
    go_wp2
    go_ret2
    exact ⟨_, _, rfl, b03, by rw [hEe.out]; exact he3'.out, fun _ => rfl, fun e => by rw [hEe.out] at e; cases e⟩
  | none =>
    rw [hk] at he3'
    obtain rfl := he3'.none_eq
    have hE2 := hE.out
    rw [hk] at hE2
    simp only at hE2
    obtain ⟨hxl, hxs⟩ := lookP_none hk
    obtain ⟨⟨z0, z1, z2⟩, -, -, -⟩ := q.below b13
    have hl2 := look_any r K (.slice wa wn wc) y 2 x.length w3 (hg.out.below b13) (hv.out.below b13) (by omega)
    replace hl2 := Lib.hid hl2
    replace hE2 := Lib.hid hE2
    replace hxs := Lib.hid hxs
    clear he3' hk hE
    go_wp2_with fail
    refine hl2.out.mono ?_
    rintro e w4 ⟨e4, rfl, b4, he4⟩
    have b04 := Below.step b03 b4
    have b14 := Below.step b13 b4
    have b24 := Below.step b3 b4
    clear z0 z1 z2 hl2
    cases hk : lookP K y 2 x.length with
    | some t =>
      rw [hk] at he4
      have hEe : E = some t := by have := hE2.out; rw [hk] at this; exact this.symm
      obtain ⟨T3, a3, rfl⟩ := he4.some_shape
      replace he4 := Lib.hid he4
      replace hEe := Lib.hid hEe
      go_wp2
      go_ret2
      exact ⟨_, _, rfl, b04, by rw [hEe.out]; exact he4.out, fun _ => rfl, fun e => by rw [hEe.out] at e; cases e⟩
    | none =>
      rw [hk] at he4
      obtain rfl := he4.none_eq
      have hE3 := hE2.out
      rw [hk] at hE3
      simp only at hE3
      obtain ⟨hyl, hys⟩ := lookP_none hk
      obtain ⟨⟨y0, y1, y2⟩, -, -, -⟩ := qw.out.below b24
      replace hys := Lib.hid hys
      clear he4 hk hE2
      by_cases hlen2 : x.length = y.length
      · have hne : ((x.length : Int) != (y.length : Int)) = false := by rw [bne_eq_false_iff_eq]; omega
        have hne2 : (x.length != y.length) = false := by rw [bne_eq_false_iff_eq]; omega
        have hle2 := Lib.hid hlen2
        by_cases hxm : x.length < m
        · have hd : decide ((x.length : Int) < (m : Int)) = true := decide_eq_true (by omega)
          rw [if_pos (.inr hxm)] at hE3
          replace hE3 := Lib.hid hE3
          clear hlen2
          go_wp2_with fail
          refine (pairs_wrong r 1 3 _ (hg.out.below b14) (by decide) (by decide)).mono ?_
          rintro e w5 ⟨e5, rfl, b5, he5⟩
          replace he5 := Lib.hid he5
          go_wp2
          go_ret2
          exact ⟨_, _, rfl, Below.step b04 b5, by rw [← hE3.out]; exact he5.out, fun _ => rfl, fun e => by rw [← hE3.out] at e; cases e⟩
        · have hd : decide ((x.length : Int) < (m : Int)) = false := decide_eq_false (by omega)
          rw [if_neg (by omega)] at hE3
          replace hE3 := Lib.hid hE3
          have hxm2 := Lib.hid hxm
          clear hlen2
          go_wp2_with fail
          refine (hNodes.out a n c w4 (hg.out.below b14) (hT2.out.below b24)).mono ?_
          rintro e w5 ⟨z, e5, rfl, b5, rfl, rfl⟩
          have b15 := Below.step b14 b5
          have b25 := Below.step b24 b5
          have b05 := Below.step b04 b5
          clear y0 y1 y2
          obtain ⟨⟨y0, y1, y2⟩, -, -, -⟩ := qw.out.below b25
          go_wp2_with fail
          refine (hPath.out a n c _ x w5 (hg.out.below b15) (hT2.out.below b25) (hu.out.below b15) hxs.out hxl).mono ?_
          rintro e w6 ⟨pv, ov, e6, rfl, b6, rfl, hop, hoo, _⟩
          have b16 := Below.step b15 b6
          have b26 := Below.step b25 b6
          have b06 := Below.step b05 b6
          clear y0 y1 y2
          obtain ⟨⟨y0, y1, y2⟩, -, -, -⟩ := qw.out.below b26
          replace hop := Lib.hid hop
          replace hoo := Lib.hid hoo
          go_wp2_with fail
          refine (hPath.out a n c _ y w6 (hg.out.below b16) (hT2.out.below b26) (hv.out.below b16) hys.out hyl).mono ?_
          rintro e w7 ⟨qv, tv, e7, rfl, b7, rfl, hoq, hot, _⟩
          have b17 := Below.step b16 b7
          have b07 := Below.step b06 b7
          clear y0 y1 y2
          replace hoq := Lib.hid hoq
          replace hot := Lib.hid hot
          go_wp2_with fail
          refine (equal_any ov tv _ _ w7 (hoo.out.below b7).at hot.out.at).mono ?_
          rintro e w8 h8
          obtain ⟨rfl, b8⟩ := h8.below
          clear h8
          have b08 := Below.step b07 b8
          have b18 := Below.step b17 b8
          by_cases himg : imgP K R' T' x = imgP K R' T' y
          · rw [if_pos himg] at hE3
            rw [decide_eq_true himg]
            replace hE3 := Lib.hid hE3
            have hmx : m ≤ x.length := by have := hxm2.out; omega
            have hPl : (pathN K m x x.length).length = x.length + 1 - m := pathN_len _ _ _ _
            have hQl : (pathN K m y y.length).length = x.length + 1 - m := by rw [pathN_len, hle2.out]
            have hWl : (wayW K m x y).length = x.length + 1 - m := by rw [wayW_len]; omega
            have hPg : ∀ j, j < x.length + 1 - m → (castI (pathN K m x x.length)).getD j 0 = ((nodeAt K m x j : Nat) : Int) := fun j hj => pathN_all (by rw [hPl]; exact hj)
            have hQg : ∀ j, j < x.length + 1 - m → (castI (pathN K m y y.length)).getD j 0 = ((nodeAt K m y j : Nat) : Int) := fun j hj => pathN_all (by rw [hQl]; exact hj)
            have hWg : ∀ j, j < x.length + 1 - m → (castI (wayW K m x y)).getD j 0 = ((nodeAt K m x j * N + nodeAt K m y j : Nat) : Int) := fun j hj => by rw [wayW_all (by omega), hN.out]
            have hPn : ∀ j, j < x.length + 1 - m → nodeAt K m x j < N := fun j hj => by rw [← hN.out]; exact node_lt hxs.out (by omega)
            have hQn : ∀ j, j < x.length + 1 - m → nodeAt K m y j < N := fun j hj => by rw [← hN.out]; exact node_lt hys.out (by have := hle2.out; omega)
            have r1 := (Rows.void w5.heap.size w5).add (i := (1, 0)) (r' := rowI pv (castI (pathN K m x x.length))) b6 hop.out (fun k hk => (hop.out.lt k hk).1)
            have r2 := r1.add (i := (2, 0)) (r' := rowI qv (castI (pathN K m y y.length))) b7 (hoq.out.mono b6.size) (fun k hk => (hoq.out.lt k hk).1)
            obtain ⟨f, hf⟩ : ∃ f, f = upd (upd (fun _ => none) (1, 0) (some (rowI pv (castI (pathN K m x x.length))))) (2, 0) (some (rowI qv (castI (pathN K m y y.length)))) := ⟨_, rfl⟩
            have hfa : f (1, 0) = some (rowI pv (castI (pathN K m x x.length))) := by rw [hf, upd_ne _ _ (by simp), upd_same]
            have hfb : f (2, 0) = some (rowI qv (castI (pathN K m y y.length))) := by rw [hf, upd_same]
            rw [← hf] at r2
            have r3 := r2.below b8
            have b58 : Below w5.heap.size w5 w8 := Below.step b6 (Below.step b7 b8)
            have hs5 := b05.size
            have lq := (r3.ownI hfb).at.len
            have hcQ : (castI (pathN K m y y.length)).length = x.length + 1 - m := by rw [castI_len, hQl]
            have hcP : (castI (pathN K m x x.length)).length = x.length + 1 - m := by rw [castI_len, hPl]
            have hcW : (castI (wayW K m x y)).length = x.length + 1 - m := by rw [castI_len, hWl]
            rw [hcQ] at lq
            obtain ⟨L, hL⟩ : ∃ L, x.length + 1 - m = L := ⟨_, rfl⟩
            have hLb : L ≤ 4097 := by omega
            rw [hL] at hPg hQg hWg hPn hQn hcQ hcP hcW lq
            obtain ⟨p1, p2, p3, rfl⟩ := hop.out.at.shape
            obtain ⟨q1, q2, q3, rfl⟩ := hoq.out.at.shape
            generalize castI (pathN K m x x.length) = P at *
            generalize castI (pathN K m y y.length) = Q at *
            obtain ⟨Z, hZ⟩ : ∃ Z, castI (wayW K m x y) = Z := ⟨_, rfl⟩
            rw [hZ] at hcW hWg
            replace hZ := Lib.hid hZ
            replace r3 := Lib.hid r3
            replace hfa := Lib.hid hfa
            replace hfb := Lib.hid hfb
            replace hPg := Lib.hid hPg
            replace hQg := Lib.hid hQg
            replace hWg := Lib.hid hWg
            replace hPn := Lib.hid hPn
            replace hQn := Lib.hid hQn
            replace hcQ := Lib.hid hcQ
            replace hcP := Lib.hid hcP
            replace hcW := Lib.hid hcW
            replace hL := Lib.hid hL
            clear r1 r2 hf hop hoq hoo hot hPl hQl hWl
            go_wp2_with fail
            go_loopw [86] (fun jv wr => ∃ (j : Nat) (f : Names), j ≤ L ∧ jv = .int .i64 j ∧ Rows w5.heap.size wr f ∧ Below w5.heap.size w5 wr ∧ f (1, 0) = some (rowI (.slice p1 p2 p3) (Z.take j ++ P.drop j)) ∧ f (2, 0) = some (rowI (.slice q1 q2 q3) Q)) (fun jv _ => L - (intOf jv).toNat)
            case atStart => exact ⟨0, f, by omega, rfl, r3.out, b58, by simpa using hfa.out, hfb.out⟩
            case round =>
              clear r3 hfa hfb b58
              obtain ⟨j, f2, hj, rfl, hr2, bI, hfa, hfb⟩ := hrel
              obtain ⟨wo, rfl⟩ : ∃ wo : World, wo = wr := ⟨_, rfl⟩
              have hst : (Z.take j ++ P.drop j).length = L := by
                rw [List.length_append, List.length_take, List.length_drop, hcW.out, hcP.out]; omega
              have hoa := hr2.ownI hfa
              have hob := hr2.ownI hfb
              by_cases hjl : j < L
              · obtain ⟨pj, hpj⟩ : ∃ z, nodeAt K m x j = z := ⟨_, rfl⟩
                obtain ⟨qj, hqj⟩ : ∃ z, nodeAt K m y j = z := ⟨_, rfl⟩
                have hpl := hPn.out j hjl
                have hql := hQn.out j hjl
                have hP1 := hPg.out j hjl
                have hQ1 := hQg.out j hjl
                have hW1 := hWg.out j hjl
                rw [hpj] at hpl hP1 hW1
                rw [hqj] at hql hQ1 hW1
                obtain ⟨pn, hpn⟩ : ∃ z, pj * N = z := ⟨_, rfl⟩
                have hpn2 : (pj : Int) * (N : Int) = (pn : Int) := by rw [← hpn]; simp
                have hpnl : pn ≤ 6561 := by rw [← hpn]; exact Nat.le_trans (Nat.mul_le_mul (show pj ≤ 81 by omega) hN81) (by decide)
                obtain ⟨s, hs⟩ : ∃ z, pn + qj = z := ⟨_, rfl⟩
                have hs2 : (pn : Int) + (qj : Int) = (s : Int) := by omega
                have hw1 : IntKind.i64.wrap (pn : Int) = pn := wrapK (by omega) (by omega)
                have hw2 : IntKind.i64.wrap (s : Int) = s := wrapK (by omega) (by omega)
                rw [hpn, hs] at hW1
                have iP := fun w' => hoa.at.idx j (by rw [hst]; exact hjl) w'
                have cP := hoa.at.cellD j (by rw [hst]; exact hjl)
                have eP : (Z.take j ++ P.drop j).getD j 0 = (pj : Int) := by
                  rw [← hP1, List.getD_eq_getElem?_getD, List.getElem?_append_right (by rw [List.length_take]; omega), List.length_take, List.getElem?_drop, hcW.out, show j + (j - min j L) = j by omega, ← List.getD_eq_getElem?_getD]
                rw [eP] at cP
                have fP := hoa.frz j (by rw [hst]; exact hjl)
                have kP := (hoa.toV.blkB j (by rw [List.length_map, hst]; exact hjl)).2
                have iQ := fun w' => hob.at.idx j (by rw [hcQ.out]; exact hjl) w'
                have cQ := hob.at.cellD j (by rw [hcQ.out]; exact hjl)
                rw [hQ1] at cQ
                have hr8 := hr2.setI hfa j (by rw [hst]; exact hjl) (s : Int)
                have eZ : (Z.take j ++ P.drop j).set j (s : Int) = Z.take (j + 1) ++ P.drop (j + 1) := by
                  have hjZ : j < Z.length := by rw [hcW.out]; exact hjl
                  have := fill_front' Z P j hjZ (by rw [hcP.out, hcW.out])
                  rw [← this]
                  congr 1
                  rw [← hW1]; simp [List.getD, hjZ]
                rw [eZ] at hr8
                obtain ⟨f8, hf8⟩ : ∃ f8, f8 = upd f2 (1, 0) (some (rowI (.slice p1 p2 p3) (Z.take (j + 1) ++ P.drop (j + 1)))) := ⟨_, rfl⟩
                rw [← hf8] at hr8
                have hfa8 : f8 (1, 0) = some (rowI (.slice p1 p2 p3) (Z.take (j + 1) ++ P.drop (j + 1))) := by rw [hf8, upd_same]
                have hfb8 : f8 (2, 0) = some (rowI (.slice q1 q2 q3) Q) := by rw [hf8, upd_ne _ _ (by simp)]; exact hfb
                have b8' := bI.setCell kP (.int .i64 (s : Int))
                have hjl2 := Lib.hid hjl
                generalize valAt (.slice p1 p2 p3) j = pa at *
                generalize valAt (.slice q1 q2 q3) j = qa at *
                replace hpj := Lib.hid hpj
                replace hqj := Lib.hid hqj
                replace hpn := Lib.hid hpn
                replace hs := Lib.hid hs
                replace hr8 := Lib.hid hr8
                replace hfa8 := Lib.hid hfa8
                replace hfb8 := Lib.hid hfb8
                replace b8' := Lib.hid b8'
                clear hf8 eP eZ hoa hob hr2 hfa hfb hP1 hQ1 hW1 hst
                go_wp2
                go_roundw
                case measure => have := hjl2.out; simp [intOf]; omega
                case rel => exact ⟨j + 1, f8, by have := hjl2.out; omega, by go_num, hr8.out, by first | exact b8'.out | exact b8'.out.drew, hfa8.out, hfb8.out⟩
              · obtain rfl : j = L := by omega
                rw [List.take_of_length_le (by rw [hcW.out]; omega), List.drop_of_length_le (by rw [hcP.out]; omega), List.append_nil] at hoa
                have bE := Lib.hid (b05.trans (bI.mono hs5))
                have hoE := Lib.hid (hoa.mono hs5)
                clear hr2 hfa hfb hoa hob
                go_wp2
                go_ret2
                exact ⟨_, _, rfl, bE.out, by rw [← hE3.out]; rfl, fun e => absurd hE3.out.symm e, fun _ => by rw [hZ.out]; exact hoE.out⟩
          · rw [if_neg himg] at hE3
            rw [decide_eq_false himg]
            replace hE3 := Lib.hid hE3
            go_wp2_with fail
            refine (pairs_wrong r 2 3 _ (hg.out.below b18) (by decide) (by decide)).mono ?_
            rintro e w9 ⟨e9, rfl, b9, he9⟩
            replace he9 := Lib.hid he9
            go_wp2
            go_ret2
            exact ⟨_, _, rfl, Below.step b08 b9, by rw [← hE3.out]; exact he9.out, fun _ => rfl, fun e => by rw [← hE3.out] at e; cases e⟩
      · have hne : ((x.length : Int) != (y.length : Int)) = true := by rw [bne_iff_ne]; omega
        have hne2 : (x.length != y.length) = true := by rw [bne_iff_ne]; omega
        rw [if_pos (.inl hlen2)] at hE3
        replace hE3 := Lib.hid hE3
        go_wp2_with fail
        refine (pairs_wrong r 1 3 _ (hg.out.below b14) (by decide) (by decide)).mono ?_
        rintro e w5 ⟨e5, rfl, b5, he5⟩
        replace he5 := Lib.hid he5
        go_wp2
        go_ret2
        exact ⟨_, _, rfl, Below.step b04 b5, by rw [← hE3.out]; exact he5.out, fun _ => rfl, fun e => by rw [← hE3.out] at e; cases e⟩
end Go.Proofs.YthnkdiejmclmkaaDoor

namespace Go.Proofs.YthnkdiejmclmkaaDoor
open Go.RowKit
set_option maxRecDepth 100000

set_option maxHeartbeats 1000000 in
theorem pairsKeeps_long (r : Nat → Addr) (k R : Int) (va : Option Addr) (vn vc : Nat) (T : List Int) (u : Value) (x : List Int) (w : World) (hg : Glob r w) (h : IntsAt w (.slice va vn vc) T) (hu : IntsAt w u x) (hl : 32 < T.length ∨ 60 < x.length) :
    Calls Tryd.prog 5 #[.agg #[.int .i64 k, .int .i64 R, .slice va vn vc], u] w (Ret1 (fun x _ => x = .bool true) w) := by
  have b0 := belowAlloc w (.cells #[.int .i64 k, .int .i64 R, .slice va vn vc] 24)
  have q : Box3 (w.alloc (.cells #[.int .i64 k, .int .i64 R, .slice va vn vc] 24)) w.heap.size (.int .i64 k) (.int .i64 R) (.slice va vn vc) := by simp [Box3, go_sem]
  have lT := h.len
  have lTm := h.len_le
  have lx := hu.len
  have lxm := hu.len_le
  obtain ⟨ua, un, uc, rfl⟩ := hu.shape
  replace hg := Lib.hid (hg.below b0)
  by_cases hT : 32 < T.length
  · have hd : decide ((32 : Int) < (T.length : Int)) = true := decide_eq_true (by omega)
    go_enter Tryd.func5, Tryd.ntmps5
    go_wp2_with fail
    refine (awake13 r _ hg.out).mono ?_
    rintro e w1 ⟨_, rfl, b1, rfl⟩
    obtain ⟨⟨z0, z1, z2⟩, -, -, -⟩ := q.below b1
    go_wp2
    go_ret
    exact ⟨_, rfl, Below.step b0 b1, rfl⟩
  · have hx : 60 < x.length := by omega
    have hd : decide ((32 : Int) < (T.length : Int)) = false := decide_eq_false (by omega)
    have hd2 : decide ((60 : Int) < (x.length : Int)) = true := decide_eq_true (by omega)
    clear hl
    go_enter Tryd.func5, Tryd.ntmps5
    go_wp2_with fail
    refine (awake13 r _ hg.out).mono ?_
    rintro e w1 ⟨_, rfl, b1, rfl⟩
    obtain ⟨⟨z0, z1, z2⟩, -, -, -⟩ := q.below b1
    go_wp2
    go_ret
    exact ⟨_, rfl, Below.step b0 b1, rfl⟩

set_option maxHeartbeats 1000000 in
theorem pairsKeeps_bad (r : Nat → Addr) (k R : Int) (va : Option Addr) (vn vc : Nat) (T : List Int) (u : Value) (x : List Int) (t : Int × List (ByteArray × Int)) (w : World) (hg : Glob r w) (h : IntsAt w (.slice va vn vc) T) (hu : IntsAt w u x) (hT : T.length ≤ 32) (hx : x.length ≤ 60) (hc : smallP k R T = some t) :
    Calls Tryd.prog 5 #[.agg #[.int .i64 k, .int .i64 R, .slice va vn vc], u] w (Ret1 (fun x _ => x = .bool true) w) := by
  have b0 := belowAlloc w (.cells #[.int .i64 k, .int .i64 R, .slice va vn vc] 24)
  have q : Box3 (w.alloc (.cells #[.int .i64 k, .int .i64 R, .slice va vn vc] 24)) w.heap.size (.int .i64 k) (.int .i64 R) (.slice va vn vc) := by simp [Box3, go_sem]
  have lT := h.len
  have lx := hu.len
  obtain ⟨ua, un, uc, rfl⟩ := hu.shape
  have hd : decide ((32 : Int) < (T.length : Int)) = false := decide_eq_false (by omega)
  have hd2 : decide ((60 : Int) < (x.length : Int)) = false := decide_eq_false (by omega)
  replace hg := Lib.hid (hg.below b0)
  replace h := Lib.hid (h.below b0)
  replace hc := Lib.hid hc
  go_enter Tryd.func5, Tryd.ntmps5
  go_wp2_with fail
  refine (awake13 r _ hg.out).mono ?_
  rintro e w1 ⟨_, rfl, b1, rfl⟩
  obtain ⟨⟨z0, z1, z2⟩, -, -, -⟩ := q.below b1
  go_wp2_with fail
  refine (pgraph_bad r k R va vn vc T t w1 (hg.out.below b1) (h.out.below b1) hc.out).mono ?_
  rintro e w2 ⟨gv, y, rfl, b2, rfl, hy⟩
  obtain ⟨T2, a2, rfl⟩ : ∃ T a, y = .iface T (.pointer (some a)) := by
    unfold under at hy
    exact ErrIs.some_shape hy
  have b12 := Below.step b1 b2
  clear z0 z1 z2 hy
  obtain ⟨⟨z0, z1, z2⟩, -, -, -⟩ := q.below b12
  go_wp2_with fail
  refine (papart_bad r k R va vn vc T t w2 (hg.out.below b12) (h.out.below b12) hc.out).mono ?_
  rintro e w3 ⟨bv, y, rfl, b3, rfl, hy⟩
  obtain ⟨T3, a3, rfl⟩ : ∃ T a, y = .iface T (.pointer (some a)) := by
    unfold under at hy
    exact ErrIs.some_shape hy
  have b13 := Below.step b12 b3
  clear z0 z1 z2 hy
  obtain ⟨⟨z0, z1, z2⟩, -, -, -⟩ := q.below b13
  go_wp2_with fail
  refine (papart_bad r k R va vn vc T t w3 (hg.out.below b13) (h.out.below b13) hc.out).mono ?_
  rintro e w4 ⟨bv, y, rfl, b4, rfl, hy⟩
  obtain ⟨T4, a4, rfl⟩ : ∃ T a, y = .iface T (.pointer (some a)) := by
    unfold under at hy
    exact ErrIs.some_shape hy
  clear z0 z1 z2 hy
  go_wp2
  go_ret
  exact ⟨_, rfl, Below.step b0 (Below.step b13 b4), rfl⟩
end Go.Proofs.YthnkdiejmclmkaaDoor

namespace Go.Proofs.YthnkdiejmclmkaaDoor

theorem wayW_low {K R : Nat} {x y : List Int} (hx : Syms K x) (hy : Syms K y) (hl : x.length = y.length) (hm : 2 * R ≤ x.length) : ∀ p ∈ wayW K (2 * R) x y, p < pw K (2 * R) * pw K (2 * R) := by
  intro p hp
  obtain ⟨i, hi, rfl⟩ := List.mem_map.1 hp
  have := List.mem_range.1 hi
  exact pair_lt (node_lt hx (by omega)) (node_lt hy (by omega))
theorem wayW_fit {K R : Nat} {T x y : List Int} (hK : 1 ≤ K) (hR : 1 ≤ R) (hx : Syms K x) (hy : Syms K y) (hl : x.length = y.length) (hm : 2 * R ≤ x.length) (he : imgP K R T x = imgP K R T y) :
    AllFit K (pw K (2 * R)) T (wayW K (2 * R) x y) := by
  intro i hi
  rw [wayW_len] at hi
  have n2 := node_lt (K := K) (m := 2 * R) hy (i := i) (by omega)
  rw [wayW_get (by omega), wayW_get (by omega)]
  refine (fits_iff hK hR (pair_lt (node_lt hx (by omega)) (node_lt hy (by omega)))).2 ?_
  rw [pair_div n2, pair_mod n2]
  exact wayW_arr hx hy hl he (by omega)
theorem wayW_back {K R : Nat} {x y : List Int} (hK : 1 ≤ K) (hR : 1 ≤ R) (hx : Syms K x) (hy : Syms K y) (hl : x.length = y.length) (hm : 2 * R ≤ x.length) :
    alongW K (2 * R) (· / pw K (2 * R)) (wayW K (2 * R) x y) = x ∧ alongW K (2 * R) (· % pw K (2 * R)) (wayW K (2 * R) x y) = y := by
  constructor
  · refine along_word hK hR hx hm (wayW_len _ _ _ _) fun i hi => ?_
    rw [wayW_len] at hi
    show (wayW K (2 * R) x y).getD i 0 / pw K (2 * R) = _
    rw [wayW_get (by omega), pair_div (node_lt hy (by omega))]
  · refine along_word hK hR hy (by omega) (by rw [wayW_len, hl]) fun i hi => ?_
    rw [wayW_len] at hi
    show (wayW K (2 * R) x y).getD i 0 % pw K (2 * R) = _
    rw [wayW_get (by omega), pair_mod (node_lt hy (by omega))]
end Go.Proofs.YthnkdiejmclmkaaDoor

namespace Go.Proofs.YthnkdiejmclmkaaDoor
open Go.RowKit
set_option maxRecDepth 100000

/-- Each owned, no two in one block. -/
structure Kin (w : World) (lo : Nat) (vs : List Value) (xs : List (List Int)) : Prop where
  len : vs.length = xs.length
  own : ∀ t, t < vs.length → OwnI lo w (vAt vs t) (xs.getD t [])
  two : ∀ s t, s < vs.length → t < vs.length → s ≠ t → (vAt vs s).ownBlock = none ∨ (vAt vs s).ownBlock ≠ (vAt vs t).ownBlock

theorem Owns.kin {w : World} {lo : Nat} {vs : List Value} {xs : List (List Int)} (h : Owns w lo vs xs) : Kin w lo vs xs :=
  ⟨h.get.1, h.get.2, h.two⟩

/-- The last two of four change places. -/
theorem Kin.swap {w : World} {lo : Nat} {a b c d : Value} {x y z u : List Int} (h : Kin w lo [a, b, c, d] [x, y, z, u]) : Kin w lo [a, b, d, c] [x, y, u, z] := by
  refine ⟨rfl, fun t ht => ?_, fun s t hs ht hne => ?_⟩
  · have : t = 0 ∨ t = 1 ∨ t = 2 ∨ t = 3 := by simp at ht; omega
    rcases this with rfl | rfl | rfl | rfl
    · exact h.own 0 (by simp)
    · exact h.own 1 (by simp)
    · exact h.own 3 (by simp)
    · exact h.own 2 (by simp)
  · have h1 : s = 0 ∨ s = 1 ∨ s = 2 ∨ s = 3 := by simp at hs; omega
    have h2 : t = 0 ∨ t = 1 ∨ t = 2 ∨ t = 3 := by simp at ht; omega
    rcases h1 with rfl | rfl | rfl | rfl <;> rcases h2 with rfl | rfl | rfl | rfl
    · exact absurd rfl hne
    · exact h.two 0 1 (by simp) (by simp) (by decide)
    · exact h.two 0 3 (by simp) (by simp) (by decide)
    · exact h.two 0 2 (by simp) (by simp) (by decide)
    · exact h.two 1 0 (by simp) (by simp) (by decide)
    · exact absurd rfl hne
    · exact h.two 1 3 (by simp) (by simp) (by decide)
    · exact h.two 1 2 (by simp) (by simp) (by decide)
    · exact h.two 3 0 (by simp) (by simp) (by decide)
    · exact h.two 3 1 (by simp) (by simp) (by decide)
    · exact absurd rfl hne
    · exact h.two 3 2 (by simp) (by simp) (by decide)
    · exact h.two 2 0 (by simp) (by simp) (by decide)
    · exact h.two 2 1 (by simp) (by simp) (by decide)
    · exact h.two 2 3 (by simp) (by simp) (by decide)
    · exact absurd rfl hne

theorem apart_kin (lv : Value) (vs : List Value) (xs : List (List Int)) (lo : Nat) (w : World) (h : Kin w lo vs xs) (hv : ValsAt w lv vs) (hn : vs.length ≤ 1000) (hx : ∀ x ∈ xs, x.length ≤ 1099511627776) (hlo : lo ≤ w.heap.size)
    (hd : ∀ i t, i < vs.length → t < vs.length → (vAt vs t).ownBlock ≠ some (valAt lv i).block) :
    Calls Tryd.prog 25 #[lv] w fun e w' => e = .returned (.bool true) ∧ Below lo w w' := by
  refine apart_any lo _ vs (fun t => xs.getD t []) _ hv hn (fun t ht => ?_) h.own ⟨h.two, fun i t hi ht e => hd i t hi ht e⟩ hlo
  have : t < xs.length := by have := h.len; omega
  simp only [List.getD, List.getElem?_eq_getElem this, Option.getD_some]
  exact hx _ (List.getElem_mem this)

theorem Kin.of_kept {w w' : World} {lo : Nat} {vs : List Value} {xs : List (List Int)} (h : Kin w lo vs xs) (hk : ∀ t, t < vs.length → OwnI lo w (vAt vs t) (xs.getD t []) → OwnI lo w' (vAt vs t) (xs.getD t [])) : Kin w' lo vs xs :=
  ⟨h.len, fun t ht => hk t ht (h.own t ht), h.two⟩

/-- append, its run known. -/
theorem wpl_app_run {w : World} {ops : Array Oper} {rest : List Oper} {o : Oper} {a : Act} {Q : Exit → Act → World → Prop} (hgd : o.guard = none) (s x : Operand) (T : TypeId)
    (ho : o.op = .call { callee := .builtin .append, args := #[s, x], argTypes := #[T, T] })
    (v u : Value) (hs : a.eval s = v) (hx : a.eval x = u) {v' : Value} {w' : World} (hr : (Builtin.append_ #[T, T] o.type #[v, u]).run Tryd.prog w = .ok v' w')
    (h : wpList Tryd.prog ops Q rest (a.put o.dst v') w') :
    wpList Tryd.prog ops Q (o :: rest) a w := by
  refine wpList_plain hgd fun K hK => ?_
  unfold Oper.wp execOp
  simp only [ho, resolve, invoke, builtin, Sem.run_bind, Sem.run_pure, Result.andThen_ok, List.map_toArray, List.map_cons, List.map_nil, hs, hx]
  rw [hr]
  exact hK _ _ h

/-- append(all, o), all a literal list just laid. -/
theorem app_kin (w : World) (lo : Nat) (vs : List Value) (o : Value) (xs : List (List Int)) (h : Kin w lo (vs ++ [o]) xs) (hn : vs.length ≤ 90) (cs : Array Value) (hcs : cs.toList = vs) (n : Nat) (hnn : n = vs.length) (ho : o.oneCell' = true)
    (b : Nat) (hb : b = w.heap.size + 1) :
    ∃ v' w', (Builtin.append_ #[44, 44] 44 #[.slice (some ⟨w.heap.size, 0, none⟩) n n, .slice (some ⟨b, 0, none⟩) 1 1]).run Tryd.prog ((w.alloc (.cells cs 22)).alloc (.cells #[o] 22)) = .ok v' w' ∧
      ValsAt w' v' (vs ++ [o]) ∧ Kin w' lo (vs ++ [o]) xs ∧ Below w.heap.size w w' ∧ ∀ i t, i < (vs ++ [o]).length → t < (vs ++ [o]).length → (vAt (vs ++ [o]) t).ownBlock ≠ some (valAt v' i).block := by
  subst hnn hb
  have hs : cs.size = vs.length * 1 := by rw [← Array.length_toList, hcs]; simp
  have hm : vs.length ≤ maxLen := by unfold maxLen; omega
  have hv : OwnV 22 w.heap.size (w.alloc (.cells cs 22)) (.slice (some ⟨w.heap.size, 0, none⟩) vs.length vs.length) vs := by
    have := World.ownsRow_lit (base := w.heap.size) (e := 22) (size := 1) w cs vs.length (Nat.le_refl _) hm hs
    rw [hcs] at this
    exact this
  have hsz : (w.alloc (.cells cs 22)).heap.size = w.heap.size + 1 := by simp
  have hc1 := cell_one_new (w.alloc (.cells cs 22)) o 22
  rw [hsz] at hc1
  obtain ⟨v', w', hr, h2, h3⟩ := run_app oneLists ((w.alloc (.cells cs 22)).alloc (.cells #[o] 22)) w.heap.size 44 _ vs (hv.alloc _) ⟨w.heap.size + 1, 0, none⟩ 1 [o] (by simp) hc1 (by simpa using ho) (by simp; omega) (by simp; omega)
  have hal : Below w.heap.size w ((w.alloc (.cells cs 22)).alloc (.cells #[o] 22)) := ((Below.refl _ _).alloc (Nat.le_refl _) _).alloc (by simp) _
  have hne : ∀ t, t < (vs ++ [o]).length → (vAt (vs ++ [o]) t).ownBlock = none ∨ (vAt (vs ++ [o]) t).ownBlock ≠ some w.heap.size := fun t ht => by
    cases hk : (vAt (vs ++ [o]) t).ownBlock with
    | none => exact .inl rfl
    | some q =>
      right
      intro e
      have := ((h.own t ht).lt q hk).2
      simp at e
      omega
  refine ⟨v', w', hr, h2.at, h.of_kept fun t ht h0 => ?_, ?_, fun i t hi ht e => ?_⟩
  · have h1 := (h0.alloc (.cells cs 22)).alloc (.cells #[o] 22)
    rcases h3 with ⟨_, hg⟩ | ⟨_, hg⟩
    · exact h1.kept hg (hne t ht)
    · refine h1.kept hg ?_
      cases (vAt (vs ++ [o]) t).ownBlock <;> simp
  · rcases h3 with ⟨_, hg⟩ | ⟨_, hg⟩
    · exact hal.grown hg hal.size (by intro k hk; simp [Value.ownBlock] at hk; omega)
    · exact hal.grown hg hal.size (by intro k hk; cases hk)
  · have h5 := (h2.blkB i hi).2
    have := ((h.own t ht).lt _ e).2
    omega
end Go.Proofs.YthnkdiejmclmkaaDoor

namespace Go.Proofs.YthnkdiejmclmkaaDoor
open Go.RowKit
set_option maxRecDepth 100000

theorem wpl_appV {T E : TypeId} {z : Value} {b : Nat} (oc : OneCell T E z b) {w : World} {ops : Array Oper} {rest : List Oper} {o : Oper} {a : Act} {Q : Exit → Act → World → Prop} (hgd : o.guard = none) (s x : Operand)
    (ho : o.op = .call { callee := .builtin .append, args := #[s, x], argTypes := #[T, T] })
    (B : Nat) (v : Value) (p : Addr) (c : Nat) (xs ys : List Value) (hown : OwnV E B w v xs) (hu : ValsAt w (.slice (some p) ys.length c) ys) (hys : ∀ u ∈ ys, u.oneCell' = true) (hs : a.eval s = v) (hx : a.eval x = .slice (some p) ys.length c)
    (hlen : xs.length + ys.length ≤ 1000000) (hy1 : 1 ≤ ys.length) (hB : B ≤ w.heap.size)
    (h : ∀ v' w', OwnV E B w' v' (xs ++ ys) → Below B w w' → ((roomOf v' = roomOf v ∧ w.grownBy w' v.ownBlock) ∨ (∃ k, v'.ownBlock = some k ∧ w.heap.size ≤ k ∧ w.grownBy w' none)) → wpList Tryd.prog ops Q rest (a.put o.dst v') w') :
    wpList Tryd.prog ops Q (o :: rest) a w := by
  refine wpList_plain hgd fun K hK => ?_
  have hcell : ∀ j u, ys[j]? = some u → w.cell? (p.add j) = some u := fun j u hj => by
    obtain ⟨hjl, rfl⟩ := List.getElem?_eq_some_iff.1 hj
    obtain ⟨p', cap, e, _, _, _, h4⟩ := hu
    cases e
    have := h4 j hjl
    simpa [valAt] using this
  obtain ⟨v', w', hr, h2, h3⟩ := run_app oc w B o.type v _ hown p c ys (by omega) hcell hys (by omega) hB
  unfold Oper.wp execOp
  simp only [ho, resolve, invoke, builtin, Sem.run_bind, Sem.run_pure, Result.andThen_ok, List.map_toArray, List.map_cons, List.map_nil, hs, hx]
  rw [hr]
  rcases h3 with ⟨hroom, hg⟩ | ⟨hk, hg⟩
  · exact hK _ _ (h v' w' h2 ((Below.refl _ _).grown hg hB (fun k hk => (hown.lt k hk).1)) (.inl ⟨hroom, hg⟩))
  · exact hK _ _ (h v' w' h2 ((Below.refl _ _).grown hg hB (by intro k hk; cases hk)) (.inr ⟨_, hk, Nat.le_refl _, hg⟩))
end Go.Proofs.YthnkdiejmclmkaaDoor

namespace Go.Proofs.YthnkdiejmclmkaaDoor
open Go.RowKit
set_option maxRecDepth 100000

theorem apart_rows {B : Nat} {w : World} {f : Names} {lv : Value} {vs : List Value} (t0 : Nat × Nat) (nm : Nat → Nat × Nat) (X : Nat → List Int) (hr : Rows B w f) (htop : f t0 = some (rowV 22 lv vs))
    (hn : ∀ t, t < vs.length → f (nm t) = some (rowI (vAt vs t) (X t)) ∧ nm t ≠ t0) (hinj : ∀ s t, s < vs.length → t < vs.length → s ≠ t → nm s ≠ nm t) (hlen : vs.length ≤ 1000) (hX : ∀ t, t < vs.length → (X t).length ≤ 1099511627776) (hB : B ≤ w.heap.size) :
    Calls Tryd.prog 25 #[lv] w fun e w' => e = .returned (.bool true) ∧ Below B w w' := by
  have hO := hr.ownV htop
  refine apart_any B lv vs X w hO.at hlen hX (fun t ht => hr.ownI (hn t ht).1) ⟨fun s t hs ht hne => hr.2 _ _ _ _ (hn s hs).1 (hn t ht).1 (hinj s t hs ht hne), fun i t hi ht e => ?_⟩ hB
  have hb := (hO.blkB i hi).1
  rcases hr.2 _ _ _ _ htop (hn t ht).1 (fun e => (hn t ht).2 e.symm) with h | h
  · exact absurd (hb.symm.trans h) (by simp)
  · exact h (hb.trans e.symm)
end Go.Proofs.YthnkdiejmclmkaaDoor

namespace Go.Proofs.YthnkdiejmclmkaaDoor
open Go.RowKit
set_option maxRecDepth 100000

theorem sorted_short : ∀ {L : List Nat} {lo n : Nat}, L.Pairwise (· < ·) → (∀ v ∈ L, lo ≤ v ∧ v < n) → L.length ≤ n - lo
  | [], _, _, _, _ => by simp
  | a :: L, lo, n, h, k => by
    have h1 := k a (by simp)
    have h2 := List.pairwise_cons.1 h
    have := sorted_short (lo := a + 1) (n := n) h2.2 (fun v hv => ⟨h2.1 v hv, (k v (by simp [hv])).2⟩)
    simp; omega
theorem live_short {n : Nat} {adj : Nat → List Nat} {L : List Nat} (h : LiveList n adj L) : L.length ≤ n :=
  Nat.le_trans (sorted_short (lo := 0) (n := n) h.sorted (fun v hv => ⟨Nat.zero_le _, ((h.mem v).1 hv).1⟩)) (by omega)
/-- Two new rows, made by one call. -/
theorem Rows.add2 {B : Nat} {w w' : World} {f : Names} {i j : Nat × Nat} {r' s' : Row} (h : Rows B w f) (hb : Below w.heap.size w w') (ho : r'.own B w') (hn : ∀ k, r'.v.ownBlock = some k → w.heap.size ≤ k) (ho2 : s'.own B w') (hn2 : ∀ k, s'.v.ownBlock = some k → w.heap.size ≤ k)
    (hne : r'.v.ownBlock = Option.none ∨ r'.v.ownBlock ≠ s'.v.ownBlock) (hij : i ≠ j) : Rows B w' (upd (upd f i (some r')) j (some s')) := by
  have h1 := h.add (i := i) hb ho hn
  have far : ∀ k t, upd f i (some r') k = some t → k ≠ j → t.v.ownBlock = Option.none ∨ t.v.ownBlock ≠ s'.v.ownBlock := fun k t hk hkj => by
    by_cases e : k = i
    · subst e
      rw [upd_same] at hk; cases hk
      exact hne
    · rw [upd_ne _ _ e] at hk
      cases hs : t.v.ownBlock with
      | none => exact .inl rfl
      | some m =>
        right; intro e2
        have := hn2 m e2.symm
        have := (h.lt hk m hs).2
        omega
  refine ⟨fun k t hk => ?_, fun k l s t hk hl hkl => ?_⟩
  · by_cases e : k = j
    · subst e; rw [upd_same] at hk; cases hk; exact ho2
    · rw [upd_ne _ _ e] at hk
      exact h1.1 k t hk
  · by_cases e : k = j
    · subst e
      rw [upd_same] at hk; cases hk
      rw [upd_ne _ _ (Ne.symm hkl)] at hl
      rcases far l t hl (Ne.symm hkl) with e2 | e2
      · cases hr : s'.v.ownBlock with
        | none => exact .inl rfl
        | some m => right; rw [e2]; simp
      · exact .inr (Ne.symm e2)
    · rw [upd_ne _ _ e] at hk
      by_cases e' : l = j
      · subst e'; rw [upd_same] at hl; cases hl
        exact far k s hk e
      · rw [upd_ne _ _ e'] at hl
        exact h1.2 k l s t hk hl hkl
theorem Rows.appV {B : Nat} {w w' : World} {f : Names} {i : Nat × Nat} {E : TypeId} {v v' : Value} {xs ys : List Value} (h : Rows B w f) (hi : f i = some (rowV E v xs)) (ho : OwnV E B w' v' ys)
    (hal : (roomOf v' = roomOf v ∧ w.grownBy w' v.ownBlock) ∨ (∃ k, v'.ownBlock = some k ∧ w.heap.size ≤ k ∧ w.grownBy w' Option.none)) : Rows B w' (upd f i (some (rowV E v' ys))) := by
  have hO := h.ownV hi
  rcases hal with ⟨hr, hg⟩ | ⟨k, hk, hks, hg⟩
  · refine h.grown (r' := rowV E v' ys) hi hg ho (.inl ?_)
    obtain ⟨a, c, e, _⟩ := hO.at
    obtain ⟨a', c', e', _⟩ := ho.at
    exact ownBlock_of_room e e' hr
  · exact h.grown (r' := rowV E v' ys) hi (grown_any hg _) ho (.inr ⟨k, hk, hks⟩)

/-- The rows of the graph, under names, with what lies beside them. -/
def nmPK (M : Nat) (t : Nat) : Nat × Nat := if t < 2 then (3, t) else if t < M + 2 then (2, t - 2) else (4, t - (M + 2))
theorem nmPK_inj {M s t : Nat} (h : nmPK M s = nmPK M t) : s = t := by
  unfold nmPK at h
  split at h <;> split at h <;> (try split at h) <;> (try split at h) <;> simp at h <;> omega
theorem nmPK_top (M t : Nat) : nmPK M t ≠ (5, 0) := by
  unfold nmPK
  split
  · simp
  · split <;> simp
theorem pk_nodes {K R : Nat} {T : List Int} (h : RuleOk K R T) (hl : T.length ≤ 32) : pw K (2 * wkR R) * pw K (2 * wkR R) ≤ 256 := by
  have h1 := h.k1
  have h4 := h.k4
  have h3 := h.r3
  rw [h.len] at hl
  have hK : K = 1 ∨ K = 2 ∨ K = 3 ∨ K = 4 := by omega
  have hR' : R = 0 ∨ R = 1 ∨ R = 2 ∨ R = 3 := by omega
  rcases hK with rfl | rfl | rfl | rfl <;> rcases hR' with rfl | rfl | rfl | rfl <;> revert hl <;> decide
theorem wn_some {B : Nat} {w : World} {f : Names} {ov : Value} {vals : List Value} {n : Nat} {F : Nat → List Int} (h : WN f ov vals n F) (hr : Rows B w f) (hn : 1 ≤ n) : ∃ p c, ov = .slice (some p) vals.length c := by
  have hO := hr.ownV h.outer
  obtain ⟨a, c, e, _⟩ := hO.at
  have hb := (hO.blkB 0 (by rw [h.len]; omega)).1
  rw [e] at hb
  cases a with
  | none => simp [Value.ownBlock] at hb
  | some p => exact ⟨p, c, e⟩
theorem wn_one {B : Nat} {w : World} {f : Names} {ov : Value} {vals : List Value} {n : Nat} {F : Nat → List Int} (h : WN f ov vals n F) (hr : Rows B w f) : ∀ u ∈ vals, u.oneCell' = true := fun u hu => by
  obtain ⟨i, hi, rfl⟩ := List.mem_iff_getElem.1 hu
  have ho := hr.ownI (h.rows i (by rw [← h.len]; exact hi))
  obtain ⟨a, n, c, e⟩ := ho.at.shape
  have e2 : vAt vals i = vals[i] := by simp [vAt, List.getD, hi]
  rw [← e2, e]; rfl

theorem pk_names {f : Names} {M : Nat} {b c : Value} {vals more : List Value} {X1 X2 : List Int} {F Y : Nat → List Int} (hl : vals.length = M) (g30 : f (3, 0) = some (rowI b X1)) (g31 : f (3, 1) = some (rowI c X2))
    (g2 : ∀ u, u < M → f (2, u) = some (rowI (vAt vals u) (F u))) (g4 : ∀ t, t < more.length → f (4, t) = some (rowI (vAt more t) (Y t))) :
    ∀ t, t < (([b, c] ++ vals) ++ more).length → f (nmPK M t) = some (rowI (vAt (([b, c] ++ vals) ++ more) t) (if t < 2 then (if t = 0 then X1 else X2) else if t < M + 2 then F (t - 2) else Y (t - (M + 2)))) := by
  intro t ht
  simp at ht
  match t, ht with
  | 0, _ => exact g30
  | 1, _ => exact g31
  | t + 2, ht =>
    rw [if_neg (show ¬ t + 2 < 2 by omega)]
    by_cases h : t + 2 < M + 2
    · have e : nmPK M (t + 2) = (2, t) := by unfold nmPK; rw [if_neg (by omega), if_pos h]; rfl
      rw [if_pos h, e, g2 t (by omega)]
      congr 2
      unfold vAt
      simp [List.getD, List.getElem?_append, show t < vals.length by omega]
    · obtain ⟨s, rfl⟩ : ∃ s, t = M + s := ⟨t - M, by omega⟩
      have e : nmPK M (M + s + 2) = (4, s) := by unfold nmPK; rw [if_neg (by omega), if_neg h, show M + s + 2 - (M + 2) = s by omega]
      rw [if_neg h, e, show M + s + 2 - (M + 2) = s by omega, g4 s (by omega)]
      congr 2
      unfold vAt
      simp [List.getD, List.getElem?_append, show ¬ M + s < vals.length by omega, show M + s - vals.length = s by omega]
theorem pk_short {n M : Nat} {X1 X2 : List Int} {F Y : Nat → List Int} (h1 : X1.length ≤ 256) (h2 : X2.length ≤ 256) (hF : ∀ t, (F t).length ≤ 100) (hY : ∀ t, (Y t).length ≤ 1099511627776) :
    ∀ t, t < n → (if t < 2 then (if t = 0 then X1 else X2) else if t < M + 2 then F (t - 2) else Y (t - (M + 2))).length ≤ 1099511627776 := by
  intro t _
  have := hF (t - 2)
  split
  · split <;> omega
  · split
    · omega
    · exact hY _

set_option maxHeartbeats 4000000 in
theorem pairsKeeps_ok (r : Nat → Addr) (K R : Nat) (va : Option Addr) (vn vc : Nat) (T : List Int) (u : Value) (x : List Int) (w : World) (hg : Glob r w) (h : IntsAt w (.slice va vn vc) T) (hu : IntsAt w u x) (hT : T.length ≤ 32) (hx : x.length ≤ 60) (hr : RuleOk K R T) :
    Calls Tryd.prog 5 #[.agg #[.int .i64 K, .int .i64 R, .slice va vn vc], u] w (Ret1 (fun x _ => x = .bool true) w) := by
  have b0 := belowAlloc w (.cells #[.int .i64 K, .int .i64 R, .slice va vn vc] 24)
  have q : Box3 (w.alloc (.cells #[.int .i64 K, .int .i64 R, .slice va vn vc] 24)) w.heap.size (.int .i64 K) (.int .i64 R) (.slice va vn vc) := by simp [Box3, go_sem]
  have hl : T.length ≤ 256 := by omega
  have hk1 := hr.k1
  have hokW := wk_ok hr
  have hlW := wk_small hr hl
  have hRW := wk_pos R
  have hN81 := nodes_le hokW hRW hlW
  have hN1 := pw_pos (K := K) (2 * wkR R) hk1
  have lT := h.len
  have lx := hu.len
  have hd : decide ((32 : Int) < (T.length : Int)) = false := decide_eq_false (by omega)
  have hd2 : decide ((60 : Int) < (x.length : Int)) = false := decide_eq_false (by omega)
  obtain ⟨ua, un, uc, rfl⟩ := hu.shape
  have hgraph := fun (w' : World) (hgl : Glob r w') (hT : IntsAt w' (.slice va vn vc) T) => pgraph_ok r K R va vn vc T w' hgl hT hr hl
  have hapart := fun (w' : World) (hgl : Glob r w') (hT : IntsAt w' (.slice va vn vc) T) => papart_ok r K R va vn vc T w' hgl hT hr hl
  have hway := fun (w' : World) (hgl : Glob r w') (hT : IntsAt w' (.slice va vn vc) T) (hu : IntsAt w' (.slice ua un uc) x) => pway_ok r K R va vn vc T (.slice ua un uc) (.slice ua un uc) x x w' hgl hT hu hu hr hl
  have hwords := fun (v : Value) (ns : List Nat) (w' : World) (hgl : Glob r w') (hT : IntsAt w' (.slice va vn vc) T) => pwords_way r K R va vn vc T v ns w' hgl hT hr hl
  replace hgraph := Lib.hid hgraph
  replace hapart := Lib.hid hapart
  replace hway := Lib.hid hway
  replace hwords := Lib.hid hwords
  replace hg := Lib.hid (hg.below b0)
  replace h := Lib.hid (h.below b0)
  replace hu := Lib.hid (hu.below b0)
  replace hr := Lib.hid hr
  replace hokW := Lib.hid hokW
  go_enter Tryd.func5, Tryd.ntmps5
  go_wp2_with fail
  refine (awake13 r _ hg.out).mono ?_
  rintro e w1 ⟨_, rfl, b1, rfl⟩
  obtain ⟨⟨z0, z1, z2⟩, -, -, -⟩ := q.below b1
  go_wp2_with fail
  refine (hgraph.out w1 (hg.out.below b1) (h.out.below b1)).mono ?_
  rintro e w2 ⟨gv, y, rfl, b2, rfl, f, vals, hrows, hwn⟩
  have b12 := Below.step b1 b2
  clear z0 z1 z2
  obtain ⟨⟨z0, z1, z2⟩, -, -, -⟩ := q.below b12
  replace hrows := Lib.hid hrows
  replace hwn := Lib.hid hwn
  go_wp2_with fail
  refine (hapart.out w2 (hg.out.below b12) (h.out.below b12)).mono ?_
  rintro e w3 ⟨bv, y, rfl, b3, rfl, L1, hL1, ho1⟩
  have b13 := Below.step b12 b3
  clear z0 z1 z2
  obtain ⟨⟨z0, z1, z2⟩, -, -, -⟩ := q.below b13
  replace ho1 := Lib.hid ho1
  replace hL1 := Lib.hid hL1
  go_wp2_with fail
  refine (hapart.out w3 (hg.out.below b13) (h.out.below b13)).mono ?_
  rintro e w4 ⟨cv, y, rfl, b4, rfl, L2, hL2, ho2⟩
  have b14 := Below.step b13 b4
  clear z0 z1 z2
  obtain ⟨⟨z0, z1, z2⟩, -, -, -⟩ := q.below b14
  obtain ⟨M, hM⟩ : ∃ M, pw K (2 * wkR R) * pw K (2 * wkR R) = M := ⟨_, rfl⟩
  have hM6 : M ≤ 256 := by rw [← hM]; exact pk_nodes hr.out hT
  have hM1 : 1 ≤ M := by rw [← hM]; exact Nat.mul_le_mul hN1 hN1
  have hwn2 := hwn.out
  rw [hM] at hwn2
  obtain ⟨F, hF⟩ : ∃ F : Nat → List Int, F = fun p => castI (pairL K (pw K (2 * wkR R)) (wkT K R T) p) := ⟨_, rfl⟩
  rw [← hF] at hwn2
  have hFl : ∀ t, (F t).length ≤ 100 := fun t => by
    rw [hF]
    show (castI (pairL _ _ _ t)).length ≤ 100
    rw [castI_len]
    have := pairL_len K (pw K (2 * wkR R)) (wkT K R T) t
    have := Nat.mul_le_mul hr.out.k4 hr.out.k4
    omega
  have hl1 := live_short hL1.out
  have hl2 := live_short hL2
  rw [hM] at hl1 hl2
  have hX1l : (castI (L1.filter fun p => !decide (Diag (pw K (2 * wkR R)) p))).length ≤ 256 := by rw [castI_len]; exact Nat.le_trans (List.length_filter_le _ _) (by omega)
  have hX2l : (castI (L2.filter fun p => !decide (Diag (pw K (2 * wkR R)) p))).length ≤ 256 := by rw [castI_len]; exact Nat.le_trans (List.length_filter_le _ _) (by omega)
  generalize hX1 : castI (L1.filter fun p => !decide (Diag (pw K (2 * wkR R)) p)) = X1 at *
  generalize hX2 : castI (L2.filter fun p => !decide (Diag (pw K (2 * wkR R)) p)) = X2 at *
  have s12 := b2.size
  have s13 := Nat.le_trans s12 b3.size
  have s14 := Nat.le_trans s13 b4.size
  have R3 := hrows.out.add (i := (3, 0)) (r' := rowI bv X1) b3 (ho1.out.mono s12) (fun k hk => (ho1.out.lt k hk).1)
  have R4 := R3.add (i := (3, 1)) (r' := rowI cv X2) b4 (ho2.mono s13) (fun k hk => (ho2.lt k hk).1)
  have sB : ∃ a n c, bv = .slice a n c := ho1.out.at.shape
  have sC : ∃ a n c, cv = .slice a n c := ho2.at.shape
  obtain ⟨a1, n1, c1, rfl⟩ := sB
  obtain ⟨a2, n2, c2, rfl⟩ := sC
  obtain ⟨gp, gc, rfl⟩ := wn_some hwn2 hrows.out hM1
  have hvl := hwn2.len
  have hv1 := wn_one hwn2 hrows.out
  have bl := belowAlloc w4 (.cells #[.slice a1 n1 c1, .slice a2 n2 c2] 22)
  have hO5 : OwnV 22 w4.heap.size (w4.alloc (.cells #[.slice a1 n1 c1, .slice a2 n2 c2] 22)) (.slice (some ⟨w4.heap.size, 0, none⟩) 2 2) [.slice a1 n1 c1, .slice a2 n2 c2] :=
    World.ownsRow_lit (base := w4.heap.size) (e := 22) (size := 1) w4 #[.slice a1 n1 c1, .slice a2 n2 c2] 2 (Nat.le_refl _) (by decide) rfl
  have R5 := R4.add (i := (5, 0)) (r' := rowV 22 (.slice (some ⟨w4.heap.size, 0, none⟩) 2 2) [.slice a1 n1 c1, .slice a2 n2 c2]) bl (hO5.mono s14) (fun k hk => (hO5.lt k hk).1)
  obtain ⟨f5, hf5⟩ : ∃ f5, f5 = upd (upd (upd f (3, 0) (some (rowI (.slice a1 n1 c1) X1))) (3, 1) (some (rowI (.slice a2 n2 c2) X2))) (5, 0) (some (rowV 22 (.slice (some ⟨w4.heap.size, 0, none⟩) 2 2) [.slice a1 n1 c1, .slice a2 n2 c2])) := ⟨_, rfl⟩
  rw [← hf5] at R5
  have g50 : f5 (5, 0) = some (rowV 22 (.slice (some ⟨w4.heap.size, 0, none⟩) 2 2) [.slice a1 n1 c1, .slice a2 n2 c2]) := by rw [hf5, upd_same]
  have g30 : f5 (3, 0) = some (rowI (.slice a1 n1 c1) X1) := by rw [hf5, upd_ne _ _ (by simp), upd_ne _ _ (by simp), upd_same]
  have g31 : f5 (3, 1) = some (rowI (.slice a2 n2 c2) X2) := by rw [hf5, upd_ne _ _ (by simp), upd_same]
  have g10 : f5 (1, 0) = some (rowV 22 (.slice (some gp) vals.length gc) vals) := by rw [hf5, upd_ne _ _ (by simp), upd_ne _ _ (by simp), upd_ne _ _ (by simp)]; exact hwn2.outer
  have g2 : ∀ u, u < M → f5 (2, u) = some (rowI (vAt vals u) (F u)) := fun u hu => by rw [hf5, upd_ne _ _ (by simp), upd_ne _ _ (by simp), upd_ne _ _ (by simp)]; exact hwn2.rows u hu
  have hgv := (R5.ownV g10).at
  have hO5' := R5.ownV g50
  have hB5 : w1.heap.size ≤ (w4.alloc (.cells #[.slice a1 n1 c1, .slice a2 n2 c2] 22)).heap.size := Nat.le_trans s14 bl.size
  have hvl2 : ([.slice a1 n1 c1, .slice a2 n2 c2] : List Value).length + vals.length ≤ 1000000 := by rw [hvl]; simp; omega
  have hvl1 : 1 ≤ vals.length := by rw [hvl]; exact hM1
  have b15 := Below.step b14 bl
  replace R5 := Lib.hid R5
  replace hgv := Lib.hid hgv
  replace hO5' := Lib.hid hO5'
  replace hO5 := Lib.hid hO5
  replace g50 := Lib.hid g50
  replace g30 := Lib.hid g30
  replace g31 := Lib.hid g31
  replace g10 := Lib.hid g10
  replace g2 := Lib.hid g2
  replace hv1 := Lib.hid hv1
  replace hvl := Lib.hid hvl
  replace ho1 := Lib.hid ho1
  replace ho2 := Lib.hid ho2
  replace hFl := Lib.hid hFl
  replace hM := Lib.hid hM
  replace hX1l := Lib.hid hX1l
  replace hX2l := Lib.hid hX2l
  clear R3 R4 hf5 hwn hwn2 hL1 hL2 hX1 hX2 hF hl1 hl2
  go_wp2_with (at_builtin; refine wpl_appV oneLists rfl _ _ rfl w1.heap.size _ gp gc [.slice a1 n1 c1, .slice a2 n2 c2] vals hO5'.out hgv.out hv1.out rfl rfl hvl2 hvl1 hB5 ?_)
  intro av w6 ho6 b6 hal6
  have R6 : Rows w1.heap.size w6 (upd f5 (5, 0) (some (rowV 22 av ([.slice a1 n1 c1, .slice a2 n2 c2] ++ vals)))) := R5.out.appV g50.out ho6 (hal6.imp id fun ⟨k, a, b, c⟩ => ⟨k, a, by simpa using b, c⟩)
  obtain ⟨f6, hf6⟩ : ∃ f6, f6 = upd f5 (5, 0) (some (rowV 22 av ([.slice a1 n1 c1, .slice a2 n2 c2] ++ vals))) := ⟨_, rfl⟩
  rw [← hf6] at R6
  have k50 : f6 (5, 0) = some (rowV 22 av ([.slice a1 n1 c1, .slice a2 n2 c2] ++ vals)) := by rw [hf6, upd_same]
  have k30 : f6 (3, 0) = some (rowI (.slice a1 n1 c1) X1) := by rw [hf6, upd_ne _ _ (by simp)]; exact g30.out
  have k31 : f6 (3, 1) = some (rowI (.slice a2 n2 c2) X2) := by rw [hf6, upd_ne _ _ (by simp)]; exact g31.out
  have k2 : ∀ u, u < M → f6 (2, u) = some (rowI (vAt vals u) (F u)) := fun u hu => by rw [hf6, upd_ne _ _ (by simp)]; exact g2.out u hu
  have s16 : w1.heap.size ≤ w6.heap.size := Nat.le_trans hB5 b6.size
  have b16 := b15.trans (b6.mono b1.size)
  have b06 := Below.step b0 b16
  have hgv6 := (R6.ownV k50).at
  obtain ⟨aa, an, ac, rfl⟩ := ho6.shape
  clear z0 z1 z2
  obtain ⟨⟨z0, z1, z2⟩, -, -, -⟩ := q.below b16
  replace R6 := Lib.hid R6
  replace k50 := Lib.hid k50
  replace k30 := Lib.hid k30
  replace k31 := Lib.hid k31
  replace k2 := Lib.hid k2
  replace hgv6 := Lib.hid hgv6
  clear hal6 ho6 hf6 R5 hgv hO5' hO5 g50 g30 g31 g10 g2
  go_wp2_with fail
  refine (hway.out w6 (hg.out.below b16) (h.out.below b16) (hu.out.below b16)).mono ?_
  rintro e w7 ⟨wv, y, rfl, b7, hE, hbad, hok⟩
  have b17 := Below.step b16 b7
  clear z0 z1 z2
  obtain ⟨⟨z0, z1, z2⟩, -, -, -⟩ := q.below b17
  by_cases hwp : wayP K (wkR R) (wkT K R T) x x = Option.none
  · obtain ⟨hxs, -, hx4, -, hm, -⟩ := wayP_none hwp
    rw [hwp] at hE
    obtain rfl : y = .nilIface := hE
    have hwo := hok hwp
    clear hbad hok hwp
    obtain ⟨W, hW⟩ : ∃ W, W = wayW K (2 * wkR R) x x := ⟨_, rfl⟩
    rw [← hW] at hwo
    have hWl : W.length = x.length - 2 * wkR R + 1 := by rw [hW, wayW_len]
    have hne : W ≠ [] := by intro e; rw [e] at hWl; simp at hWl
    have hlow : ∀ p ∈ W, p < pw K (2 * wkR R) * pw K (2 * wkR R) := by rw [hW]; exact wayW_low hxs hxs rfl hm
    have hfit : AllFit K (pw K (2 * wkR R)) (wkT K R T) W := by rw [hW]; exact wayW_fit hk1 hRW hxs hxs rfl hm rfl
    have hback : alongW K (2 * wkR R) (· / pw K (2 * wkR R)) W = x ∧ alongW K (2 * wkR R) (· % pw K (2 * wkR R)) W = x := by rw [hW]; exact wayW_back hk1 hRW hxs hxs rfl hm
    have hnl : W.length ≤ 17592186044000 := by omega
    have hWc : (castI W).length ≤ 1099511627776 := by rw [castI_len]; omega
    have hxc : x.length ≤ 1099511627776 := by omega
    obtain ⟨a7, n7, c7, rfl⟩ := hwo.at.shape
    have R7 := R6.out.add (i := (4, 0)) (r' := rowI (.slice a7 n7 c7) (castI W)) b7 (hwo.mono s16) (fun k hk => (hwo.lt k hk).1)
    have s17 : w1.heap.size ≤ w7.heap.size := Nat.le_trans s16 b7.size
    clear hW hWl hxs hx4 hm
    replace hwo := Lib.hid hwo.at
    replace hne := Lib.hid hne
    replace hlow := Lib.hid hlow
    replace hfit := Lib.hid hfit
    replace hback := Lib.hid hback
    replace R7 := Lib.hid R7
    go_wp2_with fail
    refine (hwords.out (.slice a7 n7 c7) W w7 (hg.out.below b17) (h.out.below b17) hwo.out hne.out hlow.out hnl).mono ?_
    rintro e w8 ⟨pv, qv, y, rfl, b8, hp⟩
    unfold WordsPost at hp
    rcases hp with ⟨-, rfl, hop, hoq, hpq⟩ | ⟨hno, -⟩
    rotate_left
    · exact absurd hfit.out hno
    rw [hback.out.1] at hop
    rw [hback.out.2] at hoq
    have b18 := Below.step b17 b8
    have s18 : w1.heap.size ≤ w8.heap.size := Nat.le_trans s17 b8.size
    have R8 := R7.out.add2 (i := (4, 1)) (j := (4, 2)) (r' := rowI pv x) (s' := rowI qv x) b8 (hop.mono s17) (fun k hk => (hop.lt k hk).1) (hoq.mono s17) (fun k hk => (hoq.lt k hk).1) hpq (by simp)
    obtain ⟨f8, hf8⟩ : ∃ f8, f8 = upd (upd (upd f6 (4, 0) (some (rowI (.slice a7 n7 c7) (castI W)))) (4, 1) (some (rowI pv x))) (4, 2) (some (rowI qv x)) := ⟨_, rfl⟩
    rw [← hf8] at R8
    have m50 : f8 (5, 0) = some (rowV 22 (.slice aa an ac) ([.slice a1 n1 c1, .slice a2 n2 c2] ++ vals)) := by rw [hf8, upd_ne _ _ (by simp), upd_ne _ _ (by simp), upd_ne _ _ (by simp)]; exact k50.out
    have m30 : f8 (3, 0) = some (rowI (.slice a1 n1 c1) X1) := by rw [hf8, upd_ne _ _ (by simp), upd_ne _ _ (by simp), upd_ne _ _ (by simp)]; exact k30.out
    have m31 : f8 (3, 1) = some (rowI (.slice a2 n2 c2) X2) := by rw [hf8, upd_ne _ _ (by simp), upd_ne _ _ (by simp), upd_ne _ _ (by simp)]; exact k31.out
    have m2 : ∀ u, u < M → f8 (2, u) = some (rowI (vAt vals u) (F u)) := fun u hu => by rw [hf8, upd_ne _ _ (by simp), upd_ne _ _ (by simp), upd_ne _ _ (by simp)]; exact k2.out u hu
    have m40 : f8 (4, 0) = some (rowI (.slice a7 n7 c7) (castI W)) := by rw [hf8, upd_ne _ _ (by simp), upd_ne _ _ (by simp), upd_same]
    have m41 : f8 (4, 1) = some (rowI pv x) := by rw [hf8, upd_ne _ _ (by simp), upd_same]
    have m42 : f8 (4, 2) = some (rowI qv x) := by rw [hf8, upd_same]
    clear hf8 R7 R6 k50 k30 k31 k2 hpq hback hfit z0 z1 z2
    obtain ⟨a8, n8, c8, rfl⟩ := hop.at.shape
    obtain ⟨a9, n9, c9, rfl⟩ := hoq.at.shape
    replace R8 := Lib.hid R8
    replace m50 := Lib.hid m50
    replace m30 := Lib.hid m30
    replace m31 := Lib.hid m31
    replace m2 := Lib.hid m2
    replace m40 := Lib.hid m40
    replace m41 := Lib.hid m41
    replace m42 := Lib.hid m42
    replace hop := Lib.hid hop.at
    replace hoq := Lib.hid hoq.at
    go_wp2_with fail
    refine (ints_any _ _ x x w8 hop.out (hu.out.below b18)).mono ?_
    rintro e w9 h9
    obtain ⟨rfl, b9⟩ := h9.below
    clear h9
    rw [show decide (x = x) = true by simp]
    have b19 := Below.step b18 b9
    go_wp2_with fail
    refine (ints_any _ _ x x w9 (hoq.out.below b9) (hu.out.below b19)).mono ?_
    rintro e w10 h10
    obtain ⟨rfl, b10⟩ := h10.below
    clear h10
    rw [show decide (x = x) = true by simp]
    have b1A := Below.step b19 b10
    have b8A := Below.step b9 b10
    have bl2 := belowAlloc w10 (.cells #[.slice a7 n7 c7, .slice a8 n8 c8, .slice a9 n9 c9] 22)
    have R10 := (R8.out.below b8A).below bl2
    have hav := R10.ownV m50.out
    have hlit : OwnV 22 w10.heap.size (w10.alloc (.cells #[.slice a7 n7 c7, .slice a8 n8 c8, .slice a9 n9 c9] 22)) (.slice (some ⟨w10.heap.size, 0, none⟩) 3 3) [.slice a7 n7 c7, .slice a8 n8 c8, .slice a9 n9 c9] :=
      World.ownsRow_lit (base := w10.heap.size) (e := 22) (size := 1) w10 #[.slice a7 n7 c7, .slice a8 n8 c8, .slice a9 n9 c9] 3 (Nat.le_refl _) (by decide) rfl
    have hlv := hlit.at
    have hone : ∀ u ∈ ([.slice a7 n7 c7, .slice a8 n8 c8, .slice a9 n9 c9] : List Value), u.oneCell' = true := by
      intro u hu
      simp at hu
      rcases hu with rfl | rfl | rfl <;> rfl
    have hB10 : w1.heap.size ≤ (w10.alloc (.cells #[.slice a7 n7 c7, .slice a8 n8 c8, .slice a9 n9 c9] 22)).heap.size := Nat.le_trans s18 (Nat.le_trans b8A.size bl2.size)
    have hln2 : ([.slice a1 n1 c1, .slice a2 n2 c2] ++ vals : List Value).length + ([.slice a7 n7 c7, .slice a8 n8 c8, .slice a9 n9 c9] : List Value).length ≤ 1000000 := by simp [hvl.out]; omega
    have hb1B := Below.step b1A bl2
    replace R10 := Lib.hid R10
    replace hav := Lib.hid hav
    replace hlv := Lib.hid hlv
    replace hone := Lib.hid hone
    clear hlit R8 hwo hop hoq
    go_wp2_with (at_builtin; refine wpl_appV oneLists rfl _ _ rfl w1.heap.size (.slice aa an ac) ⟨w10.heap.size, 0, none⟩ 3 ([.slice a1 n1 c1, .slice a2 n2 c2] ++ vals) [.slice a7 n7 c7, .slice a8 n8 c8, .slice a9 n9 c9] hav.out hlv.out hone.out rfl rfl hln2 (by simp) hB10 ?_)
    intro av2 w11 ho11 b11 hal11
    have R11 : Rows w1.heap.size w11 (upd f8 (5, 0) (some (rowV 22 av2 (([.slice a1 n1 c1, .slice a2 n2 c2] ++ vals) ++ [.slice a7 n7 c7, .slice a8 n8 c8, .slice a9 n9 c9])))) := R10.out.appV m50.out ho11 (hal11.imp id fun ⟨k, a, b, c⟩ => ⟨k, a, by simpa using b, c⟩)
    obtain ⟨ab, an2, ac2, rfl⟩ := ho11.shape
    have b1C := hb1B.trans (b11.mono b1.size)
    have hnm := pk_names (f := upd f8 (5, 0) (some (rowV 22 (.slice ab an2 ac2) (([.slice a1 n1 c1, .slice a2 n2 c2] ++ vals) ++ [.slice a7 n7 c7, .slice a8 n8 c8, .slice a9 n9 c9])))) (Y := fun t => if t = 0 then castI W else x) hvl.out (by rw [upd_ne _ _ (by simp)]; exact m30.out) (by rw [upd_ne _ _ (by simp)]; exact m31.out) (fun u hu => by rw [upd_ne _ _ (by simp)]; exact m2.out u hu) (more := [.slice a7 n7 c7, .slice a8 n8 c8, .slice a9 n9 c9]) (fun t ht => by
      rw [upd_ne _ _ (by simp)]
      have : t = 0 ∨ t = 1 ∨ t = 2 := by simp at ht; omega
      rcases this with rfl | rfl | rfl
      · exact m40.out
      · exact m41.out
      · exact m42.out)
    have hap := apart_rows (5, 0) (nmPK M) _ R11 (by rw [upd_same]) (fun t ht => ⟨hnm t ht, nmPK_top M t⟩) (fun s t _ _ hne e => hne (nmPK_inj e)) (by simp [hvl.out]; omega) (pk_short (Y := fun t => if t = 0 then castI W else x) hX1l.out hX2l.out hFl.out (fun t => by split <;> assumption)) (Nat.le_trans hB10 b11.size)
    replace hap := Lib.hid hap
    clear hnm R11 hal11 ho11 R10 hav hlv hone m50 m30 m31 m2 m40 m41 m42
    go_wp2_with fail
    refine hap.out.mono ?_
    rintro e w12 ⟨rfl, b12'⟩
    go_wp2
    go_ret
    exact ⟨_, rfl, Below.step b0 (b1C.trans (b12'.mono b1.size)), rfl⟩
  · obtain ⟨t0, ht0⟩ : ∃ t0, wayP K (wkR R) (wkT K R T) x x = some t0 := by
      cases hw : wayP K (wkR R) (wkT K R T) x x with
      | none => exact absurd hw hwp
      | some t0 => exact ⟨t0, rfl⟩
    rw [ht0] at hE
    obtain ⟨T2, a2', rfl⟩ := ErrIs.some_shape hE
    obtain rfl := hbad hwp
    have R7 := R6.out.below b7
    have hnm := pk_names (f := f6) (Y := fun _ => []) hvl.out k30.out k31.out k2.out (more := []) (fun t ht => by simp at ht)
    rw [List.append_nil] at hnm
    have hap := apart_rows (5, 0) (nmPK M) _ R7 k50.out (fun t ht => ⟨hnm t ht, nmPK_top M t⟩) (fun s t _ _ hne e => hne (nmPK_inj e)) (by simp [hvl.out]; omega) (pk_short (Y := fun _ => []) hX1l.out hX2l.out hFl.out (fun t => by simp)) (Nat.le_trans s16 b7.size)
    replace hap := Lib.hid hap
    clear hnm R7 R6 k50 k30 k31 k2 hE hbad hok hwp ht0
    go_wp2_with fail
    refine hap.out.mono ?_
    rintro e w12 ⟨rfl, b12'⟩
    go_wp2
    go_ret
    exact ⟨_, rfl, Below.step b0 (b17.trans (b12'.mono b1.size)), rfl⟩

theorem pairsKeeps_any (r : Nat → Addr) (k R : Int) (v : Value) (T : List Int) (u : Value) (x : List Int) (w : World) (hg : Glob r w) (h : IntsAt w v T) (hu : IntsAt w u x) :
    Calls Tryd.prog 5 #[.agg #[.int .i64 k, .int .i64 R, v], u] w (Ret1 (fun x _ => x = .bool true) w) := by
  obtain ⟨va, vn, vc, rfl⟩ := h.shape
  by_cases hl : 32 < T.length ∨ 60 < x.length
  · exact pairsKeeps_long r k R va vn vc T u x w hg h hu hl
  cases hc : smallP k R T with
  | some t => exact pairsKeeps_bad r k R va vn vc T u x t w hg h hu (by omega) (by omega) hc
  | none =>
    obtain ⟨hck, _⟩ := smallP_none hc
    obtain ⟨K, Q, rfl, rfl, hr⟩ := checkP_none hck
    exact pairsKeeps_ok r K Q va vn vc T u x w hg h hu (by omega) (by omega) hr
end Go.Proofs.YthnkdiejmclmkaaDoor

namespace Go.Proofs.YthnkdiejmclmkaaDoor
open Go.ChangeShapes Go.WideShapes Go.ChangeAt Go.RowKit Go.Joins
set_option maxRecDepth 100000

theorem own : ownKnob Tryd.prog.godebug = none := by kernel_rfl
theorem laidOut : laidOutB Tryd.prog = true := by kernel_rfl
theorem cellsInt : Tryd.prog.cellsOf 3 = 1 := by kernel_rfl
theorem uInt : Tryd.prog.underlying 3 = some (.int .i64) := by kernel_rfl
theorem bytesInt : Tryd.prog.bytesOf 3 = 8 := by kernel_rfl

theorem i64_of_wf {n : Int} (h : (Lit.int .i64 n).wf = true) : I64 n := by
  have := bounds_i64 h
  unfold I64
  omega

/-- A []int that came in. -/
theorem open_intsV {H : Type} {enc : TypeId × Value → H} {W : World} {held : Bool} {fuel : Nat} {v : Value} {y : DataW H × List MemPlace}
    (h : DataW.trod enc Tryd.prog W 0 (fun _ => true) held fuel 22 [v] = some y) (hw : ∀ n ∈ y.1.weights Tryd.prog 22, n ≤ reachBytes) :
    ∃ xs, IntsAt W v xs ∧ xs.length ≤ 17592186043904 ∧ ∀ x ∈ xs, I64 x := by
  rcases open_ints uInts uInt cellsInt h with ⟨hcs, _⟩ | ⟨a, len, cap, zs, hcs, _, hl, hm, hz, hx, hcell, hwz⟩
  · simp at hcs
    subst hcs
    exact ⟨[], (OwnI.nil 0 W).at, by simp, by simp⟩
  · simp at hcs
    subst hcs
    simp only [if_true] at hz
    have hzl : (zs.take len).length = len := by simp; omega
    refine ⟨zs.take len, ⟨some a, cap, by rw [hzl], by rw [hzl]; exact hl, hm, (fun e => by cases e), fun i hi => ?_⟩, ?_, fun x hx => i64_of_wf (hwz x (List.mem_of_mem_take hx))⟩
    · have hi' : i < zs.length := by rw [hzl] at hi; omega
      show W.cell? (a.add i) = _
      rw [hcell i hi']
      simp [List.getD, hi']
    · rw [hx] at hw
      have := hw ((lits (H := H) .i64 (zs.take len)).length * 8 + (lits (H := H) .i64 (zs.drop len)).length * 8) (by
        simp only [DataW.weights, uInts, bytesInt, List.mem_cons]
        left; omega)
      simp only [lits, List.length_map, reachBytes] at this
      omega

theorem open_intsT {H : Type} {enc : TypeId × Value → H} {W : World} {held : Bool} {v : Value} {d : DataW H} {p : List MemPlace} {b0 : Nat}
    (hv : Value.okWide Tryd.prog W .any b0 22 v) (h : DataW.Trod enc Tryd.prog W 0 (fun _ => true) held 22 v d p) (hw : ∀ n ∈ d.weights Tryd.prog 22, n ≤ reachBytes) :
    ∃ xs, IntsAt W v xs ∧ xs.length ≤ 17592186043904 ∧ ∀ x ∈ xs, I64 x := by
  obtain ⟨a, l, c, rfl⟩ := okWide_slice uInts hv
  obtain ⟨fuel, hf⟩ := h
  exact open_intsV (y := (d, p)) (by simpa [Value.cells] using hf) hw

theorem weights_each3 {H : Type} {t0 t1 t2 : TypeId} {y0 y1 y2 : DataW H} {n : Nat} (h : n ∈ y2.weights Tryd.prog t2) : n ∈ DataW.weightsEach Tryd.prog [t0, t1, t2] [y0, y1, y2] := by
  simp only [DataW.weightsEach, List.mem_append]
  exact .inr (.inr (.inl h))

/-- A rule that came in. -/
theorem open_ruleV {H : Type} {enc : TypeId × Value → H} {W : World} {held : Bool} {v : Value} {d : DataW H} {p : List MemPlace} {b0 : Nat}
    (hv : Value.okWide Tryd.prog W .any b0 24 v) (h : DataW.Trod enc Tryd.prog W 0 (fun _ => true) held 24 v d p) (hw : ∀ n ∈ d.weights Tryd.prog 24, n ≤ reachBytes) :
    ∃ (k R : Int) (u : Value) (xs : List Int), v = .agg #[.int .i64 k, .int .i64 R, u] ∧ IntsAt W u xs ∧ xs.length ≤ 17592186043904 ∧ (∀ x ∈ xs, I64 x) ∧ I64 k ∧ I64 R := by
  obtain ⟨v0, v1, v2, y0, y1, y2, n, rfl, rfl, rfl, h0, h1, h2⟩ := open_agg3 Tryd.underlying24 (by kernel_rfl) (by kernel_rfl) hv h
  obtain ⟨a, e0, _, wa⟩ := DataW.trod_int uInt h0
  obtain ⟨b, e1, _, wb⟩ := DataW.trod_int uInt h1
  simp at e0 e1
  subst e0 e1
  obtain ⟨xs, hx, hl, hb⟩ := open_intsV h2 fun n hn => hw n (by
    simp only [DataW.weights, Tryd.underlying24]
    exact weights_each3 (t0 := 3) (t1 := 3) (t2 := 22) hn)
  exact ⟨a, b, v2, xs, rfl, hx, hl, hb, i64_of_wf wa, i64_of_wf wb⟩

/-! The package-level errors. -/
theorem star : "*" ++ "errors.errorString" = "*errors.errorString" := by decide
theorem rowES (u : TypeId) (h : Tryd.prog.typeName? 3 u = some "*errors.errorString") : u = 168 :=
  typeName_ptr_named (nm := "errors.errorString") (by rw [star]; kernel_rfl) (by kernel_rfl) (by decide) u (by rw [star]; exact h)
theorem pES : Tryd.prog.underlying 168 = some (.pointer 185) := by kernel_rfl
theorem cES : Tryd.prog.cellsOf 185 = 1 := by kernel_rfl
theorem cStr : Tryd.prog.cellsOf 9 = 1 := by kernel_rfl

def laid12 : List (String × DataW Unit) := [("eden/api.BadRule", Rows.laid_eden_api_BadRule), ("eden/api.BadWord", Rows.laid_eden_api_BadWord), ("eden/api.BadArg", Rows.laid_eden_api_BadArg), ("eden/api.TooBig", Rows.laid_eden_api_TooBig), ("eden/api.NoBudget", Rows.laid_eden_api_NoBudget), ("eden/api.BadText", Rows.laid_eden_api_BadText), ("eden/api.BadPatch", Rows.laid_eden_api_BadPatch), ("eden/api.BadCert", Rows.laid_eden_api_BadCert), ("eden/api.NoInverse", Rows.laid_eden_api_NoInverse), ("eden/api.BadLine", Rows.laid_eden_api_BadLine), ("eden/api.BadState", Rows.laid_eden_api_BadState), ("eden/api.Unknown", Rows.laid_eden_api_Unknown)]

theorem sentinel {n : String} {text : List UInt8} {r : List (String × DataW Unit)} {W : World} {g : Nat}
    (h : laidMet Tryd.prog ((n, .iface "*errors.errorString" (.ptr (.agg [.lit (.string text)]))) :: r) W)
    (hg : Tryd.prog.globalNamed n = some g) (ht : (Tryd.prog.globals[g]?).map (·.type) = some 27) :
    (∃ a : Addr, W.cell? ⟨g, 0, none⟩ = some (.iface 168 (.pointer (some a))) ∧ ∃ s, W.cell? a = some (.string s) ∧ s.data.toList = text) ∧ laidMet Tryd.prog r W := by
  refine ⟨?_, h.tail⟩
  obtain ⟨a, s, hv, hc, hs, _⟩ := laid_sentinel h hg ht Tryd.underlying27 rowES pES Tryd.underlying185 rfl rfl Tryd.underlying9 cES cStr
  exact ⟨a, by simpa using World.var?_cell hg hv 0, s, hc, hs⟩

def txt : Nat → List UInt8
  | 1 => [98, 97, 100, 32, 114, 117, 108, 101]
  | 2 => [98, 97, 100, 32, 119, 111, 114, 100]
  | 3 => [98, 97, 100, 32, 97, 114, 103, 117, 109, 101, 110, 116]
  | 4 => [116, 111, 111, 32, 98, 105, 103]
  | 5 => [110, 111, 32, 98, 117, 100, 103, 101, 116]
  | 6 => [98, 97, 100, 32, 116, 101, 120, 116]
  | 7 => [98, 97, 100, 32, 112, 97, 116, 99, 104]
  | 8 => [98, 97, 100, 32, 99, 101, 114, 116, 105, 102, 105, 99, 97, 116, 101]
  | 9 => [110, 111, 32, 105, 110, 118, 101, 114, 115, 101]
  | 10 => [98, 97, 100, 32, 108, 105, 110, 101]
  | 11 => [98, 97, 100, 32, 115, 116, 97, 116, 101]
  | 99 => [117, 110, 107, 110, 111, 119, 110]
  | _ => []
theorem txt_apart : ∀ m n : Fin 12, 1 ≤ m.val → 1 ≤ n.val → txt m.val = txt n.val → m = n := by decide

theorem glob_of_laid {W : World} (h : laidMet Tryd.prog laid12 W) : ∃ r, Glob r W := by
  obtain ⟨⟨a1, c1, s1, e1, t1⟩, h⟩ := sentinel (text := txt 1) h (g := 0) (by kernel_rfl) (by kernel_rfl)
  obtain ⟨⟨a2, c2, s2, e2, t2⟩, h⟩ := sentinel (text := txt 2) h (g := 1) (by kernel_rfl) (by kernel_rfl)
  obtain ⟨⟨a3, c3, s3, e3, t3⟩, h⟩ := sentinel (text := txt 3) h (g := 2) (by kernel_rfl) (by kernel_rfl)
  obtain ⟨⟨a4, c4, s4, e4, t4⟩, h⟩ := sentinel (text := txt 4) h (g := 3) (by kernel_rfl) (by kernel_rfl)
  obtain ⟨⟨a5, c5, s5, e5, t5⟩, h⟩ := sentinel (text := txt 5) h (g := 4) (by kernel_rfl) (by kernel_rfl)
  obtain ⟨⟨a6, c6, s6, e6, t6⟩, h⟩ := sentinel (text := txt 6) h (g := 5) (by kernel_rfl) (by kernel_rfl)
  obtain ⟨⟨a7, c7, s7, e7, t7⟩, h⟩ := sentinel (text := txt 7) h (g := 6) (by kernel_rfl) (by kernel_rfl)
  obtain ⟨⟨a8, c8, s8, e8, t8⟩, h⟩ := sentinel (text := txt 8) h (g := 7) (by kernel_rfl) (by kernel_rfl)
  obtain ⟨⟨a9, c9, s9, e9, t9⟩, h⟩ := sentinel (text := txt 9) h (g := 8) (by kernel_rfl) (by kernel_rfl)
  obtain ⟨⟨a10, c10, s10, e10, t10⟩, h⟩ := sentinel (text := txt 10) h (g := 9) (by kernel_rfl) (by kernel_rfl)
  obtain ⟨⟨a11, c11, s11, e11, t11⟩, h⟩ := sentinel (text := txt 11) h (g := 10) (by kernel_rfl) (by kernel_rfl)
  obtain ⟨⟨a99, c99, s99, e99, t99⟩, h⟩ := sentinel (text := txt 99) h (g := 11) (by kernel_rfl) (by kernel_rfl)
  clear h
  have key : ∀ n : Nat, (1 ≤ n ∧ n ≤ 11) ∨ n = 99 → ∃ s, W.cell? ((fun n : Nat => match n with | 1 => a1 | 2 => a2 | 3 => a3 | 4 => a4 | 5 => a5 | 6 => a6 | 7 => a7 | 8 => a8 | 9 => a9 | 10 => a10 | 11 => a11 | _ => a99) n) = some (.string s) ∧ s.data.toList = txt n := by
    intro n hn
    have : n = 1 ∨ n = 2 ∨ n = 3 ∨ n = 4 ∨ n = 5 ∨ n = 6 ∨ n = 7 ∨ n = 8 ∨ n = 9 ∨ n = 10 ∨ n = 11 ∨ n = 99 := by omega
    rcases this with rfl | rfl | rfl | rfl | rfl | rfl | rfl | rfl | rfl | rfl | rfl | rfl
    · exact ⟨s1, e1, t1⟩
    · exact ⟨s2, e2, t2⟩
    · exact ⟨s3, e3, t3⟩
    · exact ⟨s4, e4, t4⟩
    · exact ⟨s5, e5, t5⟩
    · exact ⟨s6, e6, t6⟩
    · exact ⟨s7, e7, t7⟩
    · exact ⟨s8, e8, t8⟩
    · exact ⟨s9, e9, t9⟩
    · exact ⟨s10, e10, t10⟩
    · exact ⟨s11, e11, t11⟩
    · exact ⟨s99, e99, t99⟩
  refine ⟨(fun n : Nat => match n with | 1 => a1 | 2 => a2 | 3 => a3 | 4 => a4 | 5 => a5 | 6 => a6 | 7 => a7 | 8 => a8 | 9 => a9 | 10 => a10 | 11 => a11 | _ => a99), c1, c2, c3, c4, c5, c6, c7, c8, c9, c10, c11, c99, (fun n hn => ?_), fun m n hm1 hm2 hn1 hn2 he => ?_⟩
  · obtain ⟨s, hs, _⟩ := key n hn
    exact ⟨s, hs⟩
  · obtain ⟨s, hs, ts⟩ := key m.toNat (by omega)
    obtain ⟨s', hs', ts'⟩ := key n.toNat (by omega)
    have hss : s = s' := by
      have := hs.symm.trans ((congrArg W.cell? he).trans hs')
      simpa using this
    subst hss
    have := txt_apart ⟨m.toNat, by omega⟩ ⟨n.toNat, by omega⟩ (by simp; omega) (by simp; omega) (ts.symm.trans ts')
    have := congrArg Fin.val this
    simp at this
    omega
end Go.Proofs.YthnkdiejmclmkaaDoor

namespace Go.Proofs.YthnkdiejmclmkaaDoor
open Go.ChangeShapes Go.WideShapes Go.ChangeAt Go.RowKit Go.Joins
namespace PairsKeepsP

set_option maxRecDepth 100000 in
theorem door_met (os : Os) (args : Array Value) : laidMetH Tryd.prog Rows.pairsKeepsRow.laid ((World.doorLaid Tryd.prog 400 os).forCall (fun _ _ => 0) ⟨#[], args, []⟩).memory :=
  laidMetH_of_parts3 (fuel := 8) (laidMet_of_run' 8 (by kernel_rfl) (by kernel_rfl)) (by kernel_rfl) (by kernel_rfl)

set_option maxRecDepth 100000 in
theorem lifted (os : Os) (started : os.Started) (H : Type) (enc : TypeId × Value → H) :
    ReturnsInHanded {} Tryd.checked os 5 .any (fun w args => (Rows.pairsKeepsSpec.pre enc Tryd.prog Tryd.f5 [] false w args ∧ laidMetH Tryd.prog Rows.pairsKeepsRow.laid w) ∧ sizedMet enc Tryd.prog Tryd.f5 (OpenSpec.ofChange Rows.pairsKeepsSpec) false w args)
      (Rows.pairsKeepsSpec.post enc Tryd.prog Tryd.f5 false true false false) := by
  refine returnsInHanded_of_change_and (C := Tryd.checked) (X := fun w _ => laidMetH Tryd.prog Rows.pairsKeepsRow.laid w) (fun _ _ _ hh h => h.of_heap hh) own started (by kernel_rfl) Tryd.func5
    (ChangeSpec.witness_shaped (enc := enc) (C := Tryd.checked) (os := os) (X := fun w _ => laidMetH Tryd.prog Rows.pairsKeepsRow.laid w) false (World.doorLaid Tryd.prog 400 os) #[.agg #[.int .i64 0, .int .i64 0, .slice none 0 0], .slice none 0 0] 8 rfl (World.shaped_of_RefB (by kernel_rfl) (by kernel_rfl)) (by kernel_rfl) (by kernel_rfl) (by kernel_rfl) (door_met os _)) ?_
  intro W base args ds gs before hval0 hW _ hsz hL _
  have hval : ∀ (j : Nat) t v, Tryd.f5.params[j]? = some t → args[j]? = some v → Value.okWide Tryd.prog W .any base t v := hval0
  have hW' := hW
  obtain ⟨p, q, hA0, hV, rfl, hfz, hnd⟩ := hW
  have hA : DataW.TrodAll enc Tryd.prog W 0 (fun _ => true) true Tryd.f5.params.toList args.toList ds p := hA0
  rw [Tryd.params5] at hA hval hsz
  obtain ⟨v0, vs0, d0, ds0, p0, q0, hargs, rfl, rfl, g0, t0⟩ := trodAll_cons hA
  obtain ⟨v1, vs1, d1, ds1, p1, q1, rfl, rfl, rfl, g1, t1⟩ := trodAll_cons t0
  obtain ⟨rfl, rfl, rfl⟩ := trodAll_nil t1
  obtain rfl : args = #[v0, v1] := by cases args; simp_all
  obtain ⟨rfl, rfl⟩ := trodVars_none hV
  have kk0 := g0
  have lt0 : ∀ x ∈ p0, x.block < W.heap.size := by obtain ⟨m, hm⟩ := kk0; exact DataW.trod_lt m _ _ _ hm
  obtain ⟨kr0, rr0, u0, x0, rfl, h0, l0, b0, bk0, br0⟩ := open_ruleV (hval 0 24 v0 rfl rfl) g0 (fun n hn => by
    have := List.all_eq_true.1 hsz n (DataW.weights_mem_each (j := 0) (t := 24) rfl rfl n hn)
    simpa using this)
  have kk1 := g1
  have lt1 : ∀ x ∈ p1, x.block < W.heap.size := by obtain ⟨m, hm⟩ := kk1; exact DataW.trod_lt m _ _ _ hm
  obtain ⟨x1, h1, l1, b1⟩ := open_intsT (hval 1 22 v1 rfl rfl) g1 (fun n hn => by
    have := List.all_eq_true.1 hsz n (DataW.weights_mem_each (j := 1) (t := 22) rfl rfl n hn)
    simpa using this)
  obtain ⟨r, hg⟩ := glob_of_laid (W := W) (by
    rw [MakeChecks.laidMetH_plain _ _ _ (by kernel_rfl)] at hL
    exact hL)
  clear hA0 hval0
  refine ((pairsKeeps_any r kr0 rr0 u0 x0 v1 x1 W hg h0 h1)).mono fun e W' ⟨x, he, bel, hxx⟩ => ?_
  subst he; subst hxx
  exact ⟨_, rfl, _, _, _, [], _, [], hW', trodAll_mk1 (shut_bool Tryd.underlying4 _), (trodAll_cons_mk (Below.trod laidOut (by kernel_rfl) (of_decide_eq_true (by kernel_rfl)) kk0 bel lt0) (trodAll_cons_mk (Below.trod laidOut (by kernel_rfl) (of_decide_eq_true (by kernel_rfl)) kk1 bel lt1) trodAll_mk0)), rfl, bel.frame _, fun h => by cases h⟩

theorem over : Rows.PairsKeepsSaid :=
  OpenClaim.holds_of_wide 5 Tryd.f5 rfl rfl rfl rfl rfl rfl rfl ⟨rfl, rfl, rfl, rfl, rfl⟩ rfl rfl rfl rfl rfl (by kernel_rfl) Tryd.func5 (by kernel_rfl)
    (of_decide_eq_true (by kernel_rfl)) (by unfold Func.isWrapper; first | (rw [if_pos (by decide +kernel)]; kernel_rfl) | (rw [if_neg (by decide +kernel)]; exact ⟨rfl, rfl⟩))
    (fun os started H enc _ => lifted os started H enc)

/-- The tied card. -/
theorem card_holds : Rows.PairsKeepsCardSaid :=
  Claim7.holds_tied_plain_at .later [] [.sentinel, .sentinel, .sentinel, .sentinel, .sentinel, .sentinel, .sentinel, .sentinel, .sentinel, .sentinel, .sentinel, .sentinel] true _ _
    over (fun _ h => by cases h) (by kernel_rfl) (fun _ h => by cases h) pairsKeeps_row_tie rfl ⟨rfl, rfl⟩ (by kernel_rfl) rfl
    (fun f fn hf hfn => by
      obtain rfl : f = 5 := Option.some.inj ((show Tryd.prog.funcNamed Rows.pairsKeepsRow.func = some 5 by kernel_rfl).symm.trans hf) |>.symm
      obtain rfl : fn = Tryd.f5 := (Option.some.inj (Tryd.func5.symm.trans hfn)).symm
      exact ⟨by kernel_rfl, fun j t ht => by
        rw [Tryd.params5] at ht
        have hm : t ∈ [24, 22] := by simpa using Array.mem_of_getElem? ht
        have hall : ([24, 22].all fun u => !Tryd.prog.wantsStandIn u) = true := by kernel_rfl
        exact (show Tryd.prog.wantsStandIn t = false by simpa using List.all_eq_true.1 hall t hm)⟩)
    (by kernel_rfl)
end PairsKeepsP
#print axioms PairsKeepsP.card_holds
end Go.Proofs.YthnkdiejmclmkaaDoor
