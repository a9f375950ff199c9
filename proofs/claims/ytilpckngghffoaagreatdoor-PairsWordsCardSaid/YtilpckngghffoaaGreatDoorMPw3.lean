/-
  Walks: edenref04.Small, Image, edenref08.Fault.
  Plain mathematics of layer 15: twins, and the ways from a pair of equal nodes through pairs that are apart to a pair of equal nodes.
  Plain mathematics: a rule with a greater radius.
  Walks: forms.widened, forms.Widen and the function that they hand to forms.made.
  Walks: overlap.Nodes, overlap.Edge at a small rule.
  Walks: forms.Widen at a rule, pairs.working.
  Plain mathematics: the least radius of a rule.
  Walks: edenref05.wide, Widen at a rule, edenref13.Working, edenref08.Count.
  Several rows of memory of one's own, under names, no two in one block: what a store, an append, a new row does to them.
  The memory of graph's search under names: its box, the marks, the two stacks; what a store, an append, a shorter stack does to it.
-/
import Derived.Test.YtilpckngghffoaaGreatDoorMPw2
import Derived.Deep.DeepCutAuto
import Derived.BigQuiet
import Derived.Deep.QuietTactic
namespace Go.Proofs.YtilpckngghffoaaGreatDoor
open Go.RowKit
set_option maxRecDepth 100000

theorem err_box8 (w1 : World) (x0 x1 x2 : Value) :
    Below w1.heap.size w1 (w1.alloc (.cells #[x0, x1, x2] 33)) ∧ Box3 (w1.alloc (.cells #[x0, x1, x2] 33)) w1.heap.size x0 x1 x2 := by
  obtain ⟨y0, y1, y2, f⟩ := cells3 (Below.refl (w1.alloc (.cells #[x0, x1, x2] 33)).heap.size (w1.alloc (.cells #[x0, x1, x2] 33)))
  exact ⟨belowAlloc w1 _, ⟨y0, y1, y2⟩, f⟩
theorem smallP_num {k R : Int} {T : List Int} {n : Int} {l : List (ByteArray × Int)} (h : smallP k R T = some (n, l)) : 1 ≤ n ∧ n ≤ 11 ∧ l.length = 1 := by
  unfold smallP at h
  cases hc : checkP k R T with
  | some t =>
    rw [hc] at h
    injection h with h
    subst h
    have := checkP_num hc
    simp only at this
    omega
  | none =>
    rw [hc] at h
    dsimp only at h
    split at h
    · injection h with h
      injection h with h1 h2
      subst h1; subst h2
      simp
    · cases h

set_option maxHeartbeats 2000000 in
theorem ref_small (k R : Int) (va : Option Addr) (vn vc : Nat) (T : List Int) (w : World) (h : IntsAt w (.slice va vn vc) T) :
    Calls Tryz.prog 93 #[.agg #[.int .i64 k, .int .i64 R, .slice va vn vc]] w (Ret1 (fun x w' => EOwn w.heap.size w' (smallP k R T) x) w) := by
  have b0 := Below.step (belowAlloc w (.cells #[.int .i64 k, .int .i64 R, .slice va vn vc] 24)) (belowAlloc _ (.cells #[.int .i64 0, .slice none 0 0, .slice none 0 0] 33))
  have q : Box3 ((w.alloc (.cells #[.int .i64 k, .int .i64 R, .slice va vn vc] 24)).alloc (.cells #[.int .i64 0, .slice none 0 0, .slice none 0 0] 33)) w.heap.size (.int .i64 k) (.int .i64 R) (.slice va vn vc) := by simp [Box3, go_sem]
  have q4 : Box3 ((w.alloc (.cells #[.int .i64 k, .int .i64 R, .slice va vn vc] 24)).alloc (.cells #[.int .i64 0, .slice none 0 0, .slice none 0 0] 33)) (w.heap.size + 1) (.int .i64 0) (.slice none 0 0) (.slice none 0 0) := by simp [Box3, go_sem]
  have lT := h.len
  have s0 : ((w.alloc (.cells #[.int .i64 k, .int .i64 R, .slice va vn vc] 24)).alloc (.cells #[.int .i64 0, .slice none 0 0, .slice none 0 0] 33)).heap.size = w.heap.size + 2 := by simp
  replace h := Lib.hid (h.below b0)
  obtain ⟨e0, hsm, he0⟩ : ∃ e0, (smallP k R T = match e0 with | some t => some t | none => if 256 < T.length then fresh sRule 0 4 else none) ∧ checkP k R T = e0 := ⟨_, rfl, rfl⟩
  replace he0 := Lib.hid he0
  replace s0 := Lib.hid s0
  go_enter Tryz.func93, Tryz.ntmps93
  go_wp2_with fail
  refine (ref_check k R va vn vc T _ h.out).mono ?_
  rintro e w1 ⟨x, rfl, b1, he⟩
  rw [he0.out] at he
  obtain ⟨qn, a1, n1, c1, a2, n2, c2, rfl⟩ := he.shape
  obtain ⟨be, bx⟩ := err_box8 w1 (.int .i64 qn) (.slice a1 n1 c1) (.slice a2 n2 c2)
  have c1e := Below.step b1 be
  have q' := q.below c1e
  have q4' := q4.below c1e
  have heb := he.below be
  have s1 := b1.size
  rw [s0.out] at s1
  obtain ⟨W2, hW2⟩ : ∃ W2 : World, w1.alloc (.cells #[.int .i64 qn, .slice a1 n1 c1, .slice a2 n2 c2] 33) = W2 := ⟨_, rfl⟩
  have s2 : w1.heap.size < W2.heap.size := by rw [← hW2]; simp
  have b02 := Below.step b0 c1e
  rw [hW2] at be bx c1e q' q4' heb b02
  replace hW2 := Lib.hid hW2
  obtain ⟨⟨y0, y1, y2⟩, -, -, -⟩ := bx
  have hq : (qn != 0) = e0.isSome := by
    cases e0 with
    | none =>
      have : Value.agg #[.int .i64 qn, .slice a1 n1 c1, .slice a2 n2 c2] = .agg #[.int .i64 0, .slice none 0 0, .slice none 0 0] := he
      injection this with this
      injection this with this
      injection this with h1 h2
      injection h1 with _ h1
      rw [h1]; rfl
    | some t =>
      obtain ⟨n, l⟩ := t
      obtain ⟨_, _, _, _, _, _, e, _⟩ := he
      injection e with e
      injection e with e
      injection e with h1 h2
      injection h1 with _ h1
      have := checkP_num he0.out
      simp only at this
      rw [h1, this.1]; rfl
  replace he := Lib.hid he
  replace heb := Lib.hid heb
  go_upto_region 2 with fail
  rw [hW2.out]
  go_wp2_with fail
  refine (err_bad _ _ _ _ _ _ _ W2).mono ?_
  rintro e w3 ⟨_, rfl, b3, rfl⟩
  rw [hq]
  replace hq := Lib.hid hq
  have hey := heb.out.below b3
  have bxx : Box3 W2 w1.heap.size (.int .i64 qn) (.slice a1 n1 c1) (.slice a2 n2 c2) → True := fun _ => trivial
  clear bxx
  have y0' := (b3.cell (World.block_lt_of_cell? _ _ y0)).trans y0
  have y1' := (b3.cell (World.block_lt_of_cell? _ _ y1)).trans y1
  have y2' := (b3.cell (World.block_lt_of_cell? _ _ y2)).trans y2
  obtain ⟨⟨z0, z1, z2⟩, -, -, -⟩ := q'.below b3
  obtain ⟨⟨u0, u1, u2⟩, f0, f1, f2⟩ := q4'.below b3
  have b03 := Below.step b02 b3
  clear y0 y1 y2
  cases e0 with
  | some t =>
    simp only [] at hsm
    replace hsm := Lib.hid hsm
    replace hey := Lib.hid hey
    go_wp2
    refine bodyPost_ret (v := .agg #[.int .i64 qn, .slice a1 n1 c1, .slice a2 n2 c2]) (by simp [results, Tryz.results93, go_sem, u0, u1, u2]) rfl ⟨_, rfl, below_set3 b03 (by omega) _ _ _, ?_⟩
    rw [hsm.out]
    refine ((hey.out.set3 ?_ _ _ _)).mono ?_
    · have := s0.out; omega
    · have := s0.out; omega
  | none =>
    simp only [] at hsm
    by_cases hl : 256 < T.length
    · rw [if_pos hl] at hsm
      have d1 : decide ((256 : Int) < (T.length : Int)) = true := decide_eq_true (by omega)
      replace hsm := Lib.hid hsm
      replace hey := Lib.hid hey
      go_wp2_with fail
      refine (raw_new _ _ _ _).mono ?_
      rintro e w4 ⟨x4, rfl, b4, he4⟩
      obtain ⟨q9, a9, n9, c9, a8, n8, c8, rfl⟩ := he4.shape
      have bb := Below.step b03 b4
      obtain ⟨⟨u0', u1', u2'⟩, g0, g1, g2⟩ := q4.below (Below.step c1e (Below.step b3 b4))
      have s4 := (Below.step b3 b4).size
      replace he4 := Lib.hid he4
      clear u0 u1 u2 f0 f1 f2 z0 z1 z2 y0' y1' y2'
      go_wp2
      refine bodyPost_ret (v := .agg #[.int .i64 q9, .slice a9 n9 c9, .slice a8 n8 c8]) (by simp [results, Tryz.results93, go_sem, u0', u1', u2']) rfl ⟨_, rfl, below_set3 bb (by omega) _ _ _, ?_⟩
      rw [hsm.out]
      have s3 := b3.size
      exact (he4.out.set3 (by omega) _ _ _).mono (by omega)
    · rw [if_neg hl] at hsm
      have d1 : decide ((256 : Int) < (T.length : Int)) = false := decide_eq_false (by omega)
      replace hsm := Lib.hid hsm
      replace hey := Lib.hid hey
      go_wp2
      refine bodyPost_ret (v := .agg #[.int .i64 qn, .slice a1 n1 c1, .slice a2 n2 c2]) (by simp [results, Tryz.results93, go_sem, u0, u1, u2]) rfl ⟨_, rfl, below_set3 b03 (by omega) _ _ _, ?_⟩
      rw [hsm.out]
      refine ((hey.out.set3 ?_ _ _ _)).mono ?_
      · have := s0.out; omega
      · have := s0.out; omega

theorem ref08_fault (op : ByteArray) (k R : Int) (va : Option Addr) (vn vc : Nat) (T : List Int) (w : World) (h : IntsAt w (.slice va vn vc) T) :
    Calls Tryz.prog 45 #[.string op, .agg #[.int .i64 k, .int .i64 R, .slice va vn vc]] w (Ret1 (fun x w' => EOwn w.heap.size w' (under op 0 (smallP k R T)) x) w) := by
  have b0 := Below.step (belowAlloc w (.cells #[.int .i64 k, .int .i64 R, .slice va vn vc] 24)) (belowAlloc _ (.cells #[.int .i64 0, .slice none 0 0, .slice none 0 0] 33))
  have q4 : Box3 ((w.alloc (.cells #[.int .i64 k, .int .i64 R, .slice va vn vc] 24)).alloc (.cells #[.int .i64 0, .slice none 0 0, .slice none 0 0] 33)) (w.heap.size + 1) (.int .i64 0) (.slice none 0 0) (.slice none 0 0) := by simp [Box3, go_sem]
  replace h := Lib.hid (h.below b0)
  go_enter Tryz.func45, Tryz.ntmps45
  go_wp2_with fail
  refine (ref_small k R va vn vc T _ h.out).mono ?_
  rintro e w1 ⟨x, rfl, b1, he⟩
  go_wp2_with fail
  refine (raw_under _ 0 (smallP k R T) x _ he.at (fun n l e => by
    have := smallP_num e
    exact ⟨by omega, by omega, by omega⟩)).mono ?_
  rintro e w2 ⟨x2, rfl, b2, he2⟩
  obtain ⟨q, a1, n1, c1, a2, n2, c2, rfl⟩ := he2.shape
  have q4' := q4.below (Below.step b1 b2)
  obtain ⟨⟨y0, y1, y2⟩, f0, f1, f2⟩ := q4'
  have hs := b1.size
  simp only [World.size_alloc] at hs
  replace he2 := Lib.hid he2
  go_wp2
  exact bodyPost_ret (v := .agg #[.int .i64 q, .slice a1 n1 c1, .slice a2 n2 c2]) (by simp [results, Tryz.results45, go_sem, y0, y1, y2]) rfl ⟨_, rfl, below_set3 (Below.step b0 (Below.step b1 b2)) (Nat.le_succ _) _ _ _, (he2.out.set3 (by omega) _ _ _).mono (by omega)⟩

set_option maxHeartbeats 2000000 in
theorem ref_image (K R : Nat) (va : Option Addr) (vn vc : Nat) (T : List Int) (u : Value) (x : List Int) (w : World) (h : IntsAt w (.slice va vn vc) T) (hr : RuleOk K R T) (hu : IntsAt w u x) (hx : Syms K x) (hl : x.length ≤ 100000) :
    Calls Tryz.prog 48 #[.agg #[.int .i64 K, .int .i64 R, .slice va vn vc], u] w (Ret1 (fun v w' => OwnI w.heap.size w' v (imgP K R T x)) w) := by
  have b0 := belowAlloc w (.cells #[.int .i64 K, .int .i64 R, .slice va vn vc] 24)
  have q : Box3 (w.alloc (.cells #[.int .i64 K, .int .i64 R, .slice va vn vc] 24)) w.heap.size (.int .i64 K) (.int .i64 R) (.slice va vn vc) := by simp [Box3, go_sem]
  have hR3 := hr.r3
  have hk1 := hr.k1
  have hk4 := hr.k4
  have lX := hu.len
  obtain ⟨ua, un, uc, rfl⟩ := hu.shape
  replace h := Lib.hid (h.below b0)
  replace hu := Lib.hid (hu.below b0)
  replace hr := Lib.hid hr
  replace hx := Lib.hid hx
  obtain ⟨W0, hW0⟩ : ∃ W : World, w.alloc (.cells #[.int .i64 K, .int .i64 R, .slice va vn vc] 24) = W := ⟨_, rfl⟩
  have s0 : w.heap.size ≤ W0.heap.size := by rw [← hW0]; simp
  rw [hW0] at h hu q b0
  replace hW0 := Lib.hid hW0
  go_enter Tryz.func48, Tryz.ntmps48
  go_upto_region 3 with fail
  rw [hW0.out]
  clear hW0
  go_loopw [5, 6] (fun ov iv wr => ∃ (i : Nat) (ow : Value), ow = ov ∧ iv = .int .i64 i ∧ i ≤ x.length - 2 * R ∧ OwnI W0.heap.size wr ow ((imgP K R T x).take i) ∧ Below W0.heap.size W0 wr) (fun _ iv _ => x.length - (intOf iv).toNat)
  case atStart => exact ⟨0, _, rfl, rfl, Nat.zero_le _, OwnI.nil _ _, Below.refl _ _⟩
  case round =>
    obtain ⟨i, ow, rfl, rfl, hi, hO, hB⟩ := hrel
    obtain ⟨wo, rfl⟩ : ∃ wo : World, wo = wr := ⟨_, rfl⟩
    obtain ⟨⟨z0, z1, z2⟩, -, -, -⟩ := q.below hB
    by_cases hlt : i + 2 * R < x.length
    · obtain ⟨W, hW⟩ : ∃ W : World, wo.drew = W := ⟨_, rfl⟩
      have hBW : Below W0.heap.size W0 W := by rw [← hW]; exact hB.drew
      have hOW : OwnI W0.heap.size W ow ((imgP K R T x).take i) := by rw [← hW]; exact hO
      obtain ⟨pv, hsl, hP⟩ := (hu.out.below hBW).mid i (i + 2 * R + 1) (by omega) (by omega)
      have hwin : (x.take (i + 2 * R + 1)).drop i = (x.drop i).take (2 * R + 1) := by rw [List.drop_take]; congr 1; omega
      rw [hwin] at hP
      have hwl : ((x.drop i).take (2 * R + 1)).length = 2 * R + 1 := by rw [List.length_take, List.length_drop]; omega
      have hws : Syms K ((x.drop i).take (2 * R + 1)) := syms_take (syms_drop hx.out i) _
      have hnl := numW_lt _ hws
      rw [hwl, ← hr.out.len] at hnl
      have hT := h.out.below hBW
      have iT := fun w' => hT.idx _ hnl w'
      have cT := hT.cellD _ hnl
      have hg := imgP_getD K R T x i (by omega)
      have htk : (imgP K R T x).take (i + 1) = (imgP K R T x).take i ++ [(imgP K R T x).getD i 0] := by
        rw [List.take_add_one, List.getElem?_eq_getElem (by rw [imgP_length]; omega), List.getD_eq_getElem?_getD, List.getElem?_eq_getElem (by rw [imgP_length]; omega)]; rfl
      rw [hg] at htk
      have hval := ref_value K pv _ W hk1 hk4 hP hws (by rw [hwl]; omega)
      obtain ⟨pa, pn, pc, rfl⟩ := hP.shape
      have hsl2 : ∀ w', (Instr.slice 22 (.slice ua un uc) (some (.int .i64 (i : Int))) (some (.int .i64 ((i : Int) + 2 * (R : Int) + 1))) none).run Tryz.prog w' = .ok (.slice pa pn pc) w' := by
        intro w'; have := hsl w'; rwa [show (((i + 2 * R + 1 : Nat) : Nat) : Int) = (i : Int) + 2 * (R : Int) + 1 by omega] at this
      have hnl2 : numW K ((x.drop i).take (2 * R + 1)) < T.length := hnl
      have hta0 : (valAt (.slice va vn vc) (numW K ((x.drop i).take (2 * R + 1)))).block < W0.heap.size := World.block_lt_of_cell? _ _ (h.out.cellD _ hnl)
      generalize T.getD (numW K ((x.drop i).take (2 * R + 1))) 0 = y at *
      generalize numW K ((x.drop i).take (2 * R + 1)) = N at *
      generalize valAt (.slice va vn vc) N = ta at *
      have hol : ((imgP K R T x).take i).length = i := by rw [List.length_take, imgP_length]; omega
      have sW := hBW.size
      have hta := World.block_lt_of_cell? _ _ cT
      have hS : W.cell? ⟨w.heap.size, 0, none⟩ = some (.int .i64 K) ∧ W.cell? ⟨w.heap.size, 1, none⟩ = some (.int .i64 R) ∧ W.cell? ⟨w.heap.size, 2, none⟩ = some (.slice va vn vc) ∧ W.cell? ta = some (.int .i64 y) := by
        obtain ⟨⟨y0, y1, y2⟩, -, -, -⟩ := q.below hBW
        exact ⟨y0, y1, y2, cT⟩
      have bl := belowAlloc W (.cells #[.int .i64 y] 3)
      have hlit := OwnI.lit W.heap.size W (Nat.le_refl _) [y] (by simp [maxLen]) #[.int .i64 y] rfl 1 rfl
      have hOl := hOW.below bl
      have hBl : W0.heap.size ≤ (W.alloc (.cells #[.int .i64 y] 3)).heap.size := by simp; omega
      have hS1 : (W.alloc (.cells #[.int .i64 y] 3)).cell? ⟨w.heap.size, 0, none⟩ = some (.int .i64 K) ∧ (W.alloc (.cells #[.int .i64 y] 3)).cell? ⟨w.heap.size, 1, none⟩ = some (.int .i64 R) ∧ (W.alloc (.cells #[.int .i64 y] 3)).cell? ⟨w.heap.size, 2, none⟩ = some (.slice va vn vc) ∧ (W.alloc (.cells #[.int .i64 y] 3)).cell? ta = some (.int .i64 y) := by
        have h0 := World.block_lt_of_cell? _ _ hS.1
        exact ⟨(bl.cell h0).trans hS.1, (bl.cell (World.block_lt_of_cell? _ _ hS.2.1)).trans hS.2.1, (bl.cell (World.block_lt_of_cell? _ _ hS.2.2.1)).trans hS.2.2.1, (bl.cell hta).trans hS.2.2.2⟩
      replace hOl := Lib.hid hOl
      replace hval := Lib.hid hval
      replace hT := Lib.hid hT
      replace hOW := Lib.hid hOW
      replace hO := Lib.hid hO
      replace hP := Lib.hid hP
      replace hws := Lib.hid hws
      replace hwl := Lib.hid hwl
      replace hwin := Lib.hid hwin
      replace hg := Lib.hid hg
      replace htk := Lib.hid htk
      replace hol := Lib.hid hol
      replace hW := Lib.hid hW
      replace hlit := Lib.hid hlit
      clear hsl cT
      have hw1 : IntKind.i64.wrap (2 * (R : Int)) = 2 * (R : Int) := wrapK (by omega) (by omega)
      have hw2 : IntKind.i64.wrap ((i : Int) + 2 * (R : Int)) = (i : Int) + 2 * (R : Int) := wrapK (by omega) (by omega)
      have hw3 : IntKind.i64.wrap ((i : Int) + 2 * (R : Int) + 1) = (i : Int) + 2 * (R : Int) + 1 := wrapK (by omega) (by omega)
      go_upto_region 5 with fail
      refine wp_region_plan (fun w' => w'.cell? ⟨w.heap.size, 0, none⟩ = some (.int .i64 K) ∧ w'.cell? ⟨w.heap.size, 1, none⟩ = some (.int .i64 R) ∧ w'.cell? ⟨w.heap.size, 2, none⟩ = some (.slice va vn vc) ∧ w'.cell? ta = some (.int .i64 y)) 19 [(0, true), (1, true), (2, true), (3, true), (4, true), (5, true), (6, true), (7, true), (8, true), (9, true), (10, true), (11, true), (12, true), (13, true), (14, false), (15, true), (16, true), (17, false), (18, false)] (by kernel_rfl) (by kernel_rfl) ?_
      rw [hW.out]
      clear z0 z1 z2
      refine headY (v := ?_) (some 17) rfl rfl (Or.inl ⟨by rfl, ?_⟩) hS ?_
      rotate_left
      · rintro W' ⟨s0, s1, s2, s3⟩; go_simp; try with_reducible rfl
      simp only [Act.put, List.setIfInBounds_toArray, List.set_cons_zero, List.set_cons_succ]
      refine headY (v := ?_) (some 18) rfl rfl (Or.inl ⟨by rfl, ?_⟩) hS ?_
      rotate_left
      · rintro W' ⟨s0, s1, s2, s3⟩; go_simp; try with_reducible rfl
      simp only [Act.put, List.setIfInBounds_toArray, List.set_cons_zero, List.set_cons_succ]
      refine headY (v := ?_) (some 19) rfl rfl (Or.inl ⟨by rfl, ?_⟩) hS ?_
      rotate_left
      · rintro W' ⟨s0, s1, s2, s3⟩; go_simp; try with_reducible rfl
      simp only [Act.put, List.setIfInBounds_toArray, List.set_cons_zero, List.set_cons_succ]
      refine headY (v := ?_) (some 20) rfl rfl (Or.inl ⟨by rfl, ?_⟩) hS ?_
      rotate_left
      · rintro W' ⟨s0, s1, s2, s3⟩; go_simp; try with_reducible rfl
      simp only [Act.put, List.setIfInBounds_toArray, List.set_cons_zero, List.set_cons_succ]
      refine headY (v := ?_) (some 21) rfl rfl (Or.inl ⟨by rfl, ?_⟩) hS ?_
      rotate_left
      · rintro W' ⟨s0, s1, s2, s3⟩; go_simp; try with_reducible rfl
      simp only [Act.put, List.setIfInBounds_toArray, List.set_cons_zero, List.set_cons_succ]
      refine headY (v := ?_) (some 22) rfl rfl (Or.inl ⟨by rfl, ?_⟩) hS ?_
      rotate_left
      · rintro W' ⟨s0, s1, s2, s3⟩; go_simp; try with_reducible rfl
      simp only [Act.put, List.setIfInBounds_toArray, List.set_cons_zero, List.set_cons_succ]
      refine headY (v := ?_) (some 23) rfl rfl (Or.inl ⟨by rfl, ?_⟩) hS ?_
      rotate_left
      · rintro W' ⟨s0, s1, s2, s3⟩; go_simp; try with_reducible rfl
      simp only [Act.put, List.setIfInBounds_toArray, List.set_cons_zero, List.set_cons_succ]
      refine headY (v := ?_) (some 24) rfl rfl (Or.inl ⟨by rfl, ?_⟩) hS ?_
      rotate_left
      · rintro W' ⟨s0, s1, s2, s3⟩; go_simp; try with_reducible rfl
      simp only [Act.put, List.setIfInBounds_toArray, List.set_cons_zero, List.set_cons_succ]
      refine headY (v := ?_) (some 25) rfl rfl (Or.inl ⟨by rfl, ?_⟩) hS ?_
      rotate_left
      · rintro W' ⟨s0, s1, s2, s3⟩; go_simp; try with_reducible rfl
      simp only [Act.put, List.setIfInBounds_toArray, List.set_cons_zero, List.set_cons_succ]
      refine headY (v := ?_) (some 26) rfl rfl (Or.inl ⟨by rfl, ?_⟩) hS ?_
      rotate_left
      · rintro W' ⟨s0, s1, s2, s3⟩; go_simp; try with_reducible rfl
      simp only [Act.put, List.setIfInBounds_toArray, List.set_cons_zero, List.set_cons_succ]
      refine headY (v := ?_) (some 27) rfl rfl (Or.inl ⟨by rfl, ?_⟩) hS ?_
      rotate_left
      · rintro W' ⟨s0, s1, s2, s3⟩; go_simp; try with_reducible rfl
      simp only [Act.put, List.setIfInBounds_toArray, List.set_cons_zero, List.set_cons_succ]
      refine headY (v := ?_) (some 28) rfl rfl (Or.inl ⟨by rfl, ?_⟩) hS ?_
      rotate_left
      · rintro W' ⟨s0, s1, s2, s3⟩; go_simp; try with_reducible rfl
      simp only [Act.put, List.setIfInBounds_toArray, List.set_cons_zero, List.set_cons_succ]
      refine headY (v := ?_) (some 29) rfl rfl (Or.inl ⟨by rfl, ?_⟩) hS ?_
      rotate_left
      · rintro W' ⟨s0, s1, s2, s3⟩; go_simp; try with_reducible rfl
      simp only [Act.put, List.setIfInBounds_toArray, List.set_cons_zero, List.set_cons_succ]
      refine headY (v := ?_) (some 30) rfl rfl (Or.inl ⟨by rfl, ?_⟩) hS ?_
      rotate_left
      · rintro W' ⟨s0, s1, s2, s3⟩; go_simp; try with_reducible rfl
      simp only [Act.put, List.setIfInBounds_toArray, List.set_cons_zero, List.set_cons_succ]
      refine headC rfl (fun KK hK => ?_)
      go_simp
      refine hval.out.mono ?_
      rintro e w5 ⟨rfl, rfl⟩
      refine hK _ _ hS ?_
      clear hK KK
      refine headY (v := ?_) (some 32) rfl rfl (Or.inl ⟨by rfl, ?_⟩) hS ?_
      rotate_left
      · rintro W' ⟨s0, s1, s2, s3⟩; go_simp; try with_reducible rfl
      simp only [Act.put, List.setIfInBounds_toArray, List.set_cons_zero, List.set_cons_succ]
      refine headY (v := ?_) (some 33) rfl rfl (Or.inl ⟨by rfl, ?_⟩) hS ?_
      rotate_left
      · rintro W' ⟨s0, s1, s2, s3⟩; go_simp; try with_reducible rfl
      simp only [Act.put, List.setIfInBounds_toArray, List.set_cons_zero, List.set_cons_succ]
      refine headC rfl (fun KK hK => ?_)
      go_simp
      refine hK _ _ hS1 ?_
      clear hK KK
      refine headC rfl (fun KK hK => ?_)
      refine step_appI rfl _ _ rfl W0.heap.size ow (.slice (some ⟨W.heap.size, 0, none⟩) 1 1) _ [y] rfl rfl hOl.out hlit.out.at (by rw [hol.out]; simp; omega) hBl ?_
      intro v9 w9 ho9 b9
      rw [← htk.out] at ho9
      have b99 := (hBW.trans (bl.mono sW)).trans b9
      obtain ⟨v9a, v9b, v9c, rfl⟩ := ho9.at.shape
      replace ho9 := Lib.hid ho9
      have hS9 : w9.cell? ⟨w.heap.size, 0, none⟩ = some (.int .i64 K) ∧ w9.cell? ⟨w.heap.size, 1, none⟩ = some (.int .i64 R) ∧ w9.cell? ⟨w.heap.size, 2, none⟩ = some (.slice va vn vc) ∧ w9.cell? ta = some (.int .i64 y) := by
        obtain ⟨⟨y0, y1, y2⟩, -, -, -⟩ := q.below b99
        exact ⟨y0, y1, y2, (b9.cell hta0).trans hS1.2.2.2⟩
      refine hK _ _ hS9 ?_
      clear hK KK
      refine head0 ?_
      simp only [List.drop_succ_cons, List.drop_zero]
      clear hS hS1 hS9
      go_wp2
      refine NoPanic.normal ?_
      go_wp2
      go_roundw
      case measure => simp [intOf]; omega
      case rel => exact ⟨i + 1, _, rfl, by go_num, by omega, ho9.out, b99⟩
    · have hke : i = x.length - 2 * R := by omega
      have hfin : (imgP K R T x).take i = imgP K R T x := List.take_of_length_le (by rw [imgP_length]; omega)
      rw [hfin] at hO
      have d1 : decide ((i : Int) + 2 * (R : Int) < (x.length : Int)) = false := decide_eq_false (by omega)
      replace hO := Lib.hid hO
      replace hfin := Lib.hid hfin
      replace hke := Lib.hid hke
      obtain ⟨oa, on, oc, hov⟩ := hO.out.at.shape
      subst hov
      go_wp2
      go_ret
      exact ⟨_, rfl, b0.trans (hB.mono s0), hO.out.mono s0⟩
end Go.Proofs.YtilpckngghffoaaGreatDoor

namespace Go.Proofs.YtilpckngghffoaaGreatDoor

/-- Two words that differ, with the same 2 R symbols at both ends and one image. -/
structure IsTwins (K R : Nat) (T a b : List Int) : Prop where
  sa : Syms K a
  sb : Syms K b
  len : a.length = b.length
  ne : a ≠ b
  low : 2 * R ≤ a.length
  front : a.take (2 * R) = b.take (2 * R)
  back : a.drop (a.length - 2 * R) = b.drop (b.length - 2 * R)
  img : imgP K R T a = imgP K R T b
theorem IsTwins.symm {K R : Nat} {T a b : List Int} (h : IsTwins K R T a b) : IsTwins K R T b a :=
  ⟨h.sb, h.sa, h.len.symm, h.ne.symm, by rw [← h.len]; exact h.low, h.front.symm, h.back.symm, h.img.symm⟩
/-- The nodes of the pair are one. -/
def Diag (N p : Nat) : Prop := p / N = p % N
instance (N p : Nat) : Decidable (Diag N p) := by unfold Diag; exact inferInstance
theorem diag_mk {N u : Nat} (h : u < N) : Diag N (u * N + u) := by unfold Diag; rw [pair_div h, pair_mod h]
theorem Diag.eq {N p : Nat} (h : Diag N p) : p = p / N * N + p / N := by
  have := pair_eq p N
  rw [← h] at this; exact this.symm
/-- A way from a pair of equal nodes through pairs that are apart to a pair of equal nodes. -/
structure ApartWay (N : Nat) (adj : Nat → List Nat) (w : List Nat) : Prop where
  len : 3 ≤ w.length
  low : ∀ i, i < w.length → w.getD i 0 < N * N
  arr : ∀ i, i + 1 < w.length → w.getD (i + 1) 0 ∈ adj (w.getD i 0)
  fst : Diag N (w.getD 0 0)
  lst : Diag N (w.getD (w.length - 1) 0)
  inn : ∀ i, 0 < i → i + 1 < w.length → ¬ Diag N (w.getD i 0)
theorem last_diag {N : Nat} {W : Nat → Nat} (h0 : Diag N (W 0)) : ∀ i, ¬ Diag N (W i) → ∃ k, k < i ∧ Diag N (W k) ∧ ∀ j, k < j → j ≤ i → ¬ Diag N (W j)
  | 0, h => absurd h0 h
  | i + 1, h => by
    by_cases q : Diag N (W i)
    · exact ⟨i, by omega, q, fun j h1 h2 => by obtain rfl : j = i + 1 := by omega
                                               exact h⟩
    · obtain ⟨k, h1, h2, h3⟩ := last_diag h0 i q
      refine ⟨k, by omega, h2, fun j h4 h5 => ?_⟩
      by_cases e : j = i + 1
      · subst e; exact h
      · exact h3 j h4 (by omega)
theorem next_diag {N : Nat} {W : Nat → Nat} {i : Nat} (h : ¬ Diag N (W i)) : ∀ k, Diag N (W (i + k)) → ∃ m, i < m ∧ m ≤ i + k ∧ Diag N (W m) ∧ ∀ j, i ≤ j → j < m → ¬ Diag N (W j)
  | 0, hk => absurd hk h
  | k + 1, hk => by
    by_cases q : ∃ m, i < m ∧ m ≤ i + k ∧ Diag N (W m) ∧ ∀ j, i ≤ j → j < m → ¬ Diag N (W j)
    · obtain ⟨m, h1, h2, h3⟩ := q
      exact ⟨m, h1, by omega, h3⟩
    · refine ⟨i + (k + 1), by omega, Nat.le_refl _, hk, fun j h1 h2 hd => q ?_⟩
      obtain ⟨d, rfl⟩ : ∃ d, j = i + d := ⟨j - i, by omega⟩
      obtain ⟨m, m1, m2, m3⟩ := next_diag h d hd
      exact ⟨m, m1, by omega, m3⟩
theorem list_range_get (f : Nat → Nat) (n i : Nat) (h : i < n) : ((List.range n).map f).getD i 0 = f i := by simp [List.getD, h]
/-- Twins have such a way. -/
theorem IsTwins.way {K R : Nat} {T a b : List Int} (hK : 1 ≤ K) (hR : 1 ≤ R) (h : IsTwins K R T a b) : ∃ w, ApartWay (pw K (2 * R)) (pairL K (pw K (2 * R)) T) w ∧ 2 * R + (w.length - 1) ≤ a.length := by
  have hlen := h.len
  have hlow := h.low
  have hN := pw_pos (K := K) (2 * R) hK
  have na : ∀ i, i + 2 * R ≤ a.length → nodeAt K (2 * R) a i < pw K (2 * R) := fun i hi => node_lt h.sa hi
  have nb : ∀ i, i + 2 * R ≤ a.length → nodeAt K (2 * R) b i < pw K (2 * R) := fun i hi => node_lt h.sb (by omega)
  obtain ⟨W, hW⟩ : ∃ W : Nat → Nat, W = fun i => nodeAt K (2 * R) a i * pw K (2 * R) + nodeAt K (2 * R) b i := ⟨_, rfl⟩
  have hWi : ∀ i, W i = nodeAt K (2 * R) a i * pw K (2 * R) + nodeAt K (2 * R) b i := fun i => by rw [hW]
  have dg : ∀ i, i + 2 * R ≤ a.length → (Diag (pw K (2 * R)) (W i) ↔ nodeAt K (2 * R) a i = nodeAt K (2 * R) b i) := fun i hi => by
    unfold Diag; rw [hWi, pair_div (nb i hi), pair_mod (nb i hi)]
  have d0 : Diag (pw K (2 * R)) (W 0) := by
    rw [dg 0 (by omega)]; unfold nodeAt; rw [List.drop_zero, List.drop_zero, h.front]
  obtain ⟨n, hn⟩ : ∃ n, a.length = n + 2 * R := ⟨a.length - 2 * R, by omega⟩
  have dn : Diag (pw K (2 * R)) (W n) := by
    rw [dg n (by omega)]; unfold nodeAt
    have := h.back
    rw [← hlen, hn, Nat.add_sub_cancel] at this
    rw [this]
  have hex : ∃ i, i ≤ n ∧ ¬ Diag (pw K (2 * R)) (W i) := by
    apply Classical.byContradiction
    intro hno
    have hall : ∀ i, i ≤ n → nodeAt K (2 * R) a i = nodeAt K (2 * R) b i := fun i hi => (dg i (by omega)).1 (Classical.byContradiction fun q => hno ⟨i, hi, q⟩)
    apply h.ne
    have hget : ∀ i, i < n + 1 → ((List.range (n + 1)).map (nodeAt K (2 * R) a)).getD i 0 = nodeAt K (2 * R) a i := fun i hi => list_range_get _ _ _ hi
    have e1 := along_word (F := id) (way := (List.range (n + 1)).map (nodeAt K (2 * R) a)) hK hR h.sa h.low (by simp; omega) (fun i hi => hget i (by simpa using hi))
    have e2 := along_word (F := id) (way := (List.range (n + 1)).map (nodeAt K (2 * R) a)) hK hR h.sb (by omega) (by simp; omega) (fun i hi => by
      have hi : i < n + 1 := by simpa using hi
      show ((List.range (n + 1)).map (nodeAt K (2 * R) a)).getD i 0 = _
      rw [hget i hi, hall i (by omega)])
    rw [← e1, e2]
  obtain ⟨i, hi, hnd⟩ := hex
  obtain ⟨k, k1, k2, k3⟩ := last_diag d0 i hnd
  obtain ⟨m, m1, m2, m3, m4⟩ := next_diag hnd (n - i) (by rw [show i + (n - i) = n by omega]; exact dn)
  have hget : ∀ j, j < m - k + 1 → ((List.range (m - k + 1)).map fun j => W (k + j)).getD j 0 = W (k + j) := fun j hj => list_range_get _ _ _ hj
  refine ⟨(List.range (m - k + 1)).map fun j => W (k + j), ⟨by simp; omega, fun j hj => ?_, fun j hj => ?_, ?_, ?_, fun j j0 j1 => ?_⟩, by simp; omega⟩
  · rw [hget j (by simpa using hj), hWi]
    have : j < m - k + 1 := by simpa using hj
    exact pair_lt (na _ (by omega)) (nb _ (by omega))
  · have hj : j + 1 < m - k + 1 := by simpa using hj
    rw [hget j (by omega), hget (j + 1) hj, mem_pairL (by omega), hWi, hWi, pair_div (nb _ (by omega)), pair_mod (nb _ (by omega)), ← Nat.add_assoc]
    exact wayW_arr h.sa h.sb hlen h.img (by omega)
  · rw [hget 0 (by omega)]; exact k2
  · rw [List.length_map, List.length_range, Nat.add_sub_cancel, hget _ (by omega), show k + (m - k) = m by omega]; exact m3
  · have hj : j + 1 < m - k + 1 := by simpa using j1
    rw [hget j (by omega)]
    by_cases q : k + j ≤ i
    · exact k3 _ (by omega) q
    · exact m4 _ (by omega) (by omega)
/-- A way of pairs gives two words with one image. -/
theorem ways_words {K R : Nat} {T : List Int} {w : List Nat} (hK : 1 ≤ K) (hR : 1 ≤ R) (hw : 1 ≤ w.length) (low : ∀ i, i < w.length → w.getD i 0 < pw K (2 * R) * pw K (2 * R))
    (arr : ∀ i, i + 1 < w.length → w.getD (i + 1) 0 ∈ pairL K (pw K (2 * R)) T (w.getD i 0)) :
    (∀ i, i < w.length → nodeAt K (2 * R) (alongW K (2 * R) (· / pw K (2 * R)) w) i = w.getD i 0 / pw K (2 * R) ∧ nodeAt K (2 * R) (alongW K (2 * R) (· % pw K (2 * R)) w) i = w.getD i 0 % pw K (2 * R)) ∧
    imgP K R T (alongW K (2 * R) (· / pw K (2 * R)) w) = imgP K R T (alongW K (2 * R) (· % pw K (2 * R)) w) := by
  have hN := pw_pos (K := K) (2 * R) hK
  have fits : ∀ i, i + 1 < w.length → StepFits K (pw K (2 * R)) T (w.getD i 0) (w.getD (i + 1) 0) := fun i hi =>
    (fits_iff hK hR (low _ hi)).2 ((mem_pairL (by omega)).1 (arr i hi))
  have n1 := along_node (K := K) (m := 2 * R) (F := (· / pw K (2 * R))) (way := w) hK (div_lt_of (low 0 (by omega))) (fun i hi => (fits i hi).1)
  have n2 := along_node (K := K) (m := 2 * R) (F := (· % pw K (2 * R))) (way := w) hK (Nat.mod_lt _ (by omega)) (fun i hi => (fits i hi).2.1)
  refine ⟨fun i hi => ⟨n1 i hi, n2 i hi⟩, ?_⟩
  rw [img_eq (by rw [alongW_len, alongW_len])]
  intro i hi
  rw [alongW_len] at hi
  rw [n1 i (by omega), n2 i (by omega), alongW_get (by omega), alongW_get (by omega), Int.toNat_natCast, Int.toNat_natCast]
  exact (fits i (by omega)).2.2
/-- Such a way has twins. -/
theorem ApartWay.twins {K R : Nat} {T : List Int} {w : List Nat} (hK : 1 ≤ K) (hR : 1 ≤ R) (h : ApartWay (pw K (2 * R)) (pairL K (pw K (2 * R)) T) w) :
    IsTwins K R T (alongW K (2 * R) (· / pw K (2 * R)) w) (alongW K (2 * R) (· % pw K (2 * R)) w) := by
  have hN := pw_pos (K := K) (2 * R) hK
  have h3 := h.len
  obtain ⟨hn, hi⟩ := ways_words hK hR (by omega) h.low h.arr
  have la := alongW_len K (2 * R) (· / pw K (2 * R)) w
  have lb := alongW_len K (2 * R) (· % pw K (2 * R)) w
  have sa := alongW_syms (m := 2 * R) hK (· / pw K (2 * R)) w
  have sb := alongW_syms (m := 2 * R) hK (· % pw K (2 * R)) w
  generalize alongW K (2 * R) (· / pw K (2 * R)) w = a at *
  generalize alongW K (2 * R) (· % pw K (2 * R)) w = b at *
  have same : ∀ i, i < w.length → Diag (pw K (2 * R)) (w.getD i 0) → (a.drop i).take (2 * R) = (b.drop i).take (2 * R) := fun i hi hd => by
    obtain ⟨e1, e2⟩ := hn i hi
    have q1 := digs_numW hK _ (syms_take (syms_drop sa i) (2 * R))
    have q2 := digs_numW hK _ (syms_take (syms_drop sb i) (2 * R))
    rw [show ((a.drop i).take (2 * R)).length = 2 * R by simp; omega] at q1
    rw [show ((b.drop i).take (2 * R)).length = 2 * R by simp; omega] at q2
    rw [← q1, ← q2]
    show digs K (2 * R) (nodeAt K (2 * R) a i) = digs K (2 * R) (nodeAt K (2 * R) b i)
    rw [e1, e2, hd]
  refine ⟨sa, sb, by omega, fun e => ?_, by omega, ?_, ?_, hi⟩
  · subst e
    obtain ⟨e1, e2⟩ := hn 1 (by omega)
    exact h.inn 1 (by omega) (by omega) (e1.symm.trans e2)
  · have := same 0 (by omega) h.fst
    simpa using this
  · have := same (w.length - 1) (by omega) h.lst
    rw [List.take_of_length_le (by simp; omega), List.take_of_length_le (by simp; omega)] at this
    rw [show a.length - 2 * R = w.length - 1 by omega, show b.length - 2 * R = w.length - 1 by omega]
    exact this

/-- The least length of twins. -/
def TwinLen (K R : Nat) (T : List Int) (n : Nat) : Prop := (∃ a b, IsTwins K R T a b ∧ a.length = n) ∧ ∀ a b, IsTwins K R T a b → n ≤ a.length
theorem TwinLen.unique {K R : Nat} {T : List Int} {n m : Nat} (h : TwinLen K R T n) (k : TwinLen K R T m) : n = m := by
  obtain ⟨⟨a, b, h1, rfl⟩, h2⟩ := h
  obtain ⟨⟨c, d, k1, rfl⟩, k2⟩ := k
  exact Nat.le_antisymm (h2 _ _ k1) (k2 _ _ h1)
end Go.Proofs.YtilpckngghffoaaGreatDoor

namespace Go.Proofs.YtilpckngghffoaaGreatDoor

/-- The table with the radius R + d. -/
def wideT (K R d : Nat) (T : List Int) : List Int := (List.range (pw K (2 * (R + d) + 1))).map fun i => T.getD (numW K (((digs K (2 * (R + d) + 1) i).drop d).take (2 * R + 1))) 0
theorem wideT_length (K R d : Nat) (T : List Int) : (wideT K R d T).length = pw K (2 * (R + d) + 1) := by simp [wideT]
theorem wideT_ok {K R d : Nat} {T : List Int} (h : RuleOk K R T) (hd : R + d ≤ 3) : RuleOk K (R + d) (wideT K R d T) :=
  ⟨h.k1, h.k4, hd, wideT_length .., fun y hy => by
    obtain ⟨i, _, rfl⟩ := List.mem_map.1 hy
    exact h.syms.getD (by have := h.k1; omega) _⟩
theorem wideT_at {K R d : Nat} {T : List Int} (hK : 1 ≤ K) (w : List Int) (hw : Syms K w) (hl : w.length = 2 * (R + d) + 1) : (wideT K R d T).getD (numW K w) 0 = T.getD (numW K ((w.drop d).take (2 * R + 1))) 0 := by
  have hlt := numW_lt w hw
  rw [hl] at hlt
  have : (wideT K R d T).getD (numW K w) 0 = T.getD (numW K (((digs K (2 * (R + d) + 1) (numW K w)).drop d).take (2 * R + 1))) 0 := by simp [wideT, List.getD, hlt]
  rw [this, ← hl, digs_numW hK w hw]
end Go.Proofs.YtilpckngghffoaaGreatDoor

namespace Go.Proofs.YtilpckngghffoaaGreatDoor
open Go.RowKit
set_option maxRecDepth 100000

set_option maxHeartbeats 1000000 in
theorem widened1_any (K R d : Nat) (va : Option Addr) (vn vc : Nat) (T : List Int) (p q : Nat) (v : Value) (ys : List Int) (w : World)
    (h : IntsAt w (.slice va vn vc) T) (hr : RuleOk K R T) (hv : IntsAt w v ys) (hy : Syms K ys) (hyl : ys.length = 2 * (R + d) + 1)
    (hRd : R + d ≤ 3)
    (x0 : w.cell? ⟨p, 0, none⟩ = some (.int .i64 K)) (x1 : w.cell? ⟨p, 1, none⟩ = some (.int .i64 R)) (x2 : w.cell? ⟨p, 2, none⟩ = some (.slice va vn vc)) (x3 : w.cell? ⟨q, 0, none⟩ = some (.int .i64 d)) :
    Calls Tryz.prog 171 #[v, .pointer (some ⟨p, 0, none⟩), .pointer (some ⟨q, 0, none⟩)] w (Ret1 (fun x _ => x = .int .i64 (T.getD (numW K ((ys.drop d).take (2 * R + 1))) 0)) w) := by
  have lv := hv.len
  obtain ⟨u, hu, hiu⟩ := hv.mid d (ys.length - d) (by omega) (by omega)
  have eL : (ys.take (ys.length - d)).drop d = (ys.drop d).take (2 * R + 1) := by
    rw [List.drop_take]; congr 1; omega
  rw [eL] at hiu
  have hD : (ys.length : Int) - (d : Int) = ((ys.length - d : Nat) : Int) := by omega
  have hle : ys.length ≤ 7 := by omega
  have hsy : Syms K ((ys.drop d).take (2 * R + 1)) := syms_take (syms_drop hy _) _
  have hsl : ((ys.drop d).take (2 * R + 1)).length = 2 * R + 1 := by simp; omega
  generalize hY : T.getD (numW K ((ys.drop d).take (2 * R + 1))) 0 = Y
  generalize (ys.drop d).take (2 * R + 1) = zs at *
  obtain ⟨e, hee⟩ : ∃ e, ys.length - d = e := ⟨_, rfl⟩
  rw [hee] at hD hu
  have he7 : e ≤ 7 := by omega
  have hwe : IntKind.i64.wrap (e : Int) = e := wrapK (by omega) (by omega)
  obtain ⟨L, hL⟩ : ∃ L, ys.length = L := ⟨_, rfl⟩
  rw [hL] at lv hD hle
  have hd3 : d ≤ 3 := by omega
  replace hY := Lib.hid hY
  replace h := Lib.hid h
  replace hv := Lib.hid hv
  replace hy := Lib.hid hy
  replace hsy := Lib.hid hsy
  replace hsl := Lib.hid hsl
  replace hyl := Lib.hid hyl
  replace hr := Lib.hid hr
  replace hiu := Lib.hid hiu
  replace hL := Lib.hid hL
  clear hee eL
  go_enter Tryz.func171, Tryz.ntmps171
  go_upto_region 1 with fail
  refine wp_region_plan (fun w' => w'.cell? ⟨p, 0, none⟩ = some (.int .i64 K) ∧ w'.cell? ⟨p, 1, none⟩ = some (.int .i64 R) ∧ w'.cell? ⟨p, 2, none⟩ = some (.slice va vn vc) ∧ w'.cell? ⟨q, 0, none⟩ = some (.int .i64 d)) 9 [(0, true), (1, true), (2, true), (3, true), (4, true), (5, true), (6, true), (7, true), (8, false)] (by kernel_rfl) (by kernel_rfl) ?_
  have hS : w.drew.cell? ⟨p, 0, none⟩ = some (.int .i64 K) ∧ w.drew.cell? ⟨p, 1, none⟩ = some (.int .i64 R) ∧ w.drew.cell? ⟨p, 2, none⟩ = some (.slice va vn vc) ∧ w.drew.cell? ⟨q, 0, none⟩ = some (.int .i64 d) := ⟨x0, x1, x2, x3⟩
  refine headY (v := ?_) (some 5) rfl rfl (Or.inl ⟨by rfl, ?_⟩) hS ?_
  rotate_left
  · rintro W' ⟨s0, s1, s2, s3⟩; go_simp; try with_reducible rfl
  simp only [Act.put, List.setIfInBounds_toArray, List.set_cons_zero, List.set_cons_succ]
  refine headY (v := ?_) (some 6) rfl rfl (Or.inl ⟨by rfl, ?_⟩) hS ?_
  rotate_left
  · rintro W' ⟨s0, s1, s2, s3⟩; go_simp; try with_reducible rfl
  simp only [Act.put, List.setIfInBounds_toArray, List.set_cons_zero, List.set_cons_succ]
  refine headY (v := ?_) (some 7) rfl rfl (Or.inl ⟨by rfl, ?_⟩) hS ?_
  rotate_left
  · rintro W' ⟨s0, s1, s2, s3⟩; go_simp; try with_reducible rfl
  simp only [Act.put, List.setIfInBounds_toArray, List.set_cons_zero, List.set_cons_succ]
  refine headY (v := ?_) (some 8) rfl rfl (Or.inl ⟨by rfl, ?_⟩) hS ?_
  rotate_left
  · rintro W' ⟨s0, s1, s2, s3⟩; go_simp; try with_reducible rfl
  simp only [Act.put, List.setIfInBounds_toArray, List.set_cons_zero, List.set_cons_succ]
  refine headY (v := ?_) (some 9) rfl rfl (Or.inl ⟨by rfl, ?_⟩) hS ?_
  rotate_left
  · rintro W' ⟨s0, s1, s2, s3⟩; go_simp; try with_reducible rfl
  simp only [Act.put, List.setIfInBounds_toArray, List.set_cons_zero, List.set_cons_succ]
  refine headY (v := ?_) (some 10) rfl rfl (Or.inl ⟨by rfl, ?_⟩) hS ?_
  rotate_left
  · rintro W' ⟨s0, s1, s2, s3⟩; go_simp; try with_reducible rfl
  simp only [Act.put, List.setIfInBounds_toArray, List.set_cons_zero, List.set_cons_succ]
  refine headY (v := ?_) (some 11) rfl rfl (Or.inl ⟨by rfl, ?_⟩) hS ?_
  rotate_left
  · rintro W' ⟨s0, s1, s2, s3⟩; go_simp; try with_reducible rfl
  simp only [Act.put, List.setIfInBounds_toArray, List.set_cons_zero, List.set_cons_succ]
  refine headY (v := ?_) (some 12) rfl rfl (Or.inl ⟨by rfl, ?_⟩) hS ?_
  rotate_left
  · rintro W' ⟨s0, s1, s2, s3⟩; go_simp; try with_reducible rfl
  simp only [Act.put, List.setIfInBounds_toArray, List.set_cons_zero, List.set_cons_succ]
  refine headC rfl (fun KK hK => ?_)
  go_simp
  refine (symbol_any K R va vn vc T u zs _ h.out.drew hr.out hiu.out.drew hsy.out hsl.out).mono ?_
  rintro e w1 ⟨x, rfl, b1, rfl⟩
  rw [hY.out]
  have hS1 : w1.cell? ⟨p, 0, none⟩ = some (.int .i64 K) ∧ w1.cell? ⟨p, 1, none⟩ = some (.int .i64 R) ∧ w1.cell? ⟨p, 2, none⟩ = some (.slice va vn vc) ∧ w1.cell? ⟨q, 0, none⟩ = some (.int .i64 d) := ⟨cell_keep b1 hS.1, cell_keep b1 hS.2.1, cell_keep b1 hS.2.2.1, cell_keep b1 hS.2.2.2⟩
  refine hK _ _ hS1 ?_
  clear hK KK
  refine head0 ?_
  simp only [List.drop_succ_cons, List.drop_zero]
  clear hS hS1
  go_wp2
  refine NoPanic.normal ?_
  go_wp2
  go_ret
  exact ⟨_, rfl, Below.step ((Below.refl _ _).drew) b1, rfl⟩
theorem eg_widened1 (args : Array Value) (w : World) : (callFunc 171 args).run Tryz.prog w = .ok (.enter 171 args) w := by kernel_rfl
theorem madeP_wide (K R d : Nat) (T : List Int) : madeP K (2 * (R + d) + 1) (fun ys => T.getD (numW K ((ys.drop d).take (2 * R + 1))) 0) (pw K (2 * (R + d) + 1)) = wideT K R d T := rfl

set_option maxHeartbeats 1000000 in
theorem widened_any (K R d : Nat) (va : Option Addr) (vn vc : Nat) (T : List Int) (w : World) (h : IntsAt w (.slice va vn vc) T) (hr : RuleOk K R T) (hRd : R + d ≤ 3) (Ri : Int) (hRi : Ri = ((R + d : Nat) : Int)) :
    Calls Tryz.prog 145 #[.agg #[.int .i64 K, .int .i64 R, .slice va vn vc], .int .i64 Ri] w (Ret1 (fun x w' => ∃ a n c, x = .agg #[.int .i64 K, .int .i64 ((R + d : Nat) : Int), .slice a n c] ∧ OwnI w.heap.size w' (.slice a n c) (wideT K R d T)) w) := by
  have b0 := Below.step (belowAlloc w (.cells #[.int .i64 K, .int .i64 R, .slice va vn vc] 24)) (belowAlloc _ (.cells #[.int .i64 0, .int .i64 0, .slice none 0 0] 24))
  have b3 := Below.step b0 (belowAlloc _ (.cells #[.int .i64 d] 3))
  have q1 : Box3 (((w.alloc (.cells #[.int .i64 K, .int .i64 R, .slice va vn vc] 24)).alloc (.cells #[.int .i64 0, .int .i64 0, .slice none 0 0] 24)).alloc (.cells #[.int .i64 d] 3)) w.heap.size (.int .i64 K) (.int .i64 R) (.slice va vn vc) := by simp [Box3, go_sem]
  have q2 : Box3 (((w.alloc (.cells #[.int .i64 K, .int .i64 R, .slice va vn vc] 24)).alloc (.cells #[.int .i64 0, .int .i64 0, .slice none 0 0] 24)).alloc (.cells #[.int .i64 d] 3)) (w.heap.size + 1) (.int .i64 0) (.int .i64 0) (.slice none 0 0) := by simp [Box3, go_sem]
  have q3 : (((w.alloc (.cells #[.int .i64 K, .int .i64 R, .slice va vn vc] 24)).alloc (.cells #[.int .i64 0, .int .i64 0, .slice none 0 0] 24)).alloc (.cells #[.int .i64 d] 3)).cell? ⟨w.heap.size + 2, 0, none⟩ = some (.int .i64 d) := by simp [go_sem]
  have hk1 := hr.k1
  have hk4 := hr.k4
  have hR3 := hr.r3
  have hsub : Ri - (R : Int) = (d : Int) := by omega
  have hRi3 : 0 ≤ Ri ∧ Ri ≤ 3 := by omega
  have h3 := h.below b3
  obtain ⟨W3, hW3⟩ : ∃ W3 : World, W3 = ((w.alloc (.cells #[.int .i64 K, .int .i64 R, .slice va vn vc] 24)).alloc (.cells #[.int .i64 0, .int .i64 0, .slice none 0 0] 24)).alloc (.cells #[.int .i64 d] 3) := ⟨_, rfl⟩
  have s3 : W3.heap.size = w.heap.size + 3 := by rw [hW3]; simp
  rw [← hW3] at b3 q1 q2 q3 h3
  replace hRi := Lib.hid hRi
  replace hr := Lib.hid hr
  replace hW3 := Lib.hid hW3
  replace s3 := Lib.hid s3
  replace q2 := Lib.hid q2
  replace h3 := Lib.hid h3
  go_enter Tryz.func145, Tryz.ntmps145
  go_wp2_with fail
  rw [← hW3.out]
  refine (made_two K (R + d) _ (.pointer (some ⟨w.heap.size, 0, none⟩)) (.pointer (some ⟨w.heap.size + 2, 0, none⟩)) (fun ys => T.getD (numW K ((ys.drop d).take (2 * R + 1))) 0) W3 hk1 hk4 hRd Ri hRi.out eg_widened1 (fun v ys w' hB hv hy hyl => by
    have q11 := q1.below hB
    exact widened1_any K R d va vn vc T _ _ v ys w' (h3.out.below hB) hr.out hv hy hyl hRd q11.1.1 q11.1.2.1 q11.1.2.2 (cell_keep hB q3))).mono ?_
  rintro e w4 ⟨x, rfl, b4, a, n, c, rfl, ho⟩
  rw [madeP_wide] at ho
  obtain ⟨⟨y0, y1, y2⟩, f0, f1, f2⟩ := q2.out.below b4
  replace ho := Lib.hid ho
  clear q1 q3
  go_wp2
  refine bodyPost_ret (v := .agg #[.int .i64 K, .int .i64 ((R + d : Nat) : Int), .slice a n c]) (by simp [results, Tryz.results145, go_sem, y0, y1, y2]) rfl ⟨_, rfl, below_set3 (Below.step b3 b4) (Nat.le_succ _) _ _ _, a, n, c, rfl, ?_⟩
  have := s3.out
  exact (((ho.out.setBelowBase (a := ⟨w.heap.size + 1, 0, none⟩) (by simp; omega) _).setBelowBase (a := ⟨w.heap.size + 1, 1, none⟩) (by simp; omega) _).setBelowBase (a := ⟨w.heap.size + 1, 2, none⟩) (by simp; omega) _).mono (by omega)
end Go.Proofs.YtilpckngghffoaaGreatDoor

namespace Go.Proofs.YtilpckngghffoaaGreatDoor
open Go.RowKit
set_option maxRecDepth 100000

theorem smallP_small {K R : Nat} {T : List Int} (h : RuleOk K R T) (hl : T.length ≤ 256) : smallP K R T = none := by rw [smallP_ok h, if_neg (by omega)]

theorem over_Nodes (r : Nat → Addr) (K R : Nat) (va : Option Addr) (vn vc : Nat) (T : List Int) (w : World) (hg : Glob r w) (h : IntsAt w (.slice va vn vc) T) (hok : RuleOk K R T) (hl : T.length ≤ 256) :
    Calls Tryz.prog 60 #[.agg #[.int .i64 K, .int .i64 R, .slice va vn vc]] w (Ret2 (fun x y _ => x = .int .i64 ((T.length / K : Nat) : Int) ∧ y = .nilIface) w) := by
  have b0 := belowAlloc w (.cells #[.int .i64 K, .int .i64 R, .slice va vn vc] 24)
  have q : Box3 (w.alloc (.cells #[.int .i64 K, .int .i64 R, .slice va vn vc] 24)) w.heap.size (.int .i64 K) (.int .i64 R) (.slice va vn vc) := by simp [Box3, go_sem]
  have hs := smallP_small hok hl
  have hk1 := hok.k1
  generalize hN : T.length / K = N
  replace hN := Lib.hid hN
  replace hs := Lib.hid hs
  replace hg := Lib.hid (hg.below b0)
  replace h := Lib.hid (h.below b0)
  go_enter Tryz.func60, Tryz.ntmps60
  go_wp2_with fail
  refine (over_small r K R va vn vc T _ hg.out h.out).mono ?_
  rintro e w1 ⟨x, rfl, b1, he⟩
  rw [hs.out] at he
  obtain rfl := ErrIs.none_eq he
  obtain ⟨⟨z0, z1, z2⟩, -, -, -⟩ := q.below b1
  go_wp2_with fail
  refine (over_nodes K R va vn vc T _ (h.out.below b1) hk1 (by omega)).mono ?_
  rintro e w2 ⟨rfl, rfl⟩
  rw [hN.out]
  go_wp2
  go_ret2
  exact ⟨_, _, rfl, Below.step b0 (Below.step b1 (belowAlloc _ _)), rfl, rfl⟩

set_option maxHeartbeats 1000000 in
theorem over_Edge (r : Nat → Addr) (K R : Nat) (va : Option Addr) (vn vc : Nat) (T : List Int) (u s : Nat) (w : World) (hg : Glob r w) (h : IntsAt w (.slice va vn vc) T) (hok : RuleOk K R T) (hl : T.length ≤ 256) (hu : u < T.length / K) (hs : s < K) :
    Calls Tryz.prog 65 #[.agg #[.int .i64 K, .int .i64 R, .slice va vn vc], .int .i64 u, .int .i64 s] w (Ret3 (fun x y z _ => x = .int .i64 (toN K (T.length / K) u s) ∧ y = .int .i64 (labN K T u s) ∧ z = .nilIface) w) := by
  have b0 := belowAlloc w (.cells #[.int .i64 K, .int .i64 R, .slice va vn vc] 24)
  have q : Box3 (w.alloc (.cells #[.int .i64 K, .int .i64 R, .slice va vn vc] 24)) w.heap.size (.int .i64 K) (.int .i64 R) (.slice va vn vc) := by simp [Box3, go_sem]
  have hsm := smallP_small hok hl
  have hk1 := hok.k1
  have hk4 := hok.k4
  have hul : u * K + s < T.length := by
    have := Nat.div_mul_le_self T.length K
    have := mul_add_lt (q := u) (m := T.length / K) hs hu
    omega
  have hN0 : T.length / K ≤ 256 := Nat.le_trans (Nat.div_le_self _ _) hl
  have huK : u * K ≤ 256 := by omega
  obtain ⟨p, hp⟩ : ∃ n, u * K = n := ⟨_, rfl⟩
  have hM : (u : Int) * (K : Int) = (p : Int) := by rw [← hp]; simp
  obtain ⟨at_, hat⟩ : ∃ n, u * K + s = n := ⟨_, rfl⟩
  have hA : (p : Int) + (s : Int) = (at_ : Int) := by rw [← hat, hp]; simp
  have i1 := fun w' => h.idx at_ (by omega) w'
  have c1 := h.cellD at_ (by omega)
  generalize valAt (.slice va vn vc) at_ = ta at *
  have hb1 := h.below b0
  have e1 : labN K T u s = T.getD at_ 0 := by unfold labN; rw [hat]
  have e2 : toN K (T.length / K) u s = at_ % (T.length / K) := by unfold toN; rw [hat]
  rw [e1, e2]
  generalize T.getD at_ 0 = y at *
  obtain ⟨N, hN⟩ : ∃ N, T.length / K = N := ⟨_, rfl⟩
  rw [hN] at hu hN0 ⊢
  have hN1 : ¬ (N : Int) = 0 := by omega
  have hN2 : ((N : Int) == 0) = false := by rw [beq_eq_false_iff_ne]; omega
  have hN3 : (0 : Int) < N := by omega
  have hN4 : ¬ N = 0 := by omega
  have hrem : (at_ : Int).tmod (N : Int) = ((at_ % N : Nat) : Int) := by rw [Int.tmod_eq_emod_of_nonneg (by omega)]; simp
  have hat1 : at_ ≤ 256 := by omega
  rw [hat] at hul
  rw [hp] at huK hat
  have hps : (p : Int) + (s : Int) ≤ 256 := by omega
  clear hat hp
  have c1' := (b0.cell (World.block_lt_of_cell? _ _ c1)).trans c1
  replace hN := Lib.hid hN
  replace hsm := Lib.hid hsm
  replace hg := Lib.hid (hg.below b0)
  replace h := Lib.hid hb1
  clear c1 e1 e2 hb1
  go_enter Tryz.func65, Tryz.ntmps65
  go_wp2_with fail
  refine (over_small r K R va vn vc T _ hg.out h.out).mono ?_
  rintro e w1 ⟨x, rfl, b1, he⟩
  rw [hsm.out] at he
  obtain rfl := ErrIs.none_eq he
  have q1 := q.below b1
  obtain ⟨⟨z0, z1, z2⟩, -, -, -⟩ := q1
  have q1 := Lib.hid (q.below b1)
  go_wp2_with fail
  refine (over_nodes K R va vn vc T _ (h.out.below b1) hk1 (by omega)).mono ?_
  rintro e w2 ⟨rfl, rfl⟩
  rw [hN.out]
  have b2 := Below.step b1 (belowAlloc w1 (.cells #[.int .i64 K, .int .i64 R, .slice va vn vc] 24))
  obtain ⟨W2, hW2⟩ : ∃ W2 : World, W2 = w1.alloc (.cells #[.int .i64 K, .int .i64 R, .slice va vn vc] 24) := ⟨_, rfl⟩
  rw [← hW2] at b2 ⊢
  have q2 := q.below b2
  have hT2 := h.out.below b2
  have cT2 := (b2.cell (World.block_lt_of_cell? _ _ c1')).trans c1'
  clear hW2 z0 z1 z2 c1'
  obtain ⟨⟨z0, z1, z2⟩, -, -, -⟩ := q2
  replace hT2 := Lib.hid hT2
  go_upto_region 9 with fail
  refine wp_region_plan (fun w' => w'.cell? ⟨w.heap.size, 0, none⟩ = some (.int .i64 K) ∧ w'.cell? ⟨w.heap.size, 1, none⟩ = some (.int .i64 R) ∧ w'.cell? ⟨w.heap.size, 2, none⟩ = some (.slice va vn vc) ∧ w'.cell? ta = some (.int .i64 y)) 11 [(0, true), (1, true), (4, true), (5, true), (6, true), (7, true), (8, true), (2, false), (3, true), (9, true), (10, true)] (by kernel_rfl) (by kernel_rfl) ?_
  have hS : W2.drew.cell? ⟨w.heap.size, 0, none⟩ = some (.int .i64 K) ∧ W2.drew.cell? ⟨w.heap.size, 1, none⟩ = some (.int .i64 R) ∧ W2.drew.cell? ⟨w.heap.size, 2, none⟩ = some (.slice va vn vc) ∧ W2.drew.cell? ta = some (.int .i64 y) := ⟨z0, z1, z2, cT2⟩
  refine headY (v := ?_) (some 42) rfl rfl (Or.inl ⟨by rfl, ?_⟩) hS ?_
  rotate_left
  · rintro W' ⟨s0, s1, s2, s3⟩; go_simp; try with_reducible rfl
  simp only [Act.put, List.setIfInBounds_toArray, List.set_cons_zero, List.set_cons_succ]
  refine headY (v := ?_) (some 43) rfl rfl (Or.inl ⟨by rfl, ?_⟩) hS ?_
  rotate_left
  · rintro W' ⟨s0, s1, s2, s3⟩; go_simp; try with_reducible rfl
  simp only [Act.put, List.setIfInBounds_toArray, List.set_cons_zero, List.set_cons_succ]
  refine headY (v := ?_) (some 46) rfl rfl (Or.inl ⟨by rfl, ?_⟩) hS ?_
  rotate_left
  · rintro W' ⟨s0, s1, s2, s3⟩; go_simp; try with_reducible rfl
  simp only [Act.put, List.setIfInBounds_toArray, List.set_cons_zero, List.set_cons_succ]
  refine headY (v := ?_) (some 47) rfl rfl (Or.inl ⟨by rfl, ?_⟩) hS ?_
  rotate_left
  · rintro W' ⟨s0, s1, s2, s3⟩; go_simp; try with_reducible rfl
  simp only [Act.put, List.setIfInBounds_toArray, List.set_cons_zero, List.set_cons_succ]
  refine headY (v := ?_) (some 48) rfl rfl (Or.inl ⟨by rfl, ?_⟩) hS ?_
  rotate_left
  · rintro W' ⟨s0, s1, s2, s3⟩; go_simp; try with_reducible rfl
  simp only [Act.put, List.setIfInBounds_toArray, List.set_cons_zero, List.set_cons_succ]
  refine headY (v := ?_) (some 49) rfl rfl (Or.inl ⟨by rfl, ?_⟩) hS ?_
  rotate_left
  · rintro W' ⟨s0, s1, s2, s3⟩; go_simp; try with_reducible rfl
  simp only [Act.put, List.setIfInBounds_toArray, List.set_cons_zero, List.set_cons_succ]
  refine headY (v := ?_) (some 50) rfl rfl (Or.inl ⟨by rfl, ?_⟩) hS ?_
  rotate_left
  · rintro W' ⟨s0, s1, s2, s3⟩; go_simp; try with_reducible rfl
  simp only [Act.put, List.setIfInBounds_toArray, List.set_cons_zero, List.set_cons_succ]
  refine headC rfl (fun KK hK => ?_)
  go_simp
  refine (over_nodes K R va vn vc T _ hT2.out.drew hk1 (by omega)).mono ?_
  rintro e W3 ⟨rfl, rfl⟩
  rw [hN.out]
  have b3 := belowAlloc W2.drew (.cells #[.int .i64 K, .int .i64 R, .slice va vn vc] 24)
  have hS3 := (⟨cell_keep b3 hS.1, cell_keep b3 hS.2.1, cell_keep b3 hS.2.2.1, (b3.cell (World.block_lt_of_cell? _ _ hS.2.2.2)).trans hS.2.2.2⟩ : (W2.drew.alloc (.cells #[.int .i64 K, .int .i64 R, .slice va vn vc] 24)).cell? ⟨w.heap.size, 0, none⟩ = some (.int .i64 K) ∧ (W2.drew.alloc (.cells #[.int .i64 K, .int .i64 R, .slice va vn vc] 24)).cell? ⟨w.heap.size, 1, none⟩ = some (.int .i64 R) ∧ (W2.drew.alloc (.cells #[.int .i64 K, .int .i64 R, .slice va vn vc] 24)).cell? ⟨w.heap.size, 2, none⟩ = some (.slice va vn vc) ∧ (W2.drew.alloc (.cells #[.int .i64 K, .int .i64 R, .slice va vn vc] 24)).cell? ta = some (.int .i64 y))
  refine hK _ _ hS3 ?_
  clear hK KK
  refine headY (v := ?_) (some 45) rfl rfl (Or.inl ⟨by rfl, ?_⟩) hS3 ?_
  rotate_left
  · rintro W' ⟨s0, s1, s2, s3⟩; go_simp; try with_reducible rfl
  simp only [Act.put, List.setIfInBounds_toArray, List.set_cons_zero, List.set_cons_succ]
  refine headY (v := ?_) (some 6) rfl rfl (Or.inl ⟨by rfl, ?_⟩) hS3 ?_
  rotate_left
  · rintro W' ⟨s0, s1, s2, s3⟩; go_simp; try with_reducible rfl
  simp only [Act.put, List.setIfInBounds_toArray, List.set_cons_zero, List.set_cons_succ]
  refine headY (v := ?_) (some 7) rfl rfl (Or.inl ⟨by rfl, ?_⟩) hS3 ?_
  rotate_left
  · rintro W' ⟨s0, s1, s2, s3⟩; go_simp; try with_reducible rfl
  simp only [Act.put, List.setIfInBounds_toArray, List.set_cons_zero, List.set_cons_succ]
  refine head0 ?_
  simp only [List.drop_succ_cons, List.drop_zero]
  clear hS hS3
  go_wp2
  refine NoPanic.normal ?_
  go_wp2
  go_ret3
  exact ⟨_, _, _, rfl, Below.step b0 (Below.step b2 ((Below.refl _ _).drew.alloc (Nat.le_refl _) _)), rfl, rfl, rfl⟩
end Go.Proofs.YtilpckngghffoaaGreatDoor

namespace Go.Proofs.YtilpckngghffoaaGreatDoor
open Go.RowKit
set_option maxRecDepth 100000

set_option maxHeartbeats 1000000 in
theorem fwiden_ok (r : Nat → Addr) (K R d : Nat) (va : Option Addr) (vn vc : Nat) (T : List Int) (w : World) (hg : Glob r w) (h : IntsAt w (.slice va vn vc) T) (hr : RuleOk K R T) (hRd : R + d ≤ 3) (Ri : Int) (hRi : Ri = ((R + d : Nat) : Int)) :
    Calls Tryz.prog 112 #[.agg #[.int .i64 K, .int .i64 R, .slice va vn vc], .int .i64 Ri] w (Ret2 (fun x y w' => y = .nilIface ∧ ∃ a n c, x = .agg #[.int .i64 K, .int .i64 ((R + d : Nat) : Int), .slice a n c] ∧ OwnI w.heap.size w' (.slice a n c) (wideT K R d T)) w) := by
  have b0 := Below.step (belowAlloc w (.cells #[.int .i64 K, .int .i64 R, .slice va vn vc] 24)) (belowAlloc _ (.cells #[.int .i64 0, .int .i64 0, .slice none 0 0] 24))
  have q2 : Box3 ((w.alloc (.cells #[.int .i64 K, .int .i64 R, .slice va vn vc] 24)).alloc (.cells #[.int .i64 0, .int .i64 0, .slice none 0 0] 24)) (w.heap.size + 1) (.int .i64 0) (.int .i64 0) (.slice none 0 0) := by simp [Box3, go_sem]
  have q1 : Box3 ((w.alloc (.cells #[.int .i64 K, .int .i64 R, .slice va vn vc] 24)).alloc (.cells #[.int .i64 0, .int .i64 0, .slice none 0 0] 24)) w.heap.size (.int .i64 K) (.int .i64 R) (.slice va vn vc) := by simp [Box3, go_sem]
  have hk1 := hr.k1
  have hk4 := hr.k4
  have hR3 := hr.r3
  have hck := Lib.hid hr.check
  have h1 : R ≤ Ri := by omega
  have h2 : Ri ≤ 3 := by omega
  have h1d : decide (Ri < (R : Int)) = false := by simp; omega
  have h2d : decide ((3 : Int) < Ri) = false := by simp; omega
  replace hRi := Lib.hid hRi
  replace hg := Lib.hid (hg.below b0)
  replace h := Lib.hid (h.below b0)
  replace hr := Lib.hid hr
  replace q1 := Lib.hid q1
  replace q2 := Lib.hid q2
  go_enter Tryz.func112, Tryz.ntmps112
  go_wp2_with fail
  refine (forms_check r _ K R va vn vc T _ hg.out h.out).mono ?_
  rintro e w1 ⟨x, rfl, hb, he⟩
  rw [hck.out] at he
  obtain rfl := ErrIs.none_eq he
  have q11 := q1.out.below hb
  obtain ⟨⟨z0, z1, z2⟩, -, -, -⟩ := q11
  have s1 := hb.size
  simp only [World.size_alloc] at s1
  replace s1 := Lib.hid s1
  go_wp2_with fail
  refine (widened_any K R d va vn vc T w1 (h.out.below hb) hr.out hRd Ri hRi.out).mono ?_
  rintro e w2 ⟨x, rfl, b2, a, n, c, rfl, ho⟩
  obtain ⟨⟨y0, y1, y2⟩, f0, f1, f2⟩ := q2.out.below (Below.step hb b2)
  replace ho := Lib.hid ho
  clear z0 z1 z2
  go_wp2
  refine bodyPost_ret (v := .tuple #[.agg #[.int .i64 K, .int .i64 ((R + d : Nat) : Int), .slice a n c], .nilIface]) (by simp [results, Tryz.results112, go_sem, y0, y1, y2]) rfl ⟨_, _, rfl, below_set3 (Below.step b0 (Below.step hb b2)) (Nat.le_succ _) _ _ _, rfl, a, n, c, rfl, ?_⟩
  have := s1.out
  exact (((ho.out.setBelowBase (a := ⟨w.heap.size + 1, 0, none⟩) (by simp; omega) _).setBelowBase (a := ⟨w.heap.size + 1, 1, none⟩) (by simp; omega) _).setBelowBase (a := ⟨w.heap.size + 1, 2, none⟩) (by simp; omega) _).mono (by omega)

/-- The working rule's radius and table. -/
def wkR (R : Nat) : Nat := if R = 0 then 1 else R
def wkT (K R : Nat) (T : List Int) : List Int := if R = 0 then wideT K 0 1 T else T
theorem wk_ok {K R : Nat} {T : List Int} (h : RuleOk K R T) : RuleOk K (wkR R) (wkT K R T) := by
  unfold wkR wkT
  by_cases e : R = 0
  · subst e; rw [if_pos rfl, if_pos rfl]; exact wideT_ok (d := 1) h (by decide)
  · rw [if_neg e, if_neg e]; exact h
theorem wk_pos (R : Nat) : 1 ≤ wkR R := by unfold wkR; split <;> omega
theorem wk_small {K R : Nat} {T : List Int} (h : RuleOk K R T) (hl : T.length ≤ 256) : (wkT K R T).length ≤ 256 := by
  unfold wkT
  by_cases e : R = 0
  · subst e; rw [if_pos rfl, wideT_length]
    have h4 := h.k4
    have : pw K 3 ≤ pw 4 3 := Nat.pow_le_pow_left h4 3
    have e4 : pw 4 3 = 64 := by decide
    have : pw K (2 * (0 + 1) + 1) = pw K 3 := rfl
    omega
  · rw [if_neg e]; exact hl
/-- A small rule's working rule has at most 81 nodes. -/
theorem nodes_le {K R : Nat} {T : List Int} (h : RuleOk K R T) (hR : 1 ≤ R) (hl : T.length ≤ 256) : pw K (2 * R) ≤ 81 := by
  have h1 := h.k1
  have h4 := h.k4
  have h3 := h.r3
  rw [h.len] at hl
  have hK : K = 1 ∨ K = 2 ∨ K = 3 ∨ K = 4 := by omega
  have hR' : R = 1 ∨ R = 2 ∨ R = 3 := by omega
  rcases hK with rfl | rfl | rfl | rfl <;> rcases hR' with rfl | rfl | rfl <;> revert hl <;> decide

theorem working_bad (r : Nat → Addr) (k R : Int) (va : Option Addr) (vn vc : Nat) (T : List Int) (t : Int × List (ByteArray × Int)) (w : World) (hg : Glob r w) (h : IntsAt w (.slice va vn vc) T) (hc : smallP k R T = some t) :
    Calls Tryz.prog 59 #[.agg #[.int .i64 k, .int .i64 R, .slice va vn vc]] w (Ret2 (fun x y w' => x = zR ∧ ErrIs r w' (under sPairs 0 (some t)) y) w) := by
  have b0 := Below.step (belowAlloc w (.cells #[.int .i64 k, .int .i64 R, .slice va vn vc] 24)) (belowAlloc _ (.cells #[.int .i64 0, .int .i64 0, .slice none 0 0] 24))
  have q2 : Box3 ((w.alloc (.cells #[.int .i64 k, .int .i64 R, .slice va vn vc] 24)).alloc (.cells #[.int .i64 0, .int .i64 0, .slice none 0 0] 24)) (w.heap.size + 1) (.int .i64 0) (.int .i64 0) (.slice none 0 0) := by simp [Box3, go_sem]
  replace hg := Lib.hid (hg.below b0)
  replace h := Lib.hid (h.below b0)
  replace hc := Lib.hid hc
  replace q2 := Lib.hid q2
  go_enter Tryz.func59, Tryz.ntmps59
  go_wp2_with fail
  refine (small_any r k R va vn vc T _ hg.out h.out).mono ?_
  rintro e w1 ⟨x, rfl, b1, he⟩
  rw [hc.out] at he
  have he' := he
  obtain ⟨T1, a1, rfl⟩ := ErrIs.some_shape he
  replace he := Lib.hid he
  replace he' := Lib.hid he'
  go_wp2_with fail
  refine (under_any r _ 0 _ _ w1 he'.out).mono ?_
  rintro e w2 ⟨y, rfl, b2, hy⟩
  obtain ⟨T2, a2, rfl⟩ : ∃ T a, y = .iface T (.pointer (some a)) := by
    unfold under at hy
    exact ErrIs.some_shape hy
  obtain ⟨⟨y0, y1, y2⟩, f0, f1, f2⟩ := q2.out.below (Below.step b1 b2)
  replace hy := Lib.hid hy
  go_wp2
  rw [setCell_self3 y0 y1 y2]
  exact bodyPost_ret (v := .tuple #[zR, .iface T2 (.pointer (some a2))]) (by simp [results, Tryz.results59, go_sem, y0, y1, y2]) rfl ⟨_, _, rfl, Below.step b0 (Below.step b1 b2), rfl, hy.out⟩

set_option maxHeartbeats 1000000 in
theorem working_ok (r : Nat → Addr) (K R : Nat) (va : Option Addr) (vn vc : Nat) (T : List Int) (w : World) (hg : Glob r w) (h : IntsAt w (.slice va vn vc) T) (hr : RuleOk K R T) (hl : T.length ≤ 256) :
    Calls Tryz.prog 59 #[.agg #[.int .i64 K, .int .i64 R, .slice va vn vc]] w (Ret2 (fun x y w' => y = .nilIface ∧ ∃ a n c, x = .agg #[.int .i64 K, .int .i64 (wkR R), .slice a n c] ∧ IntsAt w' (.slice a n c) (wkT K R T)) w) := by
  have b0 := Below.step (belowAlloc w (.cells #[.int .i64 K, .int .i64 R, .slice va vn vc] 24)) (belowAlloc _ (.cells #[.int .i64 0, .int .i64 0, .slice none 0 0] 24))
  have q2 : Box3 ((w.alloc (.cells #[.int .i64 K, .int .i64 R, .slice va vn vc] 24)).alloc (.cells #[.int .i64 0, .int .i64 0, .slice none 0 0] 24)) (w.heap.size + 1) (.int .i64 0) (.int .i64 0) (.slice none 0 0) := by simp [Box3, go_sem]
  have q1 : Box3 ((w.alloc (.cells #[.int .i64 K, .int .i64 R, .slice va vn vc] 24)).alloc (.cells #[.int .i64 0, .int .i64 0, .slice none 0 0] 24)) w.heap.size (.int .i64 K) (.int .i64 R) (.slice va vn vc) := by simp [Box3, go_sem]
  have hs := Lib.hid (smallP_small hr hl)
  have h0 := Lib.hid h
  have hs0 : w.heap.size + 1 < ((w.alloc (.cells #[.int .i64 K, .int .i64 R, .slice va vn vc] 24)).alloc (.cells #[.int .i64 0, .int .i64 0, .slice none 0 0] 24)).heap.size := by simp
  replace hg := Lib.hid (hg.below b0)
  replace h := Lib.hid (h.below b0)
  replace hr := Lib.hid hr
  replace q1 := Lib.hid q1
  replace q2 := Lib.hid q2
  replace hs0 := Lib.hid hs0
  by_cases hR : R = 0
  · have e1 : wkR R = R + 1 := by unfold wkR; rw [if_pos hR, hR]
    have e2 : wkT K R T = wideT K R 1 T := by unfold wkT; rw [if_pos hR, hR]
    have hRq : ((R : Int) == 0) = true := by simp [hR]
    rw [e1, e2]
    replace hR := Lib.hid hR
    clear e1 e2
    go_enter Tryz.func59, Tryz.ntmps59
    go_wp2_with fail
    refine (small_any r K R va vn vc T _ hg.out h.out).mono ?_
    rintro e w1 ⟨x, rfl, b1, he⟩
    rw [hs.out] at he
    obtain rfl := ErrIs.none_eq he
    have q11 := q1.out.below b1
    obtain ⟨⟨z0, z1, z2⟩, -, -, -⟩ := q11
    go_wp2_with fail
    refine (fwiden_ok r K R 1 va vn vc T w1 (hg.out.below b1) (h.out.below b1) hr.out (by have := hR.out; omega) 1 (by have := hR.out; simp [this])).mono ?_
    rintro e w2 ⟨x, y, rfl, b2, rfl, a, n, c, rfl, ho⟩
    obtain ⟨⟨y0, y1, y2⟩, f0, f1, f2⟩ := q2.out.below (Below.step b1 b2)
    replace ho := Lib.hid ho
    clear z0 z1 z2
    go_wp2
    refine bodyPost_ret (v := .tuple #[.agg #[.int .i64 K, .int .i64 ((R + 1 : Nat) : Int), .slice a n c], .nilIface]) (by simp [results, Tryz.results59, go_sem, y0, y1, y2]) rfl ⟨_, _, rfl, below_set3 (Below.step b0 (Below.step b1 b2)) (Nat.le_succ _) _ _ _, rfl, a, n, c, rfl, ?_⟩
    have s1 := hs0.out
    have s2 := b1.size
    exact (((ho.out.setBelowBase (a := ⟨w.heap.size + 1, 0, none⟩) (Nat.lt_of_lt_of_le s1 s2) _).setBelowBase (a := ⟨w.heap.size + 1, 1, none⟩) (Nat.lt_of_lt_of_le s1 s2) _).setBelowBase (a := ⟨w.heap.size + 1, 2, none⟩) (Nat.lt_of_lt_of_le s1 s2) _).at
  · have e1 : wkR R = R := by unfold wkR; rw [if_neg hR]
    have e2 : wkT K R T = T := by unfold wkT; rw [if_neg hR]
    have hRq : ((R : Int) == 0) = false := by rw [beq_eq_false_iff_ne]; omega
    have hR' : ¬ (R : Int) = 0 := by omega
    rw [e1, e2]
    clear e1 e2
    go_enter Tryz.func59, Tryz.ntmps59
    go_wp2_with fail
    refine (small_any r K R va vn vc T _ hg.out h.out).mono ?_
    rintro e w1 ⟨x, rfl, b1, he⟩
    rw [hs.out] at he
    obtain rfl := ErrIs.none_eq he
    have q11 := q1.out.below b1
    obtain ⟨⟨z0, z1, z2⟩, -, -, -⟩ := q11
    obtain ⟨⟨y0, y1, y2⟩, f0, f1, f2⟩ := q2.out.below b1
    have b01 := Below.step b0 b1
    have hTW := h0.out.below (below_set3 b01 (Nat.le_succ _) (.int .i64 K) (.int .i64 R) (.slice va vn vc))
    replace hTW := Lib.hid hTW
    go_wp2
    refine bodyPost_ret (v := .tuple #[.agg #[.int .i64 K, .int .i64 R, .slice va vn vc], .nilIface]) (by simp [results, Tryz.results59, go_sem, y0, y1, y2]) rfl ⟨_, _, rfl, below_set3 b01 (Nat.le_succ _) _ _ _, rfl, va, vn, vc, rfl, hTW.out⟩
end Go.Proofs.YtilpckngghffoaaGreatDoor

namespace Go.Proofs.YtilpckngghffoaaGreatDoor

theorem tab_ext {a b : List Int} (hl : a.length = b.length) (h : ∀ t, t < a.length → a.getD t 0 = b.getD t 0) : a = b :=
  List.ext_getElem hl fun t h1 h2 => by have := h t h1; simpa [List.getD, h1, h2] using this
theorem wideT_get {K R d : Nat} {T : List Int} {i : Nat} (h : i < pw K (2 * (R + d) + 1)) : (wideT K R d T).getD i 0 = T.getD (numW K (((digs K (2 * (R + d) + 1) i).drop d).take (2 * R + 1))) 0 := by
  simp [wideT, List.getD, h]
theorem wideT_zero {K R : Nat} {T : List Int} (h : RuleOk K R T) : wideT K R 0 T = T := by
  refine tab_ext (by rw [wideT_length, h.len]; rfl) fun t ht => ?_
  rw [wideT_length] at ht
  rw [wideT_get ht, List.drop_zero, Nat.add_zero, List.take_of_length_le (by rw [digs_length]; omega), numW_digs h.k1 _ _ (by simpa using ht)]
theorem wideT_wideT {K Q e d : Nat} {N : List Int} (hK : 1 ≤ K) : wideT K (Q + e) d (wideT K Q e N) = wideT K Q (e + d) N := by
  refine tab_ext (by rw [wideT_length, wideT_length, Nat.add_assoc]) fun t ht => ?_
  rw [wideT_length] at ht
  rw [wideT_get ht, wideT_at hK _ (syms_take (syms_drop (digs_syms hK _ _) _) _) (by rw [List.length_take, List.length_drop, digs_length]; omega), wideT_get (by rw [← Nat.add_assoc]; exact ht)]
  congr 2
  rw [List.drop_take, List.take_take, List.drop_drop, Nat.min_eq_left (by omega), Nat.add_comm d e, Nat.add_assoc]
/-- Without the outermost symbols on both sides. -/
def narrT (K Q : Nat) (T : List Int) : List Int := (List.range (pw K (2 * Q + 1))).map fun i => T.getD (numW K ([0] ++ digs K (2 * Q + 1) i ++ [0])) 0
theorem narrT_length (K Q : Nat) (T : List Int) : (narrT K Q T).length = pw K (2 * Q + 1) := by simp [narrT]
theorem narrT_wide {K Q : Nat} {N : List Int} (h : RuleOk K Q N) : narrT K Q (wideT K Q 1 N) = N := by
  have hK := h.k1
  refine tab_ext (by rw [narrT_length, h.len]) fun t ht => ?_
  rw [narrT_length] at ht
  have hs : Syms K ([0] ++ digs K (2 * Q + 1) t ++ [0]) := by
    intro y hy
    rcases List.mem_append.1 hy with hy | hy
    · rcases List.mem_append.1 hy with hy | hy
      · rw [List.mem_singleton] at hy; subst hy; omega
      · exact digs_syms hK _ _ y hy
    · rw [List.mem_singleton] at hy; subst hy; omega
  have : (narrT K Q (wideT K Q 1 N)).getD t 0 = (wideT K Q 1 N).getD (numW K ([0] ++ digs K (2 * Q + 1) t ++ [0])) 0 := by simp [narrT, List.getD, ht]
  rw [this, wideT_at hK _ hs (by simp [digs_length]; omega)]
  have e : (([0] ++ digs K (2 * Q + 1) t ++ [0] : List Int).drop 1).take (2 * Q + 1) = digs K (2 * Q + 1) t := by
    rw [List.append_assoc, List.drop_left' (by rfl), List.take_left' (digs_length ..)]
  rw [e, numW_digs hK _ _ ht]
/-- The radius is the least. -/
def Least (K R : Nat) (T : List Int) : Prop := ∀ Q N, R = Q + 1 → RuleOk K Q N → T ≠ wideT K Q 1 N
/-- What Narrow makes of a rule. -/
def NarrIs (K R : Nat) (T : List Int) (Q : Nat) (N : List Int) : Prop := RuleOk K Q N ∧ Least K Q N ∧ ∃ d, R = Q + d ∧ T = wideT K Q d N
theorem wideT_inj {K Q d : Nat} {N M : List Int} (h : RuleOk K Q N) (k : RuleOk K Q M) (e : wideT K Q d N = wideT K Q d M) : N = M := by
  induction d with
  | zero => rwa [wideT_zero h, wideT_zero k] at e
  | succ d ih =>
    by_cases hd : Q + d ≤ 3
    · apply ih
      rw [← wideT_wideT h.k1, ← wideT_wideT h.k1] at e
      rw [← narrT_wide (wideT_ok h hd), e, narrT_wide (wideT_ok k hd)]
    · have h1 := h.k1
      refine tab_ext (by rw [h.len, k.len]) fun t ht => ?_
      rw [h.len] at ht
      have hs : Syms K (List.replicate (d + 1) 0 ++ digs K (2 * Q + 1) t ++ List.replicate (d + 1) 0) := by
        intro y hy
        rcases List.mem_append.1 hy with hy | hy
        · rcases List.mem_append.1 hy with hy | hy
          · rw [List.eq_of_mem_replicate hy]; omega
          · exact digs_syms h1 _ _ y hy
        · rw [List.eq_of_mem_replicate hy]; omega
      have hc : ((List.replicate (d + 1) 0 ++ digs K (2 * Q + 1) t ++ List.replicate (d + 1) 0 : List Int).drop (d + 1)).take (2 * Q + 1) = digs K (2 * Q + 1) t := by
        rw [List.append_assoc, List.drop_left' (by simp), List.take_left' (digs_length ..)]
      have a := wideT_at (R := Q) (d := d + 1) (T := N) h1 _ hs (by simp [digs_length]; omega)
      have b := wideT_at (R := Q) (d := d + 1) (T := M) h1 _ hs (by simp [digs_length]; omega)
      rw [hc, numW_digs h1 _ _ ht] at a b
      rw [← a, ← b, e]
/-- It is just one. -/
theorem NarrIs.unique {K R Q P : Nat} {T N M : List Int} (h : NarrIs K R T Q N) (k : NarrIs K R T P M) : Q = P ∧ N = M := by
  obtain ⟨h1, h2, d, rfl, e⟩ := h
  obtain ⟨k1, k2, c, hc, e'⟩ := k
  have hK := h1.k1
  have key : ∀ {Q P : Nat} {N M : List Int} {d c : Nat}, RuleOk K Q N → RuleOk K P M → Least K P M → Q + d = P + c → P ≤ 3 → wideT K Q d N = wideT K P c M → ¬ Q < P := by
    intro Q P N M d c hN hM hl hdc hP he hlt
    obtain ⟨j, rfl⟩ : ∃ j, P = Q + j + 1 := ⟨P - Q - 1, by omega⟩
    obtain rfl : d = (j + 1) + c := by omega
    rw [← wideT_wideT hN.k1] at he
    have hw : wideT K Q (j + 1) N = M := wideT_inj (Q := Q + (j + 1)) (wideT_ok hN (by omega)) hM he
    refine hl (Q + j) (wideT K Q j N) rfl (wideT_ok hN (by omega)) ?_
    rw [wideT_wideT hN.k1, hw]
  have hr := h1.r3
  have hr' := k1.r3
  have n1 := key h1 k1 k2 hc hr' (e.symm.trans e')
  have n2 := key k1 h1 h2 hc.symm hr (e'.symm.trans e)
  obtain rfl : Q = P := by omega
  obtain rfl : d = c := by omega
  exact ⟨rfl, wideT_inj h1 k1 (e.symm.trans e')⟩
end Go.Proofs.YtilpckngghffoaaGreatDoor

namespace Go.Proofs.YtilpckngghffoaaGreatDoor
open Go.RowKit
set_option maxRecDepth 100000

theorem words05 (k m : Int) (K n : Nat) (w : World) (hk : k = K) (hm : m = n) (h1 : 1 ≤ K) (h4 : K ≤ 4) (hn : n ≤ 7) :
    Calls Tryz.prog 173 #[.int .i64 k, .int .i64 m] w fun e w' => e = .returned (.int .i64 (pw K n)) ∧ w = w' := by
  have hp := ref_power k m K n w hk hm h1 h4 hn
  clear hk hm
  replace hp := Lib.hid hp
  go_enter Tryz.func173, Tryz.ntmps173
  go_wp2_with fail
  refine hp.out.mono ?_
  rintro e w1 ⟨rfl, rfl⟩
  go_wp2
  go_ret
  exact ⟨rfl, rfl⟩

set_option maxHeartbeats 4000000 in
theorem ref_wide (K R d : Nat) (va : Option Addr) (vn vc : Nat) (T : List Int) (w : World) (h : IntsAt w (.slice va vn vc) T) (hr : RuleOk K R T) (hd : R + d ≤ 3) (RR : Int) (hRR : RR = ((R + d : Nat) : Int)) :
    Calls Tryz.prog 147 #[.agg #[.int .i64 K, .int .i64 R, .slice va vn vc], .int .i64 RR] w (Ret1 (fun x w' => ∃ a n c, x = .agg #[.int .i64 K, .int .i64 RR, .slice a n c] ∧ OwnI w.heap.size w' (.slice a n c) (wideT K R d T)) w) := by
  have hk1 := hr.k1
  have hk4 := hr.k4
  have hR3 := hr.r3
  obtain ⟨M, hM⟩ : ∃ M, pw K (2 * (R + d) + 1) = M := ⟨_, rfl⟩
  have hM2 : M ≤ 16384 := by rw [← hM]; exact pw_le hk1 hk4 (by omega)
  have b0 : Below w.heap.size w (((w.alloc (.cells #[.int .i64 K, .int .i64 R, .slice va vn vc] 24)).alloc (.cells #[.int .i64 0, .int .i64 0, .slice none 0 0] 24)).alloc (.cells #[.int .i64 K, .int .i64 RR, .slice none 0 0] 24)) := Below.step (belowAlloc w (.cells #[.int .i64 K, .int .i64 R, .slice va vn vc] 24)) (Below.step (belowAlloc _ (.cells #[.int .i64 0, .int .i64 0, .slice none 0 0] 24)) (belowAlloc _ (.cells #[.int .i64 K, .int .i64 RR, .slice none 0 0] 24)))
  have qr : Box3 (((w.alloc (.cells #[.int .i64 K, .int .i64 R, .slice va vn vc] 24)).alloc (.cells #[.int .i64 0, .int .i64 0, .slice none 0 0] 24)).alloc (.cells #[.int .i64 K, .int .i64 RR, .slice none 0 0] 24)) w.heap.size (.int .i64 K) (.int .i64 R) (.slice va vn vc) := by simp [Box3, go_sem]
  have qz : Box3 (((w.alloc (.cells #[.int .i64 K, .int .i64 R, .slice va vn vc] 24)).alloc (.cells #[.int .i64 0, .int .i64 0, .slice none 0 0] 24)).alloc (.cells #[.int .i64 K, .int .i64 RR, .slice none 0 0] 24)) (w.heap.size + 1) (.int .i64 0) (.int .i64 0) (.slice none 0 0) := by simp [Box3, go_sem]
  have qo : Box3 (((w.alloc (.cells #[.int .i64 K, .int .i64 R, .slice va vn vc] 24)).alloc (.cells #[.int .i64 0, .int .i64 0, .slice none 0 0] 24)).alloc (.cells #[.int .i64 K, .int .i64 RR, .slice none 0 0] 24)) (w.heap.size + 2) (.int .i64 K) (.int .i64 RR) (.slice none 0 0) := by simp [Box3, go_sem]
  have s0 : (((w.alloc (.cells #[.int .i64 K, .int .i64 R, .slice va vn vc] 24)).alloc (.cells #[.int .i64 0, .int .i64 0, .slice none 0 0] 24)).alloc (.cells #[.int .i64 K, .int .i64 RR, .slice none 0 0] 24)).heap.size = w.heap.size + 3 := by simp
  have hlow : ∀ j, j < T.length → (valAt (.slice va vn vc) j).block < w.heap.size := fun j hj => World.block_lt_of_cell? _ _ (h.cellD j hj)
  obtain ⟨W0, hW0⟩ : ∃ W : World, (((w.alloc (.cells #[.int .i64 K, .int .i64 R, .slice va vn vc] 24)).alloc (.cells #[.int .i64 0, .int .i64 0, .slice none 0 0] 24)).alloc (.cells #[.int .i64 K, .int .i64 RR, .slice none 0 0] 24)) = W := ⟨_, rfl⟩
  have h0 := h.below b0
  rw [hW0] at b0 qr qz qo s0 h0
  replace h := Lib.hid h
  replace hr := Lib.hid hr
  replace hM := Lib.hid hM
  replace s0 := Lib.hid s0
  replace hlow := Lib.hid hlow
  replace hW0 := Lib.hid hW0
  have hRR2 := Lib.hid hRR
  have hwn : 2 * RR + 1 = ((2 * (R + d) + 1 : Nat) : Int) := by omega
  have hdd : RR - (R : Int) = (d : Int) := by omega
  replace hwn := Lib.hid hwn
  have e1 : 0 ≤ RR := by omega
  have e2 : RR ≤ 3 := by omega
  clear hRR
  go_enter Tryz.func147, Tryz.ntmps147
  go_upto_region 2 with fail
  rw [hW0.out]
  have qr0 := qr
  obtain ⟨⟨z0, z1, z2⟩, -, -, -⟩ := qr0
  go_wp2_with fail
  clear hW0 z0 z1 z2
  go_loopw [7] (fun iv wr => ∃ i : Nat, i ≤ M ∧ iv = .int .i64 i ∧ (∃ oa on oc, OwnI (w.heap.size + 3) wr (.slice oa on oc) ((wideT K R d T).take i) ∧ Box3 wr (w.heap.size + 2) (.int .i64 K) (.int .i64 RR) (.slice oa on oc)) ∧ Box3 wr (w.heap.size + 1) (.int .i64 0) (.int .i64 0) (.slice none 0 0) ∧ Box3 wr w.heap.size (.int .i64 K) (.int .i64 R) (.slice va vn vc) ∧ Below w.heap.size w wr ∧ w.heap.size + 3 ≤ wr.heap.size) (fun iv _ => M - (intOf iv).toNat)
  case atStart => exact ⟨0, by omega, rfl, ⟨none, 0, 0, OwnI.nil _ _, qo⟩, qz, qr, b0, by rw [s0.out]; omega⟩
  case round =>
    clear qo qz qr b0 h0
    obtain ⟨i, hi, rfl, ⟨oa, on, oc, hO, qo⟩, qz, qr, hB, hBs⟩ := hrel
    obtain ⟨wo, rfl⟩ : ∃ wo : World, wo = wr := ⟨_, rfl⟩
    have qr0 := qr
    obtain ⟨⟨z0, z1, z2⟩, -, -, -⟩ := qr0
    have hwd := words05 K (2 * RR + 1) K (2 * (R + d) + 1) wo rfl hwn.out hk1 hk4 (by omega)
    rw [hM.out] at hwd
    have hdg := fun (j : Int) (hj : j = (i : Int)) (hi : i < M) => ref_digits K (2 * RR + 1) j K (2 * (R + d) + 1) i wo rfl hwn.out hj hk1 hk4 (by omega) (by omega)
    replace hwd := Lib.hid hwd
    replace hdg := Lib.hid hdg
    replace qo := Lib.hid qo
    replace qz := Lib.hid qz
    replace qr := Lib.hid qr
    replace hO := Lib.hid hO
    go_wp2_with fail
    refine hwd.out.mono ?_
    rintro e w1 ⟨rfl, rfl⟩
    by_cases hlt : i < M
    · have dlt : decide ((i : Int) < (M : Int)) = true := decide_eq_true (by omega)
      go_wp2_with fail
      refine (hdg.out _ rfl hlt).mono ?_
      rintro e w1 ⟨x, rfl, b1, hx⟩
      obtain ⟨W, hW⟩ : ∃ W : World, w1.drew = W := ⟨_, rfl⟩
      have bW : Below wo.heap.size wo W := by rw [← hW]; exact b1.drew
      have hBW : Below w.heap.size w W := hB.trans (bW.mono hB.size)
      have qoW := qo.out.below bW
      have qzW := qz.out.below bW
      have qrW := qr.out.below bW
      have hOW := hO.out.below bW
      have sW : w.heap.size + 3 ≤ W.heap.size := Nat.le_trans hBs bW.size
      have hdl : (digs K (2 * (R + d) + 1) i).length = 2 * (R + d) + 1 := digs_length _ _ _
      have hxW : IntsAt W x (digs K (2 * (R + d) + 1) i) := by rw [← hW]; exact hx.at
      have lX := hxW.len
      rw [hdl] at lX
      obtain ⟨pv, hsl, hP⟩ := hxW.mid d (2 * (R + d) + 1 - d) (by omega) (by omega)
      have hwin : ((digs K (2 * (R + d) + 1) i).take (2 * (R + d) + 1 - d)).drop d = ((digs K (2 * (R + d) + 1) i).drop d).take (2 * R + 1) := by rw [List.drop_take]; congr 1; omega
      rw [hwin] at hP
      have hwl : (((digs K (2 * (R + d) + 1) i).drop d).take (2 * R + 1)).length = 2 * R + 1 := by rw [List.length_take, List.length_drop]; omega
      have hws : Syms K (((digs K (2 * (R + d) + 1) i).drop d).take (2 * R + 1)) := syms_take (syms_drop (digs_syms hk1 _ _) d) _
      have hnl := numW_lt _ hws
      rw [hwl, ← hr.out.len] at hnl
      have hT := h.out.below hBW
      have iT := fun w' => hT.idx _ hnl w'
      have cT := hT.cellD _ hnl
      have htb := hlow.out _ hnl
      have hg := wideT_get (K := K) (R := R) (d := d) (T := T) (i := i) (by rw [hM.out]; exact hlt)
      have hwlen : (wideT K R d T).length = M := by rw [wideT_length]; exact hM.out
      have htk : (wideT K R d T).take (i + 1) = (wideT K R d T).take i ++ [(wideT K R d T).getD i 0] := by
        rw [List.take_add_one, List.getElem?_eq_getElem (by rw [hwlen]; exact hlt), List.getD_eq_getElem?_getD, List.getElem?_eq_getElem (by rw [hwlen]; exact hlt)]; rfl
      rw [hg] at htk
      have hval := ref_value K pv _ W hk1 hk4 hP hws (by rw [hwl]; omega)
      obtain ⟨pa, pn, pc, rfl⟩ := hP.shape
      obtain ⟨xa, xn, xc, rfl⟩ := hxW.shape
      have hsl2 : ∀ w', (Instr.slice 22 (.slice xa xn xc) (some (.int .i64 (d : Int))) (some (.int .i64 (((2 * (R + d) + 1 : Nat) : Int) - (d : Int)))) none).run Tryz.prog w' = .ok (.slice pa pn pc) w' := by
        intro w'; have := hsl w'; rwa [show (((2 * (R + d) + 1 - d : Nat) : Nat) : Int) = ((2 * (R + d) + 1 : Nat) : Int) - (d : Int) by omega] at this
      have hws9 : IntKind.i64.wrap (((2 * (R + d) + 1 : Nat) : Int) - (d : Int)) = ((2 * (R + d) + 1 : Nat) : Int) - (d : Int) := wrapK (by omega) (by omega)
      have hol : ((wideT K R d T).take i).length = i := by rw [List.length_take, hwlen]; omega
      generalize hn9 : ((2 * (R + d) + 1 : Nat) : Int) = n9 at *
      generalize T.getD (numW K (((digs K (2 * (R + d) + 1) i).drop d).take (2 * R + 1))) 0 = y at *
      generalize numW K (((digs K (2 * (R + d) + 1) i).drop d).take (2 * R + 1)) = N at *
      generalize valAt (.slice va vn vc) N = ta at *
      have hta := World.block_lt_of_cell? _ _ cT
      have hS : W.cell? ⟨w.heap.size, 0, none⟩ = some (.int .i64 K) ∧ W.cell? ⟨w.heap.size, 1, none⟩ = some (.int .i64 R) ∧ W.cell? ⟨w.heap.size, 2, none⟩ = some (.slice va vn vc) ∧ W.cell? ⟨w.heap.size + 2, 2, none⟩ = some (.slice oa on oc) ∧ W.cell? ta = some (.int .i64 y) := ⟨qrW.1.1, qrW.1.2.1, qrW.1.2.2, qoW.1.2.2, cT⟩
      have bl := belowAlloc W (.cells #[.int .i64 y] 3)
      have hlit := OwnI.lit W.heap.size W (Nat.le_refl _) [y] (by simp [maxLen]) #[.int .i64 y] rfl 1 rfl
      have hOl := hOW.below bl
      have hBl : w.heap.size + 3 ≤ (W.alloc (.cells #[.int .i64 y] 3)).heap.size := by simp; omega
      have qol := qoW.below bl
      have qzl := qzW.below bl
      have qrl := qrW.below bl
      have hS1 : (W.alloc (.cells #[.int .i64 y] 3)).cell? ⟨w.heap.size, 0, none⟩ = some (.int .i64 K) ∧ (W.alloc (.cells #[.int .i64 y] 3)).cell? ⟨w.heap.size, 1, none⟩ = some (.int .i64 R) ∧ (W.alloc (.cells #[.int .i64 y] 3)).cell? ⟨w.heap.size, 2, none⟩ = some (.slice va vn vc) ∧ (W.alloc (.cells #[.int .i64 y] 3)).cell? ⟨w.heap.size + 2, 2, none⟩ = some (.slice oa on oc) ∧ (W.alloc (.cells #[.int .i64 y] 3)).cell? ta = some (.int .i64 y) := ⟨qrl.1.1, qrl.1.2.1, qrl.1.2.2, qol.1.2.2, (bl.cell hta).trans cT⟩
      replace hval := Lib.hid hval
      replace hT := Lib.hid hT
      replace hOW := Lib.hid hOW
      replace hP := Lib.hid hP
      replace hxW := Lib.hid hxW
      replace hx := Lib.hid hx
      replace hws := Lib.hid hws
      replace hwl := Lib.hid hwl
      replace hwin := Lib.hid hwin
      replace hg := Lib.hid hg
      replace htk := Lib.hid htk
      replace hol := Lib.hid hol
      replace hdl := Lib.hid hdl
      replace hwlen := Lib.hid hwlen
      replace hW := Lib.hid hW
      replace hOl := Lib.hid hOl
      replace hlit := Lib.hid hlit
      replace qol := Lib.hid qol
      replace qzl := Lib.hid qzl
      replace qrl := Lib.hid qrl
      replace qoW := Lib.hid qoW
      replace qzW := Lib.hid qzW
      replace qrW := Lib.hid qrW
      replace hn9 := Lib.hid hn9
      clear hsl cT z0 z1 z2 hwd hdg
      go_upto_region 7 with fail
      refine wp_region_plan (fun w' => w'.cell? ⟨w.heap.size, 0, none⟩ = some (.int .i64 K) ∧ w'.cell? ⟨w.heap.size, 1, none⟩ = some (.int .i64 R) ∧ w'.cell? ⟨w.heap.size, 2, none⟩ = some (.slice va vn vc) ∧ w'.cell? ⟨w.heap.size + 2, 2, none⟩ = some (.slice oa on oc) ∧ w'.cell? ta = some (.int .i64 y)) 19 [(0, true), (1, true), (2, true), (3, true), (4, true), (5, true), (6, true), (7, true), (8, true), (9, true), (10, true), (11, true), (12, true), (13, false), (14, true), (15, true), (16, false), (17, false), (18, true)] (by kernel_rfl) (by kernel_rfl) ?_
      rw [hW.out]
      refine headY (v := ?_) (some 34) rfl rfl (Or.inl ⟨by rfl, ?_⟩) hS ?_
      rotate_left
      · rintro W' ⟨s0, s1, s2, s3, s4⟩; go_simp; try with_reducible rfl
      simp only [Act.put, List.setIfInBounds_toArray, List.set_cons_zero, List.set_cons_succ]
      refine headY (v := ?_) (some 35) rfl rfl (Or.inl ⟨by rfl, ?_⟩) hS ?_
      rotate_left
      · rintro W' ⟨s0, s1, s2, s3, s4⟩; go_simp; try with_reducible rfl
      simp only [Act.put, List.setIfInBounds_toArray, List.set_cons_zero, List.set_cons_succ]
      refine headY (v := ?_) (some 36) rfl rfl (Or.inl ⟨by rfl, ?_⟩) hS ?_
      rotate_left
      · rintro W' ⟨s0, s1, s2, s3, s4⟩; go_simp; try with_reducible rfl
      simp only [Act.put, List.setIfInBounds_toArray, List.set_cons_zero, List.set_cons_succ]
      refine headY (v := ?_) (some 37) rfl rfl (Or.inl ⟨by rfl, ?_⟩) hS ?_
      rotate_left
      · rintro W' ⟨s0, s1, s2, s3, s4⟩; go_simp; try with_reducible rfl
      simp only [Act.put, List.setIfInBounds_toArray, List.set_cons_zero, List.set_cons_succ]
      refine headY (v := ?_) (some 38) rfl rfl (Or.inl ⟨by rfl, ?_⟩) hS ?_
      rotate_left
      · rintro W' ⟨s0, s1, s2, s3, s4⟩; go_simp; try with_reducible rfl
      simp only [Act.put, List.setIfInBounds_toArray, List.set_cons_zero, List.set_cons_succ]
      refine headY (v := ?_) (some 39) rfl rfl (Or.inl ⟨by rfl, ?_⟩) hS ?_
      rotate_left
      · rintro W' ⟨s0, s1, s2, s3, s4⟩; go_simp; try with_reducible rfl
      simp only [Act.put, List.setIfInBounds_toArray, List.set_cons_zero, List.set_cons_succ]
      refine headY (v := ?_) (some 40) rfl rfl (Or.inl ⟨by rfl, ?_⟩) hS ?_
      rotate_left
      · rintro W' ⟨s0, s1, s2, s3, s4⟩; go_simp; try with_reducible rfl
      simp only [Act.put, List.setIfInBounds_toArray, List.set_cons_zero, List.set_cons_succ]
      refine headY (v := ?_) (some 41) rfl rfl (Or.inl ⟨by rfl, ?_⟩) hS ?_
      rotate_left
      · rintro W' ⟨s0, s1, s2, s3, s4⟩; go_simp; try with_reducible rfl
      simp only [Act.put, List.setIfInBounds_toArray, List.set_cons_zero, List.set_cons_succ]
      refine headY (v := ?_) (some 42) rfl rfl (Or.inl ⟨by rfl, ?_⟩) hS ?_
      rotate_left
      · rintro W' ⟨s0, s1, s2, s3, s4⟩; go_simp; try with_reducible rfl
      simp only [Act.put, List.setIfInBounds_toArray, List.set_cons_zero, List.set_cons_succ]
      refine headY (v := ?_) (some 43) rfl rfl (Or.inl ⟨by rfl, ?_⟩) hS ?_
      rotate_left
      · rintro W' ⟨s0, s1, s2, s3, s4⟩; go_simp; try with_reducible rfl
      simp only [Act.put, List.setIfInBounds_toArray, List.set_cons_zero, List.set_cons_succ]
      refine headY (v := ?_) (some 44) rfl rfl (Or.inl ⟨by rfl, ?_⟩) hS ?_
      rotate_left
      · rintro W' ⟨s0, s1, s2, s3, s4⟩; go_simp; try with_reducible rfl
      simp only [Act.put, List.setIfInBounds_toArray, List.set_cons_zero, List.set_cons_succ]
      refine headY (v := ?_) (some 45) rfl rfl (Or.inl ⟨by rfl, ?_⟩) hS ?_
      rotate_left
      · rintro W' ⟨s0, s1, s2, s3, s4⟩; go_simp; try with_reducible rfl
      simp only [Act.put, List.setIfInBounds_toArray, List.set_cons_zero, List.set_cons_succ]
      refine headY (v := ?_) (some 46) rfl rfl (Or.inl ⟨by rfl, ?_⟩) hS ?_
      rotate_left
      · rintro W' ⟨s0, s1, s2, s3, s4⟩; go_simp; try with_reducible rfl
      simp only [Act.put, List.setIfInBounds_toArray, List.set_cons_zero, List.set_cons_succ]
      refine headC rfl (fun KK hK => ?_)
      go_simp
      refine hval.out.mono ?_
      rintro e w5 ⟨rfl, rfl⟩
      refine hK _ _ hS ?_
      clear hK KK
      refine headY (v := ?_) (some 48) rfl rfl (Or.inl ⟨by rfl, ?_⟩) hS ?_
      rotate_left
      · rintro W' ⟨s0, s1, s2, s3, s4⟩; go_simp; try with_reducible rfl
      simp only [Act.put, List.setIfInBounds_toArray, List.set_cons_zero, List.set_cons_succ]
      refine headY (v := ?_) (some 49) rfl rfl (Or.inl ⟨by rfl, ?_⟩) hS ?_
      rotate_left
      · rintro W' ⟨s0, s1, s2, s3, s4⟩; go_simp; try with_reducible rfl
      simp only [Act.put, List.setIfInBounds_toArray, List.set_cons_zero, List.set_cons_succ]
      refine headC rfl (fun KK hK => ?_)
      go_simp
      refine hK _ _ hS1 ?_
      clear hK KK
      refine headC rfl (fun KK hK => ?_)
      refine step_appI rfl _ _ rfl (w.heap.size + 3) (.slice oa on oc) (.slice (some ⟨W.heap.size, 0, none⟩) 1 1) _ [y] rfl rfl hOl.out hlit.out.at (by rw [hol.out]; simp; omega) hBl ?_
      intro v9 w9 ho9 b9
      rw [← htk.out] at ho9
      obtain ⟨v9a, v9b, v9c, rfl⟩ := ho9.at.shape
      have s9 := b9.size
      have qo9 := qol.out.belowB b9 (by omega)
      have qz9 := qzl.out.belowB b9 (by omega)
      have qr9 := qrl.out.belowB b9 (by omega)
      have b99 : Below w.heap.size w w9 := (hBW.trans (bl.mono (by omega))).trans (b9.mono (by omega))
      replace ho9 := Lib.hid ho9
      have hS9 : w9.cell? ⟨w.heap.size, 0, none⟩ = some (.int .i64 K) ∧ w9.cell? ⟨w.heap.size, 1, none⟩ = some (.int .i64 R) ∧ w9.cell? ⟨w.heap.size, 2, none⟩ = some (.slice va vn vc) ∧ w9.cell? ⟨w.heap.size + 2, 2, none⟩ = some (.slice oa on oc) ∧ w9.cell? ta = some (.int .i64 y) := ⟨qr9.1.1, qr9.1.2.1, qr9.1.2.2, qo9.1.2.2, (b9.cell (by omega)).trans hS1.2.2.2.2⟩
      refine hK _ _ hS9 ?_
      clear hK KK
      refine headY (v := ?_) (some 52) rfl rfl (Or.inl ⟨by rfl, ?_⟩) hS9 ?_
      rotate_left
      · rintro W' ⟨s0, s1, s2, s3, s4⟩; go_simp; try with_reducible rfl
      simp only [Act.put, List.setIfInBounds_toArray]
      refine head0 ?_
      simp only [List.drop_succ_cons, List.drop_zero]
      obtain ⟨⟨o0, o1, o2⟩, g0, g1, g2⟩ := qo9
      have qo10 : Box3 (w9.setCell ⟨w.heap.size + 2, 2, none⟩ (.slice v9a v9b v9c)) (w.heap.size + 2) (.int .i64 K) (.int .i64 RR) (.slice v9a v9b v9c) := Box3.set2 ⟨⟨o0, o1, o2⟩, g0, g1, g2⟩ _
      have qz10 : Box3 (w9.setCell ⟨w.heap.size + 2, 2, none⟩ (.slice v9a v9b v9c)) (w.heap.size + 1) (.int .i64 0) (.int .i64 0) (.slice none 0 0) := qz9.far (by omega) _ _
      have qr10 : Box3 (w9.setCell ⟨w.heap.size + 2, 2, none⟩ (.slice v9a v9b v9c)) w.heap.size (.int .i64 K) (.int .i64 R) (.slice va vn vc) := qr9.far (by omega) _ _
      have ho10 := ho9.out.setBelowBase (a := ⟨w.heap.size + 2, 2, none⟩) (by simp) (.slice v9a v9b v9c)
      have b10 : Below w.heap.size w (w9.setCell ⟨w.heap.size + 2, 2, none⟩ (.slice v9a v9b v9c)) := b99.setCell (show w.heap.size ≤ (⟨w.heap.size + 2, 2, none⟩ : Addr).block from Nat.le_add_right _ _) _
      have s10 : w.heap.size + 3 ≤ (w9.setCell ⟨w.heap.size + 2, 2, none⟩ (.slice v9a v9b v9c)).heap.size := by simp [World.setCell]; omega
      replace qo10 := Lib.hid qo10
      replace qz10 := Lib.hid qz10
      replace qr10 := Lib.hid qr10
      replace qz9 := Lib.hid qz9
      replace qr9 := Lib.hid qr9
      replace ho10 := Lib.hid ho10
      clear hS hS1 hS9
      go_wp2
      refine NoPanic.normal ?_
      go_wp2
      go_roundw
      case measure => simp [intOf]; omega
      case rel => exact ⟨i + 1, by omega, by go_num, ⟨_, _, _, ho10.out, qo10.out⟩, qz10.out, qr10.out, b10, s10⟩
    · have dlt : decide ((i : Int) < (M : Int)) = false := decide_eq_false (by omega)
      have hfin : (wideT K R d T).take i = wideT K R d T := List.take_of_length_le (by rw [wideT_length, hM.out]; omega)
      have hO' := hO.out
      rw [hfin] at hO'
      have qo0 := qo.out
      have qz0 := qz.out
      obtain ⟨⟨o0, o1, o2⟩, -, -, -⟩ := qo0
      obtain ⟨⟨y0, y1, y2⟩, f0, f1, f2⟩ := qz0
      replace hO' := Lib.hid hO'
      replace hfin := Lib.hid hfin
      clear z0 z1 z2 hwd hdg
      go_wp2
      refine bodyPost_ret (v := .agg #[.int .i64 K, .int .i64 RR, .slice oa on oc]) (by simp [results, Tryz.results147, go_sem, y0, y1, y2]) rfl ⟨_, rfl, below_set3 hB (Nat.le_succ _) _ _ _, oa, on, oc, rfl, ?_⟩
      exact (((hO'.out.setBelowBase (a := ⟨w.heap.size + 1, 0, none⟩) (by simp) _).setBelowBase (a := ⟨w.heap.size + 1, 1, none⟩) (by simp) _).setBelowBase (a := ⟨w.heap.size + 1, 2, none⟩) (by simp) _).mono (by omega)

set_option maxHeartbeats 2000000 in
theorem ref_widen (K R d : Nat) (va : Option Addr) (vn vc : Nat) (T : List Int) (w : World) (h : IntsAt w (.slice va vn vc) T) (hr : RuleOk K R T) (hd : R + d ≤ 3) (RR : Int) (hRR : RR = ((R + d : Nat) : Int)) :
    Calls Tryz.prog 116 #[.agg #[.int .i64 K, .int .i64 R, .slice va vn vc], .int .i64 RR] w (Ret2 (fun x y w' => y = .agg #[.int .i64 0, .slice none 0 0, .slice none 0 0] ∧ ∃ a n c, x = .agg #[.int .i64 K, .int .i64 RR, .slice a n c] ∧ OwnI w.heap.size w' (.slice a n c) (wideT K R d T)) w) := by
  have b0 : Below w.heap.size w (((w.alloc (.cells #[.int .i64 K, .int .i64 R, .slice va vn vc] 24)).alloc (.cells #[.int .i64 0, .int .i64 0, .slice none 0 0] 24)).alloc (.cells #[.int .i64 0, .slice none 0 0, .slice none 0 0] 33)) := Below.step (belowAlloc w (.cells #[.int .i64 K, .int .i64 R, .slice va vn vc] 24)) (Below.step (belowAlloc _ (.cells #[.int .i64 0, .int .i64 0, .slice none 0 0] 24)) (belowAlloc _ (.cells #[.int .i64 0, .slice none 0 0, .slice none 0 0] 33)))
  have qr : Box3 (((w.alloc (.cells #[.int .i64 K, .int .i64 R, .slice va vn vc] 24)).alloc (.cells #[.int .i64 0, .int .i64 0, .slice none 0 0] 24)).alloc (.cells #[.int .i64 0, .slice none 0 0, .slice none 0 0] 33)) w.heap.size (.int .i64 K) (.int .i64 R) (.slice va vn vc) := by simp [Box3, go_sem]
  have qz : Box3 (((w.alloc (.cells #[.int .i64 K, .int .i64 R, .slice va vn vc] 24)).alloc (.cells #[.int .i64 0, .int .i64 0, .slice none 0 0] 24)).alloc (.cells #[.int .i64 0, .slice none 0 0, .slice none 0 0] 33)) (w.heap.size + 1) (.int .i64 0) (.int .i64 0) (.slice none 0 0) := by simp [Box3, go_sem]
  have qe : Box3 (((w.alloc (.cells #[.int .i64 K, .int .i64 R, .slice va vn vc] 24)).alloc (.cells #[.int .i64 0, .int .i64 0, .slice none 0 0] 24)).alloc (.cells #[.int .i64 0, .slice none 0 0, .slice none 0 0] 33)) (w.heap.size + 2) (.int .i64 0) (.slice none 0 0) (.slice none 0 0) := by simp [Box3, go_sem]
  have s0 : (((w.alloc (.cells #[.int .i64 K, .int .i64 R, .slice va vn vc] 24)).alloc (.cells #[.int .i64 0, .int .i64 0, .slice none 0 0] 24)).alloc (.cells #[.int .i64 0, .slice none 0 0, .slice none 0 0] 33)).heap.size = w.heap.size + 3 := by simp
  have hf := f05_fault 0 K R va vn vc T (((w.alloc (.cells #[.int .i64 K, .int .i64 R, .slice va vn vc] 24)).alloc (.cells #[.int .i64 0, .int .i64 0, .slice none 0 0] 24)).alloc (.cells #[.int .i64 0, .slice none 0 0, .slice none 0 0] 33)) (h.below b0)
  rw [hr.check] at hf
  have hR3 := hr.r3
  obtain ⟨W0, hW0⟩ : ∃ W : World, (((w.alloc (.cells #[.int .i64 K, .int .i64 R, .slice va vn vc] 24)).alloc (.cells #[.int .i64 0, .int .i64 0, .slice none 0 0] 24)).alloc (.cells #[.int .i64 0, .slice none 0 0, .slice none 0 0] 33)) = W := ⟨_, rfl⟩
  rw [hW0] at b0 qr qz qe s0 hf
  have hwide := fun (w' : World) (h' : IntsAt w' (.slice va vn vc) T) => ref_wide K R d va vn vc T w' h' hr hd RR hRR
  replace hf := Lib.hid hf
  replace hwide := Lib.hid hwide
  replace h := Lib.hid h
  replace hr := Lib.hid hr
  replace hW0 := Lib.hid hW0
  have e1 : (R : Int) ≤ RR := by omega
  have e2 : RR ≤ 3 := by omega
  have e3 : decide (RR < (R : Int)) = false := decide_eq_false (by omega)
  have e4 : decide ((3 : Int) < RR) = false := decide_eq_false (by omega)
  clear hRR
  have qr0 := qr
  obtain ⟨⟨z0, z1, z2⟩, -, -, -⟩ := qr0
  go_enter Tryz.func116, Tryz.ntmps116
  go_upto_region 1 with fail
  rw [hW0.out]
  go_wp2_with fail
  refine hf.out.mono ?_
  rintro e w1 ⟨x, rfl, b1, he⟩
  obtain rfl : x = .agg #[.int .i64 0, .slice none 0 0, .slice none 0 0] := he
  obtain ⟨be, ⟨⟨y0, y1, y2⟩, -, -, -⟩⟩ := err_box8 w1 (.int .i64 0) (.slice none 0 0) (.slice none 0 0)
  have c1e := Below.step b1 be
  obtain ⟨W2, hW2⟩ : ∃ W2 : World, w1.alloc (.cells #[.int .i64 0, .slice none 0 0, .slice none 0 0] 33) = W2 := ⟨_, rfl⟩
  rw [hW2] at be c1e y0 y1 y2
  replace hW2 := Lib.hid hW2
  clear z0 z1 z2
  go_upto_region 2 with fail
  rw [hW2.out]
  go_wp2_with fail
  refine (err_bad _ _ _ _ _ _ _ W2).mono ?_
  rintro e w3 ⟨_, rfl, b3, rfl⟩
  rw [show ((0 : Int) != 0) = false from rfl]
  have c3 := Below.step c1e b3
  obtain ⟨⟨z0, z1, z2⟩, -, -, -⟩ := qr.below c3
  clear y0 y1 y2
  have b03 := Below.step b0 c3
  go_wp2_with fail
  refine (hwide.out w3 (h.out.below b03)).mono ?_
  rintro e w4 ⟨x, rfl, b4, a, n, c, rfl, ho⟩
  have c4 := Below.step c3 b4
  have b04 := Below.step b03 b4
  obtain ⟨⟨z0', z1', z2'⟩, f0, f1, f2⟩ := qz.below c4
  obtain ⟨⟨y0, y1, y2⟩, g0, g1, g2⟩ := qe.below c4
  have s3 := c3.size
  replace ho := Lib.hid ho
  clear z0 z1 z2
  go_wp2
  refine bodyPost_ret (v := .tuple #[.agg #[.int .i64 K, .int .i64 RR, .slice a n c], .agg #[.int .i64 0, .slice none 0 0, .slice none 0 0]]) (by simp [results, Tryz.results116, go_sem, z0', z1', z2', y0, y1, y2]) rfl ⟨_, _, rfl, below_set3 (below_set3 b04 (Nat.le_succ _) _ _ _) (by omega) _ _ _, rfl, a, n, c, rfl, ?_⟩
  refine OwnI.mono ((((((ho.out.setBelowBase (a := ⟨w.heap.size + 1, 0, none⟩) ?_ _).setBelowBase (a := ⟨w.heap.size + 1, 1, none⟩) ?_ _).setBelowBase (a := ⟨w.heap.size + 1, 2, none⟩) ?_ _).setBelowBase (a := ⟨w.heap.size + 2, 0, none⟩) ?_ _).setBelowBase (a := ⟨w.heap.size + 2, 1, none⟩) ?_ _).setBelowBase (a := ⟨w.heap.size + 2, 2, none⟩) ?_ _) ?_ <;> (try show _ < w3.heap.size) <;> (try simp only []) <;> omega

set_option maxHeartbeats 2000000 in
theorem ref_working (K R : Nat) (va : Option Addr) (vn vc : Nat) (T : List Int) (w : World) (h : IntsAt w (.slice va vn vc) T) (hr : RuleOk K R T) :
    Calls Tryz.prog 66 #[.agg #[.int .i64 K, .int .i64 R, .slice va vn vc]] w (Ret1 (fun x w' => ∃ a n c, x = .agg #[.int .i64 K, .int .i64 (wkR R), .slice a n c] ∧ IntsAt w' (.slice a n c) (wkT K R T)) w) := by
  have b0 : Below w.heap.size w ((w.alloc (.cells #[.int .i64 K, .int .i64 R, .slice va vn vc] 24)).alloc (.cells #[.int .i64 0, .int .i64 0, .slice none 0 0] 24)) := Below.step (belowAlloc w (.cells #[.int .i64 K, .int .i64 R, .slice va vn vc] 24)) (belowAlloc _ (.cells #[.int .i64 0, .int .i64 0, .slice none 0 0] 24))
  have qr : Box3 ((w.alloc (.cells #[.int .i64 K, .int .i64 R, .slice va vn vc] 24)).alloc (.cells #[.int .i64 0, .int .i64 0, .slice none 0 0] 24)) w.heap.size (.int .i64 K) (.int .i64 R) (.slice va vn vc) := by simp [Box3, go_sem]
  have qz : Box3 ((w.alloc (.cells #[.int .i64 K, .int .i64 R, .slice va vn vc] 24)).alloc (.cells #[.int .i64 0, .int .i64 0, .slice none 0 0] 24)) (w.heap.size + 1) (.int .i64 0) (.int .i64 0) (.slice none 0 0) := by simp [Box3, go_sem]
  have s0 : ((w.alloc (.cells #[.int .i64 K, .int .i64 R, .slice va vn vc] 24)).alloc (.cells #[.int .i64 0, .int .i64 0, .slice none 0 0] 24)).heap.size = w.heap.size + 2 := by simp
  have hlow : ∀ j, j < T.length → (valAt (.slice va vn vc) j).block < w.heap.size := fun j hj => World.block_lt_of_cell? _ _ (h.cellD j hj)
  by_cases hR : R = 0
  · subst hR
    clear b0 qr qz s0
    have b0 : Below w.heap.size w ((w.alloc (.cells #[.int .i64 K, .int .i64 0, .slice va vn vc] 24)).alloc (.cells #[.int .i64 0, .int .i64 0, .slice none 0 0] 24)) := Below.step (belowAlloc w (.cells #[.int .i64 K, .int .i64 0, .slice va vn vc] 24)) (belowAlloc _ (.cells #[.int .i64 0, .int .i64 0, .slice none 0 0] 24))
    have qr : Box3 ((w.alloc (.cells #[.int .i64 K, .int .i64 0, .slice va vn vc] 24)).alloc (.cells #[.int .i64 0, .int .i64 0, .slice none 0 0] 24)) w.heap.size (.int .i64 K) (.int .i64 0) (.slice va vn vc) := by simp [Box3, go_sem]
    have qz : Box3 ((w.alloc (.cells #[.int .i64 K, .int .i64 0, .slice va vn vc] 24)).alloc (.cells #[.int .i64 0, .int .i64 0, .slice none 0 0] 24)) (w.heap.size + 1) (.int .i64 0) (.int .i64 0) (.slice none 0 0) := by simp [Box3, go_sem]
    have s0 : ((w.alloc (.cells #[.int .i64 K, .int .i64 0, .slice va vn vc] 24)).alloc (.cells #[.int .i64 0, .int .i64 0, .slice none 0 0] 24)).heap.size = w.heap.size + 2 := by simp
    obtain ⟨W0, hW0⟩ : ∃ W : World, ((w.alloc (.cells #[.int .i64 K, .int .i64 0, .slice va vn vc] 24)).alloc (.cells #[.int .i64 0, .int .i64 0, .slice none 0 0] 24)) = W := ⟨_, rfl⟩
    have hwd := fun (w' : World) (h' : IntsAt w' (.slice va vn vc) T) => ref_widen K 0 1 va vn vc T w' h' hr (by decide) 1 rfl
    rw [hW0] at b0 qr qz s0
    replace hwd := Lib.hid hwd
    replace h := Lib.hid h
    replace hr := Lib.hid hr
    replace hlow := Lib.hid hlow
    replace hW0 := Lib.hid hW0
    have qr0 := qr
    obtain ⟨⟨z0, z1, z2⟩, -, -, -⟩ := qr0
    go_enter Tryz.func66, Tryz.ntmps66
    go_upto_region 1 with fail
    rw [hW0.out]
    go_wp2_with fail
    refine (hwd.out W0 (h.out.below b0)).mono ?_
    rintro e w1 ⟨_, _, rfl, b1, rfl, a, n, c, rfl, ho⟩
    have c1 := Below.step b1 (Below.step (belowAlloc w1 (.cells #[.int .i64 K, .int .i64 1, .slice a n c] 24)) (belowAlloc _ (.cells #[.int .i64 0, .slice none 0 0, .slice none 0 0] 33)))
    have qx : Box3 ((w1.alloc (.cells #[.int .i64 K, .int .i64 1, .slice a n c] 24)).alloc (.cells #[.int .i64 0, .slice none 0 0, .slice none 0 0] 33)) w1.heap.size (.int .i64 K) (.int .i64 1) (.slice a n c) := by simp [Box3, go_sem]
    obtain ⟨⟨y0, y1, y2⟩, f0, f1, f2⟩ := qz.below c1
    have ho2 := (ho.alloc (.cells #[.int .i64 K, .int .i64 1, .slice a n c] 24)).alloc (.cells #[.int .i64 0, .slice none 0 0, .slice none 0 0] 33)
    have bE := Below.step b0 c1
    clear z0 z1 z2
    replace ho := Lib.hid ho
    replace ho2 := Lib.hid ho2
    go_wp2
    refine bodyPost_ret (v := .agg #[.int .i64 K, .int .i64 1, .slice a n c]) (by simp [results, Tryz.results66, go_sem, y0, y1, y2]) rfl ⟨_, rfl, below_set3 bE (Nat.le_succ _) _ _ _, a, n, c, rfl, ?_⟩
    refine OwnI.at (B := w.heap.size + 2) ?_
    rw [s0] at ho2
    exact ((ho2.out.setBelowBase (a := ⟨w.heap.size + 1, 0, none⟩) (by simp) _).setBelowBase (a := ⟨w.heap.size + 1, 1, none⟩) (by simp) _).setBelowBase (a := ⟨w.heap.size + 1, 2, none⟩) (by simp) _
  · have e1 : decide ((0 : Int) < (R : Int)) = true := decide_eq_true (by omega)
    have hk : wkR R = R := if_neg hR
    have hkT : wkT K R T = T := if_neg hR
    obtain ⟨W0, hW0⟩ : ∃ W : World, ((w.alloc (.cells #[.int .i64 K, .int .i64 R, .slice va vn vc] 24)).alloc (.cells #[.int .i64 0, .int .i64 0, .slice none 0 0] 24)) = W := ⟨_, rfl⟩
    rw [hW0] at b0 qr qz s0
    rw [hk, hkT]
    have b1 := below_set3 b0 (Nat.le_succ _) (.int .i64 K) (.int .i64 R) (.slice va vn vc)
    have hE := h.below b1
    replace h := Lib.hid h
    replace hE := Lib.hid hE
    replace hr := Lib.hid hr
    replace hlow := Lib.hid hlow
    replace hW0 := Lib.hid hW0
    clear hk hkT
    obtain ⟨⟨z0, z1, z2⟩, -, -, -⟩ := qr
    obtain ⟨⟨y0, y1, y2⟩, f0, f1, f2⟩ := qz
    go_enter Tryz.func66, Tryz.ntmps66
    go_upto_region 1 with fail
    rw [hW0.out]
    go_wp2
    refine bodyPost_ret (v := .agg #[.int .i64 K, .int .i64 R, .slice va vn vc]) (by simp [results, Tryz.results66, go_sem, y0, y1, y2]) rfl ⟨_, rfl, b1, va, vn, vc, rfl, hE.out⟩

theorem ref_count (K R : Nat) (va : Option Addr) (vn vc : Nat) (w : World) (hk1 : 1 ≤ K) (hk4 : K ≤ 4) (hR3 : R ≤ 3) :
    Calls Tryz.prog 41 #[.agg #[.int .i64 K, .int .i64 R, .slice va vn vc]] w (Ret1 (fun x _ => x = .int .i64 (pw K (2 * R) : Nat)) w) := by
  have b0 := belowAlloc w (.cells #[.int .i64 K, .int .i64 R, .slice va vn vc] 24)
  have hp := ref_power K (2 * (R : Int)) K (2 * R) (w.alloc (.cells #[.int .i64 K, .int .i64 R, .slice va vn vc] 24)) rfl (by omega) hk1 hk4 (by omega)
  replace hp := Lib.hid hp
  go_enter Tryz.func41, Tryz.ntmps41
  go_wp2_with fail
  refine hp.out.mono ?_
  rintro e w1 ⟨rfl, rfl⟩
  go_wp2
  go_ret
  exact ⟨_, rfl, b0, rfl⟩
end Go.Proofs.YtilpckngghffoaaGreatDoor

namespace Go.Proofs.YtilpckngghffoaaGreatDoor
open Go.RowKit

/-- A row: its elements' type, how many cells each has, the slice value, how many elements, the cells. -/
structure Row where
  E : TypeId
  size : Nat
  v : Value
  n : Nat
  xs : List Value
def Row.own (B : Nat) (w : World) (r : Row) : Prop := w.ownsRow B r.E r.size r.v r.n r.xs
abbrev Names := Nat × Nat → Option Row
/-- The rows lie where they lie, no two in one block. -/
def Rows (B : Nat) (w : World) (f : Names) : Prop :=
  (∀ i r, f i = some r → r.own B w) ∧ (∀ i j r s, f i = some r → f j = some s → i ≠ j → r.v.ownBlock = none ∨ r.v.ownBlock ≠ s.v.ownBlock)
def upd (f : Names) (i : Nat × Nat) (r : Option Row) : Names := fun j => if j = i then r else f j
theorem upd_same (f : Names) (i : Nat × Nat) (r : Option Row) : upd f i r i = r := by simp [upd]
theorem upd_ne (f : Names) {i j : Nat × Nat} (r : Option Row) (h : j ≠ i) : upd f i r j = f j := by simp [upd, h]

theorem Rows.below {B : Nat} {w w' : World} {f : Names} (h : Rows B w f) (hb : Below w.heap.size w w') : Rows B w' f :=
  ⟨fun i r hi => by
    have ho := h.1 i r hi
    refine ⟨ho.1, ?_⟩
    rcases ho.2 with h2 | ⟨g, cap, cur, e, hB, hg, rest⟩
    · exact .inl h2
    · exact .inr ⟨g, cap, cur, e, hB, by rw [hb.block g (Array.getElem?_eq_some_iff.1 hg).1]; exact hg, rest⟩, h.2⟩
theorem Rows.drop {B : Nat} {w : World} {f : Names} (h : Rows B w f) (i : Nat × Nat) : Rows B w (upd f i none) :=
  ⟨fun j r hj => by
    by_cases e : j = i
    · subst e; rw [upd_same] at hj; cases hj
    · rw [upd_ne _ _ e] at hj; exact h.1 j r hj, fun j k r s hj hk hne => by
    by_cases e : j = i
    · subst e; rw [upd_same] at hj; cases hj
    by_cases e' : k = i
    · subst e'; rw [upd_same] at hk; cases hk
    rw [upd_ne _ _ e] at hj
    rw [upd_ne _ _ e'] at hk
    exact h.2 j k r s hj hk hne⟩
theorem Rows.lt {B : Nat} {w : World} {f : Names} (h : Rows B w f) {i : Nat × Nat} {r : Row} (hi : f i = some r) : ∀ k, r.v.ownBlock = some k → B ≤ k ∧ k < w.heap.size := World.ownsRow.lt (h.1 i r hi)

/-- What was done in row i alone: the row is now r'; it lies where it lay, or in a new block. -/
theorem Rows.grown {B : Nat} {w w' : World} {f : Names} {i : Nat × Nat} {r r' : Row} (h : Rows B w f) (hi : f i = some r) (hg : w.grownBy w' r.v.ownBlock) (ho : r'.own B w') (hb : r'.v.ownBlock = r.v.ownBlock ∨ ∃ k, r'.v.ownBlock = some k ∧ w.heap.size ≤ k) :
    Rows B w' (upd f i (some r')) := by
  have far : ∀ j s, f j = some s → j ≠ i → s.v.ownBlock = none ∨ s.v.ownBlock ≠ r'.v.ownBlock := fun j s hj hne => by
    rcases hb with e | ⟨k, e, hk⟩
    · rw [e]; exact h.2 j i s r hj hi hne
    · cases hs : s.v.ownBlock with
      | none => exact .inl rfl
      | some m =>
        have := (h.lt hj m hs).2
        right; rw [e]; intro e2; injection e2 with e2; omega
  refine ⟨fun j s hj => ?_, fun j k s t hj hk hne => ?_⟩
  · by_cases e : j = i
    · subst e; rw [upd_same] at hj; cases hj; exact ho
    · rw [upd_ne _ _ e] at hj
      exact World.ownsRow.kept (h.1 j s hj) hg (h.2 j i s r hj hi e)
  · by_cases e : j = i
    · subst e
      rw [upd_same] at hj; cases hj
      rw [upd_ne _ _ (Ne.symm hne)] at hk
      rcases far k t hk (Ne.symm hne) with e2 | e2
      · cases hr : r'.v.ownBlock with
        | none => exact .inl rfl
        | some m => right; rw [e2]; simp
      · exact .inr (Ne.symm e2)
    · rw [upd_ne _ _ e] at hj
      by_cases e' : k = i
      · subst e'; rw [upd_same] at hk; cases hk
        exact far j s hj e
      · rw [upd_ne _ _ e'] at hk
        exact h.2 j k s t hj hk hne

/-- A new row, in a new block (or nil). -/
theorem Rows.fresh {B : Nat} {w w' : World} {f : Names} {i : Nat × Nat} {r' : Row} (h : Rows B w f) (hg : w.grownBy w' none) (ho : r'.own B w') (hb : ∀ k, r'.v.ownBlock = some k → w.heap.size ≤ k) :
    Rows B w' (upd f i (some r')) := by
  refine ⟨fun j s hj => ?_, fun j k s t hj hk hne => ?_⟩
  · by_cases e : j = i
    · subst e; rw [upd_same] at hj; cases hj; exact ho
    · rw [upd_ne _ _ e] at hj
      exact World.ownsRow.kept (h.1 j s hj) hg (by cases s.v.ownBlock <;> simp)
  · by_cases e : j = i
    · subst e
      rw [upd_same] at hj; cases hj
      rw [upd_ne _ _ (Ne.symm hne)] at hk
      cases hr : r'.v.ownBlock with
      | none => exact .inl rfl
      | some m =>
        right; intro e2
        have h1 := hb m hr
        have h2 := (h.lt hk m e2.symm).2
        omega
    · rw [upd_ne _ _ e] at hj
      by_cases e' : k = i
      · subst e'; rw [upd_same] at hk; cases hk
        cases hs : s.v.ownBlock with
        | none => exact .inl rfl
        | some m =>
          right; intro e2
          have h1 := hb m e2.symm
          have h2 := (h.lt hj m hs).2
          omega
      · rw [upd_ne _ _ e'] at hk
        exact h.2 j k s t hj hk hne

theorem below_grows {w w' : World} (h : Below w.heap.size w w') (row : Option Nat) : w.grownBy w' row := ⟨h.os, h.tape, h.output, h.size, fun k hk _ => h.block k hk⟩
/-- A new row, made by a call that keeps what was. -/
theorem Rows.add {B : Nat} {w w' : World} {f : Names} {i : Nat × Nat} {r' : Row} (h : Rows B w f) (hb : Below w.heap.size w w') (ho : r'.own B w') (hn : ∀ k, r'.v.ownBlock = some k → w.heap.size ≤ k) : Rows B w' (upd f i (some r')) :=
  h.fresh (below_grows hb none) ho hn

/-- The block of a row that is not nil. -/
theorem Row.own.shape {B : Nat} {w : World} {r : Row} (h : r.own B w) (hn : 0 < r.n) : ∃ g cap, r.v = .slice (some ⟨g, 0, none⟩) r.n cap ∧ B ≤ g := by
  rcases h.2 with ⟨_, h0⟩ | ⟨g, cap, cur, e, hB, _⟩
  · omega
  · exact ⟨g, cap, e, hB⟩
/-- A store into cell k of row i. -/
theorem Rows.set {B : Nat} {w : World} {f : Names} {i : Nat × Nat} {r : Row} (h : Rows B w f) (hi : f i = some r) {g cap : Nat} (hv : r.v = .slice (some ⟨g, 0, none⟩) r.n cap) (k : Nat) (y : Value) :
    Rows B (w.setCell ⟨g, k, none⟩ y) (upd f i (some { r with xs := r.xs.set k y })) := by
  have ho := h.1 i r hi
  unfold Row.own at ho
  rw [hv] at ho
  have hs := World.ownsRow.stored ho k y
  refine h.grown hi (by rw [hv]; exact hs.2) ?_ (.inl rfl)
  unfold Row.own
  rw [hv]
  exact hs.1
theorem Rows.cell {B : Nat} {w : World} {f : Names} {i : Nat × Nat} {r : Row} (h : Rows B w f) (hi : f i = some r) {g cap : Nat} (hv : r.v = .slice (some ⟨g, 0, none⟩) r.n cap) (k : Nat) (hk : k < r.n * r.size) : w.cell? ⟨g, k, none⟩ = r.xs[k]? := by
  have ho := h.1 i r hi
  unfold Row.own at ho
  rw [hv] at ho
  exact ho.cellAt k hk
theorem Rows.frozen {B : Nat} {w : World} {f : Names} {i : Nat × Nat} {r : Row} (h : Rows B w f) (hi : f i = some r) {g cap : Nat} (hv : r.v = .slice (some ⟨g, 0, none⟩) r.n cap) (k : Nat) : w.frozen? ⟨g, k, none⟩ = false := by
  have ho := h.1 i r hi
  unfold Row.own at ho
  rw [hv] at ho
  exact ho.frozenAt k
theorem Rows.congr {B : Nat} {w : World} {f f' : Names} (h : Rows B w f) (e : ∀ i, f' i = f i) : Rows B w f' := by
  rw [show f' = f from funext e]; exact h
theorem Rows.drew {B : Nat} {w : World} {f : Names} (h : Rows B w f) : Rows B w.drew f := h
theorem Rows.drewN {B : Nat} {w : World} {f : Names} (h : Rows B w f) (n : Nat) : Rows B (w.drewN n) f := h

/-- A row of ints, of whatever one-cell values. -/
abbrev rowI (v : Value) (xs : List Int) : Row := ⟨3, 1, v, xs.length, xs.map (Value.int .i64)⟩
abbrev rowV (E : TypeId) (v : Value) (vs : List Value) : Row := ⟨E, 1, v, vs.length, vs⟩
theorem Rows.ownI {B : Nat} {w : World} {f : Names} {i : Nat × Nat} {v : Value} {xs : List Int} (h : Rows B w f) (hi : f i = some (rowI v xs)) : OwnI B w v xs := h.1 i _ hi
theorem Rows.ownV {B : Nat} {w : World} {f : Names} {i : Nat × Nat} {E : TypeId} {v : Value} {vs : List Value} (h : Rows B w f) (hi : f i = some (rowV E v vs)) : OwnV E B w v vs := h.1 i _ hi
/-- A store into element k of a row of ints. -/
theorem Rows.setI {B : Nat} {w : World} {f : Names} {i : Nat × Nat} {v : Value} {xs : List Int} (h : Rows B w f) (hi : f i = some (rowI v xs)) (k : Nat) (hk : k < xs.length) (y : Int) :
    Rows B (w.setCell (valAt v k) (.int .i64 y)) (upd f i (some (rowI v (xs.set k y)))) := by
  have ho := h.ownI hi
  have hs := ho.set k hk y
  refine h.grown hi ?_ hs (.inl rfl)
  have := ho.toV.setGrown k (by simpa using hk) (.int .i64 y)
  exact this
theorem Rows.setV {B : Nat} {w : World} {f : Names} {i : Nat × Nat} {E : TypeId} {v : Value} {vs : List Value} (h : Rows B w f) (hi : f i = some (rowV E v vs)) (k : Nat) (hk : k < vs.length) (y : Value) :
    Rows B (w.setCell (valAt v k) y) (upd f i (some (rowV E v (vs.set k y)))) := by
  have ho := h.ownV hi
  refine h.grown hi (ho.setGrown k hk y) ?_ (.inl rfl)
  have := ho.set k hk y
  unfold Row.own
  exact this
end Go.Proofs.YtilpckngghffoaaGreatDoor

namespace Go.Proofs.YtilpckngghffoaaGreatDoor
open Go.RowKit
set_option maxRecDepth 100000

/-- The first n values of a function. -/
def tab (n : Nat) (f : Nat → Nat) : List Int := (List.range n).map fun (v : Nat) => (f v : Int)
def tabI (n : Nat) (f : Nat → Int) : List Int := (List.range n).map f
theorem tab_len (n : Nat) (f : Nat → Nat) : (tab n f).length = n := by simp [tab]
theorem tabI_len (n : Nat) (f : Nat → Int) : (tabI n f).length = n := by simp [tabI]
theorem tabI_get (n : Nat) (f : Nat → Int) (v : Nat) (hv : v < n) : (tabI n f).getD v 0 = f v := by simp [tabI, List.getD, hv]
theorem tab_get (n : Nat) (f : Nat → Nat) (v : Nat) (hv : v < n) : (tab n f).getD v 0 = (f v : Int) := by simp [tab, List.getD, hv]
theorem tabI_upd (n : Nat) (f : Nat → Int) (v : Nat) (a : Int) : (tabI n f).set v a = tabI n (updN f v a) := by
  apply List.ext_getElem
  · simp [tabI]
  · intro i h1 h2
    simp only [tabI, List.getElem_set, List.getElem_map, List.getElem_range, updN]
    by_cases e : v = i
    · rw [if_pos e, if_pos e.symm]
    · rw [if_neg e, if_neg (fun q => e q.symm)]
theorem tab_upd (n : Nat) (f : Nat → Nat) (v a : Nat) : (tab n f).set v (a : Int) = tab n (updN f v a) := by
  have h := tabI_upd n (fun x => (f x : Int)) v a
  show (tabI n fun x => (f x : Int)).set v (a : Int) = _
  rw [h]
  unfold tab tabI
  apply List.map_congr_left
  intro x _
  by_cases e : x = v
  · subst e; rw [updN_same, updN_same]
  · rw [updN_other _ _ _ e, updN_other _ _ _ e]
/-- The stacks' cells. -/
def flatF (calls : List Nat) (idx : Nat → Nat) : List Value := calls.reverse.flatMap fun (v : Nat) => [.int .i64 (v : Int), .int .i64 (idx v : Int)]
def upI (l : List Nat) : List Int := l.reverse.map fun (v : Nat) => (v : Int)
theorem upI_len (l : List Nat) : (upI l).length = l.length := by simp [upI]
theorem upI_cons (v : Nat) (l : List Nat) : upI (v :: l) = upI l ++ [(v : Int)] := by simp [upI]
theorem flatF_cons (v : Nat) (l : List Nat) (idx : Nat → Nat) : flatF (v :: l) idx = flatF l idx ++ [.int .i64 (v : Int), .int .i64 (idx v : Int)] := by simp [flatF]
theorem flatF_len (l : List Nat) (idx : Nat → Nat) : (flatF l idx).length = l.length * 2 := by
  induction l with
  | nil => rfl
  | cons v l ih => rw [flatF_cons, List.length_append, ih]; simp; omega
theorem flatF_congr {l : List Nat} {f g : Nat → Nat} (h : ∀ v ∈ l, f v = g v) : flatF l f = flatF l g := by
  induction l with
  | nil => rfl
  | cons v l ih => rw [flatF_cons, flatF_cons, ih fun x hx => h x (List.mem_cons_of_mem _ hx), h v List.mem_cons_self]

/-- A row one element shorter. -/
theorem Rows.shrink {B : Nat} {w : World} {f : Names} {i : Nat × Nat} {E : TypeId} {size m g cap : Nat} {xs : List Value} (h : Rows B w f) (hi : f i = some ⟨E, size, .slice (some ⟨g, 0, none⟩) (m + 1) cap, m + 1, xs⟩) :
    Rows B w (upd f i (some ⟨E, size, .slice (some ⟨g, 0, none⟩) m cap, m, xs.take (m * size)⟩)) := by
  refine h.grown hi ⟨rfl, rfl, rfl, Nat.le_refl _, fun _ _ _ => rfl⟩ ?_ (.inl rfl)
  have ho : w.ownsRow B E size (.slice (some ⟨g, 0, none⟩) (m + 1) cap) (m + 1) xs := h.1 i _ hi
  have hl := ho.1
  have hms : m * size ≤ (m + 1) * size := Nat.mul_le_mul_right _ (by omega)
  rcases ho.2 with ⟨e, _⟩ | ⟨g', cap', cur, e, hB, hg, hn, hm, hs, ht⟩
  · cases e
  · injection e with e1 e2 e3
    injection e1 with e1
    injection e1 with e1
    subst e1; subst e3
    refine ⟨by show (xs.take (m * size)).length = m * size; rw [List.length_take, hl]; omega, .inr ⟨g, cap, cur, rfl, hB, hg, by show m ≤ cap; omega, hm, hs, ?_⟩⟩
    show cur.toList.take (m * size) = xs.take (m * size)
    rw [← ht, List.take_take, Nat.min_eq_left hms]

/-- append of one frame. -/
theorem run_appF (w : World) (B : Nat) (ty : TypeId) (v : Value) (m : Nat) (xs : List Value) (hown : w.ownsRow B 233 2 v m xs)
    (b : Nat) (y0 y1 : Int) (hys : ∀ (j : Nat) (u : Value), ([Value.int .i64 y0, .int .i64 y1] : List Value)[j]? = some u → w.cell? ((⟨b, 0, none⟩ : Addr).add j) = some u) (hlen : m < 1000000) (hB : B ≤ w.heap.size) :
    ∃ g n' c' w', (Builtin.append_ #[211, 211] ty #[v, .slice (some ⟨b, 0, none⟩) 1 1]).run Tryz.prog w = .ok (.slice (some ⟨g, 0, none⟩) n' c') w' ∧ n' = m + 1 ∧ w'.ownsRow B 233 2 (.slice (some ⟨g, 0, none⟩) (m + 1) c') (m + 1) (xs ++ [.int .i64 y0, .int .i64 y1]) ∧
      ((v.ownBlock = some g ∧ w.grownBy w' v.ownBlock) ∨ (g = w.heap.size ∧ w.grownBy w' none)) := by
  have ht : Tryz.prog.underlying 211 = some (.slice 233) := by kernel_rfl
  obtain ⟨i, hi, hz0, hz1, hz2⟩ : ∃ i, Tryz.prog.info? 233 = some i ∧ i.zero = some (.agg #[.int .i64 0, .int .i64 0]) ∧ i.size = 2 ∧ i.bytes = 16 := by
    have : (Tryz.prog.info? 233).map (fun i => (i.zero, i.size, i.bytes)) = some (some (.agg #[.int .i64 0, .int .i64 0]), 2, 16) := by kernel_rfl
    cases h : Tryz.prog.info? 233 with
    | none => rw [h] at this; cases this
    | some i => rw [h] at this; simp at this; exact ⟨i, rfl, this.1, this.2.1, this.2.2⟩
  have hzc : (Value.agg #[.int .i64 0, .int .i64 0]).cells = #[.int .i64 0, .int .i64 0] := by rfl
  have hxl := hown.1
  have big : ∀ (old : Nat), old < m + 1 →
      (w.drew.alloc (.cells (xs.toArray ++ [Value.int .i64 y0, .int .i64 y1].toArray ++ Builtin.zeroCells (Value.agg #[.int .i64 0, .int .i64 0]).cells (grownCap w (m + 1) old 233 - (m + 1))) 233)).ownsRow B 233 2 (.slice (some ⟨w.heap.size, 0, none⟩) (m + 1) (grownCap w (m + 1) old 233)) (m + 1) (xs ++ [.int .i64 y0, .int .i64 y1]) := by
    intro old ho
    have hge := grownCap_ge w (m + 1) old 233
    have hcm : grownCap w (m + 1) old 233 ≤ maxLen := grownCap_le_maxLen w _ old 233 (by unfold maxLen; omega)
    refine ⟨by simp [hxl]; omega, .inr ⟨w.heap.size, _, _, rfl, hB, heap_alloc_new w.drew _, hge, hcm, ?_, ?_⟩⟩
    · simp only [Array.size_append, List.size_toArray, size_zeroCells, hzc, hxl]
      simp
      omega
    · simp only [Array.toList_append]
      exact List.take_left' (by simp [hxl]; omega)
  have grw : ∀ (oo : Obj), w.grownBy (w.drew.alloc oo) none := fun oo => ⟨rfl, rfl, rfl, by simp, fun k hk _ => Below.heap_alloc w.drew oo k hk⟩
  rcases hown.2 with ⟨rfl, hn⟩ | ⟨g, cap, cur, rfl, hbg, hg, hnc, hcm, hcs, htake⟩
  · subst hn
    obtain rfl := List.length_eq_zero_iff.1 (show xs.length = 0 by omega)
    have hr := run_append_nil (P := Tryz.prog) w 211 ty 233 i _ ht hi hz0 ⟨b, 0, none⟩ 1 1 [.int .i64 y0, .int .i64 y1] (by rw [hz1]; rfl) hys (by omega) (by omega) (by rw [hz2]; decide)
    have hbg := big 0 (by omega)
    simp only [List.nil_append, Array.empty_append, Nat.zero_add] at hbg hr
    exact ⟨_, _, _, _, hr, rfl, by simpa using hbg, .inr ⟨rfl, grw _⟩⟩
  · by_cases hroom : m + 1 ≤ cap
    · have hr := run_append_room (P := Tryz.prog) w 211 ty 233 i ht hi g m cap cur hg ⟨b, 0, none⟩ 1 1 [.int .i64 y0, .int .i64 y1] (by rw [hz1]; rfl) hys (by simp [Value.oneCell']) hroom (by rw [hz1, hcs]; simp; omega)
      refine ⟨_, _, _, _, hr, rfl, ⟨by simp [hxl]; omega, .inr ⟨g, cap, _, rfl, hbg, setRow_heap w g cur _ 233 _ hg, hroom, hcm, ?_, ?_⟩⟩, .inl ⟨rfl, ⟨rfl, rfl, rfl, by simp, fun k _ hk => setRow_other w g k _ (fun e => hk (by simp [Value.ownBlock, e]))⟩⟩⟩
      · simp only [List.size_toArray, List.length_append, List.length_take, List.length_drop, Array.length_toList, hz1, hcs]
        simp
        omega
      · rw [hz1, htake]
        exact List.take_left' (by simp [hxl]; omega)
    · have holds : ∀ j u, xs[j]? = some u → w.cell? ((⟨g, 0, none⟩ : Addr).add j) = some u := World.ownsRow.cells hown (g := g) rfl
      have hr := run_append_grow (P := Tryz.prog) w 211 ty 233 i _ ht hi hz0 ⟨g, 0, none⟩ m cap xs (by rw [hz1]; exact hxl) holds ⟨b, 0, none⟩ 1 1 [.int .i64 y0, .int .i64 y1] (by rw [hz1]; rfl) hys (by omega) (by omega) (by
        rw [hz2]
        exact growslice_fits (by omega) (by
          calc (m + 1) * 16 ≤ 1000000 * 16 := Nat.mul_le_mul_right _ hlen
            _ ≤ _ := by decide))
      exact ⟨_, _, _, _, hr, rfl, big cap (by omega), .inr ⟨rfl, grw _⟩⟩

/-- append(s, frame) in the text's order. -/
theorem wpl_appF {w : World} {ops : Array Oper} {rest : List Oper} {o : Oper} {a : Act} {Q : Exit → Act → World → Prop} (hgd : o.guard = none) (s x : Operand)
    (ho : o.op = .call { callee := .builtin .append, args := #[s, x], argTypes := #[211, 211] })
    (B : Nat) (v : Value) (m : Nat) (xs : List Value) (y0 y1 : Int) (b : Nat) (hown : w.ownsRow B 233 2 v m xs) (hs : a.eval s = v) (hx : a.eval x = .slice (some ⟨b, 0, none⟩) 1 1) (hb : b = w.heap.size)
    (hlen : m < 1000000) (hB : B ≤ w.heap.size)
    (h : ∀ g c w', w'.ownsRow B 233 2 (.slice (some ⟨g, 0, none⟩) (m + 1) c) (m + 1) (xs ++ [.int .i64 y0, .int .i64 y1]) → ((v.ownBlock = some g ∧ w.grownBy w' v.ownBlock) ∨ (w.heap.size ≤ g ∧ w.grownBy w' none)) → wpList Tryz.prog ops Q rest (a.put o.dst (.slice (some ⟨g, 0, none⟩) (m + 1) c)) w') :
    wpList Tryz.prog ops Q (o :: rest) a (w.alloc (.cells #[.int .i64 y0, .int .i64 y1] 233)) := by
  subst hb
  refine wpList_plain hgd fun K hK => ?_
  have hcells : ∀ (j : Nat) (u : Value), ([Value.int .i64 y0, .int .i64 y1] : List Value)[j]? = some u → (w.alloc (.cells #[.int .i64 y0, .int .i64 y1] 233)).cell? ((⟨w.heap.size, 0, none⟩ : Addr).add j) = some u := by
    intro j u hj
    have hn := heap_alloc_new w (.cells #[.int .i64 y0, .int .i64 y1] 233)
    match j, hj with
    | 0, hj => simp at hj; subst hj; simp only [World.cell?, Addr.add, if_true]; rw [hn]; rfl
    | 1, hj => simp at hj; subst hj; simp only [World.cell?, Addr.add, show ¬ (1 = 0) by decide, if_false]; rw [hn]; rfl
    | j + 2, hj => simp at hj
  obtain ⟨g, n', c', w', hr, rfl, h2, h3⟩ := run_appF (w.alloc (.cells #[.int .i64 y0, .int .i64 y1] 233)) B o.type v m xs (World.ownsRow.alloc hown _) w.heap.size y0 y1 hcells hlen (by simp; omega)
  unfold Oper.wp execOp
  simp only [ho, resolve, invoke, builtin, Sem.run_bind, Sem.run_pure, Result.andThen_ok, List.map_toArray, List.map_cons, List.map_nil, hs, hx]
  rw [hr]
  have hal : ∀ row, w.grownBy (w.alloc (.cells #[.int .i64 y0, .int .i64 y1] 233)) row := fun row => World.grownBy_alloc w _ row
  rcases h3 with ⟨hv, hg⟩ | ⟨hk, hg⟩
  · exact hK _ _ (h g c' w' h2 (.inl ⟨hv, (hal v.ownBlock).trans hg⟩))
  · exact hK _ _ (h g c' w' h2 (.inr ⟨by rw [hk]; simp, (hal none).trans hg⟩))

/-- What the names name. -/
structure SN (f : Names) (d : Nat) (nv lv fv pv ov cv : Value) (n : Nat) (S : TS) : Prop where
  box : f (0, 0) = some ⟨213, 7, .slice (some ⟨d, 0, none⟩) 1 1, 1, [nv, lv, fv, ov, pv, cv, .int .i64 S.time]⟩
  low : f (1, 0) = some (rowI lv (tab n S.low))
  fnd : f (2, 0) = some (rowI fv (tab n S.found))
  opn : f (3, 0) = some (rowI ov (upI S.opn))
  part : f (4, 0) = some (rowI pv (tabI n S.part))
  calls : f (5, 0) = some ⟨233, 2, cv, S.calls.length, flatF S.calls S.idx⟩

section
variable {B : Nat} {w : World} {f : Names} {d : Nat} {nv lv fv pv ov cv : Value} {n : Nat} {S : TS}

theorem SN.cell (h : SN f d nv lv fv pv ov cv n S) (hr : Rows B w f) (k : Nat) (hk : k < 7) : w.cell? ⟨d, k, none⟩ = [nv, lv, fv, ov, pv, cv, .int .i64 S.time][k]? :=
  hr.cell h.box (g := d) (cap := 1) rfl k (by simp; omega)
theorem SN.frz (h : SN f d nv lv fv pv ov cv n S) (hr : Rows B w f) (k : Nat) : w.frozen? ⟨d, k, none⟩ = false := hr.frozen h.box (g := d) (cap := 1) rfl k
theorem SN.base (h : SN f d nv lv fv pv ov cv n S) (hr : Rows B w f) : B ≤ d := (hr.lt h.box d rfl).1
/-- s.time = t. -/
theorem SN.setTime (h : SN f d nv lv fv pv ov cv n S) (hr : Rows B w f) (t : Nat) : ∃ f', Rows B (w.setCell ⟨d, 6, none⟩ (.int .i64 t)) f' ∧ SN f' d nv lv fv pv ov cv n { S with time := t } := by
  refine ⟨_, hr.set h.box (g := d) (cap := 1) rfl 6 (.int .i64 t), ⟨upd_same _ _ _, ?_, ?_, ?_, ?_, ?_⟩⟩
  · rw [upd_ne _ _ (by simp)]; exact h.low
  · rw [upd_ne _ _ (by simp)]; exact h.fnd
  · rw [upd_ne _ _ (by simp)]; exact h.opn
  · rw [upd_ne _ _ (by simp)]; exact h.part
  · rw [upd_ne _ _ (by simp)]; exact h.calls
/-- s.low[v] = t. -/
theorem SN.setLow (h : SN f d nv lv fv pv ov cv n S) (hr : Rows B w f) (v : Nat) (hv : v < n) (t : Nat) : ∃ f', Rows B (w.setCell (valAt lv v) (.int .i64 t)) f' ∧ SN f' d nv lv fv pv ov cv n { S with low := updN S.low v t } := by
  have hs := hr.setI h.low v (by rw [tab_len]; exact hv) (t : Int)
  rw [tab_upd] at hs
  refine ⟨_, hs, ⟨?_, upd_same _ _ _, ?_, ?_, ?_, ?_⟩⟩
  · rw [upd_ne _ _ (by simp)]; exact h.box
  · rw [upd_ne _ _ (by simp)]; exact h.fnd
  · rw [upd_ne _ _ (by simp)]; exact h.opn
  · rw [upd_ne _ _ (by simp)]; exact h.part
  · rw [upd_ne _ _ (by simp)]; exact h.calls
/-- s.found[v] = t. -/
theorem SN.setFound (h : SN f d nv lv fv pv ov cv n S) (hr : Rows B w f) (v : Nat) (hv : v < n) (t : Nat) : ∃ f', Rows B (w.setCell (valAt fv v) (.int .i64 t)) f' ∧ SN f' d nv lv fv pv ov cv n { S with found := updN S.found v t } := by
  have hs := hr.setI h.fnd v (by rw [tab_len]; exact hv) (t : Int)
  rw [tab_upd] at hs
  refine ⟨_, hs, ⟨?_, ?_, upd_same _ _ _, ?_, ?_, ?_⟩⟩
  · rw [upd_ne _ _ (by simp)]; exact h.box
  · rw [upd_ne _ _ (by simp)]; exact h.low
  · rw [upd_ne _ _ (by simp)]; exact h.opn
  · rw [upd_ne _ _ (by simp)]; exact h.part
  · rw [upd_ne _ _ (by simp)]; exact h.calls
/-- s.part[v] = t. -/
theorem SN.setPart (h : SN f d nv lv fv pv ov cv n S) (hr : Rows B w f) (v : Nat) (hv : v < n) (t : Int) : ∃ f', Rows B (w.setCell (valAt pv v) (.int .i64 t)) f' ∧ SN f' d nv lv fv pv ov cv n { S with part := updN S.part v t } := by
  have hs := hr.setI h.part v (by rw [tabI_len]; exact hv) t
  rw [tabI_upd] at hs
  refine ⟨_, hs, ⟨?_, ?_, ?_, ?_, upd_same _ _ _, ?_⟩⟩
  · rw [upd_ne _ _ (by simp)]; exact h.box
  · rw [upd_ne _ _ (by simp)]; exact h.low
  · rw [upd_ne _ _ (by simp)]; exact h.fnd
  · rw [upd_ne _ _ (by simp)]; exact h.opn
  · rw [upd_ne _ _ (by simp)]; exact h.calls
theorem grown_via {w' : World} {row : Option Nat} (hg : w.grownBy w' row ∨ w.grownBy w' none) : w.grownBy w' row := by
  rcases hg with h | h
  · exact h
  · exact ⟨h.os, h.tape, h.output, h.size, fun k hk _ => h.block k hk (by simp)⟩
/-- s.open = append(s.open, v). -/
theorem SN.pushOpen (h : SN f d nv lv fv pv ov cv n S) (hr : Rows B w f) (hBw : B ≤ w.heap.size) {w1 : World} {ov' : Value} (v : Nat) (ho : OwnI B w1 ov' (upI S.opn ++ [(v : Int)]))
    (hal : (roomOf ov' = roomOf ov ∧ w.grownBy w1 ov.ownBlock) ∨ (∃ k, ov'.ownBlock = some k ∧ w.heap.size ≤ k ∧ w.grownBy w1 none)) :
    (∀ k, k < 7 → w1.cell? ⟨d, k, none⟩ = [nv, lv, fv, ov, pv, cv, .int .i64 S.time][k]?) ∧ (∀ k, w1.frozen? ⟨d, k, none⟩ = false) ∧ Below B w (w1.setCell ⟨d, 3, none⟩ ov') ∧ ∃ f', Rows B (w1.setCell ⟨d, 3, none⟩ ov') f' ∧ SN f' d nv lv fv pv ov' cv n { S with opn := v :: S.opn } := by
  have hO := hr.ownI h.opn
  have hg : w.grownBy w1 ov.ownBlock := grown_via (hal.imp (·.2) (fun ⟨_, _, _, q⟩ => q))
  have hob : ov'.ownBlock = ov.ownBlock ∨ ∃ k, ov'.ownBlock = some k ∧ w.heap.size ≤ k := by
    rcases hal with ⟨q, _⟩ | ⟨k, h1, h2, _⟩
    · obtain ⟨a1, n1, c1, e1⟩ := hO.at.shape
      obtain ⟨a2, n2, c2, e2⟩ := ho.at.shape
      exact .inl (ownBlock_of_room e1 e2 q)
    · exact .inr ⟨k, h1, h2⟩
  have h1 := hr.grown (r' := rowI ov' (upI S.opn ++ [(v : Int)])) h.opn hg ho hob
  have hb : upd f (3, 0) (some (rowI ov' (upI S.opn ++ [(v : Int)]))) (0, 0) = some ⟨213, 7, .slice (some ⟨d, 0, none⟩) 1 1, 1, [nv, lv, fv, ov, pv, cv, .int .i64 S.time]⟩ := by rw [upd_ne _ _ (by simp)]; exact h.box
  refine ⟨fun k hk => h1.cell hb (g := d) (cap := 1) rfl k (by simpa using hk), fun k => h1.frozen hb (g := d) (cap := 1) rfl k, ((Below.refl _ _).grown hg hBw (fun k hk => (hO.lt k hk).1)).setCell (h.base hr) _, _, h1.set hb (g := d) (cap := 1) rfl 3 ov', ⟨upd_same _ _ _, ?_, ?_, ?_, ?_, ?_⟩⟩
  · rw [upd_ne _ _ (by simp), upd_ne _ _ (by simp)]; exact h.low
  · rw [upd_ne _ _ (by simp), upd_ne _ _ (by simp)]; exact h.fnd
  · rw [upd_ne _ _ (by simp), upd_same, upI_cons]
  · rw [upd_ne _ _ (by simp), upd_ne _ _ (by simp)]; exact h.part
  · rw [upd_ne _ _ (by simp), upd_ne _ _ (by simp)]; exact h.calls
/-- s.calls = append(s.calls, frame{v, 0}). -/
theorem SN.pushCalls (h : SN f d nv lv fv pv ov cv n S) (hr : Rows B w f) (hBw : B ≤ w.heap.size) {w1 : World} {g c : Nat} (v : Nat) (hv : v ∉ S.calls)
    (ho : w1.ownsRow B 233 2 (.slice (some ⟨g, 0, none⟩) (S.calls.length + 1) c) (S.calls.length + 1) (flatF S.calls S.idx ++ [.int .i64 (v : Int), .int .i64 0]))
    (hal : (cv.ownBlock = some g ∧ w.grownBy w1 cv.ownBlock) ∨ (w.heap.size ≤ g ∧ w.grownBy w1 none)) :
    (∀ k, k < 7 → w1.cell? ⟨d, k, none⟩ = [nv, lv, fv, ov, pv, cv, .int .i64 S.time][k]?) ∧ (∀ k, w1.frozen? ⟨d, k, none⟩ = false) ∧ Below B w (w1.setCell ⟨d, 5, none⟩ (.slice (some ⟨g, 0, none⟩) (S.calls.length + 1) c)) ∧
      ∃ f', Rows B (w1.setCell ⟨d, 5, none⟩ (.slice (some ⟨g, 0, none⟩) (S.calls.length + 1) c)) f' ∧ SN f' d nv lv fv pv ov (.slice (some ⟨g, 0, none⟩) (S.calls.length + 1) c) n { S with calls := v :: S.calls, idx := updN S.idx v 0 } := by
  have hg : w.grownBy w1 cv.ownBlock := grown_via (hal.imp (·.2) (·.2))
  have hob : (Value.slice (some ⟨g, 0, none⟩) (S.calls.length + 1) c).ownBlock = cv.ownBlock ∨ ∃ k, (Value.slice (some ⟨g, 0, none⟩) (S.calls.length + 1) c).ownBlock = some k ∧ w.heap.size ≤ k := by
    rcases hal with ⟨q, _⟩ | ⟨q, _⟩
    · exact .inl q.symm
    · exact .inr ⟨g, rfl, q⟩
  have h1 := hr.grown (r' := ⟨233, 2, .slice (some ⟨g, 0, none⟩) (S.calls.length + 1) c, S.calls.length + 1, flatF S.calls S.idx ++ [Value.int .i64 (v : Int), Value.int .i64 0]⟩) h.calls hg (show Row.own B w1 ⟨_, _, _, _, _⟩ from ho) hob
  have hb : upd f (5, 0) (some ⟨233, 2, .slice (some ⟨g, 0, none⟩) (S.calls.length + 1) c, S.calls.length + 1, flatF S.calls S.idx ++ [Value.int .i64 (v : Int), Value.int .i64 0]⟩) (0, 0) = some ⟨213, 7, .slice (some ⟨d, 0, none⟩) 1 1, 1, [nv, lv, fv, ov, pv, cv, .int .i64 S.time]⟩ := by rw [upd_ne _ _ (by simp)]; exact h.box
  refine ⟨fun k hk => h1.cell hb (g := d) (cap := 1) rfl k (by simpa using hk), fun k => h1.frozen hb (g := d) (cap := 1) rfl k, ((Below.refl _ _).grown hg hBw (fun k hk => (hr.lt h.calls k hk).1)).setCell (h.base hr) _, _, h1.set hb (g := d) (cap := 1) rfl 5 (.slice (some ⟨g, 0, none⟩) (S.calls.length + 1) c), ⟨upd_same _ _ _, ?_, ?_, ?_, ?_, ?_⟩⟩
  · rw [upd_ne _ _ (by simp), upd_ne _ _ (by simp)]; exact h.low
  · rw [upd_ne _ _ (by simp), upd_ne _ _ (by simp)]; exact h.fnd
  · rw [upd_ne _ _ (by simp), upd_ne _ _ (by simp)]; exact h.opn
  · rw [upd_ne _ _ (by simp), upd_ne _ _ (by simp)]; exact h.part
  · rw [upd_ne _ _ (by simp), upd_same]
    simp only [flatF_cons, updN_same, List.length_cons]
    rw [flatF_congr (f := updN S.idx v 0) (g := S.idx) (fun x hx => updN_other _ _ _ (fun e => hv (by rw [← e]; exact hx)))]
    rfl
/-- s.open = s.open[:len(s.open)-1]. -/
theorem SN.popOpen {v : Nat} {r : List Nat} {g c : Nat} (h : SN f d nv lv fv pv (.slice (some ⟨g, 0, none⟩) (r.length + 1) c) cv n S) (he : S.opn = v :: r) (hr : Rows B w f) :
    ∃ f', Rows B (w.setCell ⟨d, 3, none⟩ (.slice (some ⟨g, 0, none⟩) r.length c)) f' ∧ SN f' d nv lv fv pv (.slice (some ⟨g, 0, none⟩) r.length c) cv n { S with opn := r } := by
  have ho := h.opn
  rw [he] at ho
  have ho' : f (3, 0) = some ⟨3, 1, .slice (some ⟨g, 0, none⟩) (r.length + 1) c, r.length + 1, (upI (v :: r)).map (Value.int .i64)⟩ := by
    rw [ho]; simp [rowI, upI_len]
  have h1 := hr.shrink ho'
  have hx : ((upI (v :: r)).map (Value.int .i64)).take (r.length * 1) = (upI r).map (Value.int .i64) := by
    rw [upI_cons, List.map_append, Nat.mul_one]; exact List.take_left' (by simp [upI_len])
  rw [hx] at h1
  refine ⟨_, h1.set (i := (0, 0)) (by rw [upd_ne _ _ (by simp)]; exact h.box) (g := d) (cap := 1) rfl 3 (.slice (some ⟨g, 0, none⟩) r.length c), ⟨upd_same _ _ _, ?_, ?_, ?_, ?_, ?_⟩⟩
  · rw [upd_ne _ _ (by simp), upd_ne _ _ (by simp)]; exact h.low
  · rw [upd_ne _ _ (by simp), upd_ne _ _ (by simp)]; exact h.fnd
  · rw [upd_ne _ _ (by simp), upd_same]; simp [upI_len]
  · rw [upd_ne _ _ (by simp), upd_ne _ _ (by simp)]; exact h.part
  · rw [upd_ne _ _ (by simp), upd_ne _ _ (by simp)]; exact h.calls
/-- s.calls = s.calls[:len(s.calls)-1]. -/
theorem SN.popCalls {v : Nat} {r : List Nat} {g c : Nat} (h : SN f d nv lv fv pv ov (.slice (some ⟨g, 0, none⟩) (r.length + 1) c) n S) (he : S.calls = v :: r) (hr : Rows B w f) :
    ∃ f', Rows B (w.setCell ⟨d, 5, none⟩ (.slice (some ⟨g, 0, none⟩) r.length c)) f' ∧ SN f' d nv lv fv pv ov (.slice (some ⟨g, 0, none⟩) r.length c) n { S with calls := r } := by
  have ho := h.calls
  rw [he] at ho
  have h1 := hr.shrink ho
  have hx : (flatF (v :: r) S.idx).take (r.length * 2) = flatF r S.idx := by
    rw [flatF_cons]; exact List.take_left' (flatF_len _ _)
  rw [hx] at h1
  refine ⟨_, h1.set (i := (0, 0)) (by rw [upd_ne _ _ (by simp)]; exact h.box) (g := d) (cap := 1) rfl 5 (.slice (some ⟨g, 0, none⟩) r.length c), ⟨upd_same _ _ _, ?_, ?_, ?_, ?_, ?_⟩⟩
  · rw [upd_ne _ _ (by simp), upd_ne _ _ (by simp)]; exact h.low
  · rw [upd_ne _ _ (by simp), upd_ne _ _ (by simp)]; exact h.fnd
  · rw [upd_ne _ _ (by simp), upd_ne _ _ (by simp)]; exact h.opn
  · rw [upd_ne _ _ (by simp), upd_ne _ _ (by simp)]; exact h.part
  · rw [upd_ne _ _ (by simp), upd_same]
/-- f.i = i at the topmost frame. -/
theorem SN.bump {v : Nat} {r : List Nat} {g c : Nat} (h : SN f d nv lv fv pv ov (.slice (some ⟨g, 0, none⟩) (r.length + 1) c) n S) (he : S.calls = v :: r) (hv : v ∉ r) (hr : Rows B w f) (i : Nat) :
    ∃ f', Rows B (w.setCell ⟨g, r.length * 2 + 1, none⟩ (.int .i64 (i : Int))) f' ∧ SN f' d nv lv fv pv ov (.slice (some ⟨g, 0, none⟩) (r.length + 1) c) n { S with idx := updN S.idx v i } := by
  have ho := h.calls
  rw [he] at ho
  have hs := hr.set ho (g := g) (cap := c) rfl (r.length * 2 + 1) (.int .i64 (i : Int))
  refine ⟨_, hs, ⟨?_, ?_, ?_, ?_, ?_, ?_⟩⟩
  · rw [upd_ne _ _ (by simp)]; exact h.box
  · rw [upd_ne _ _ (by simp)]; exact h.low
  · rw [upd_ne _ _ (by simp)]; exact h.fnd
  · rw [upd_ne _ _ (by simp)]; exact h.opn
  · rw [upd_ne _ _ (by simp)]; exact h.part
  · rw [upd_same, he]
    simp only [flatF_cons, updN_same, List.length_cons]
    rw [List.set_append_right _ _ (by rw [flatF_len]; omega), flatF_len, show r.length * 2 + 1 - r.length * 2 = 1 by omega,
      flatF_congr (f := updN S.idx v i) (g := S.idx) (fun x hx => updN_other _ _ _ (fun e => hv (by rw [← e]; exact hx)))]
    rfl
/-- The topmost frame, and the one below it. -/
theorem SN.callTop {v : Nat} {r : List Nat} {g c : Nat} (h : SN f d nv lv fv pv ov (.slice (some ⟨g, 0, none⟩) (r.length + 1) c) n S) (he : S.calls = v :: r) (hr : Rows B w f) :
    w.cell? ⟨g, r.length * 2, none⟩ = some (.int .i64 (v : Int)) ∧ w.cell? ⟨g, r.length * 2 + 1, none⟩ = some (.int .i64 (S.idx v : Int)) ∧ w.frozen? ⟨g, r.length * 2 + 1, none⟩ = false := by
  have ho := h.calls
  rw [he] at ho
  refine ⟨?_, ?_, hr.frozen ho (g := g) (cap := c) rfl _⟩
  · rw [hr.cell ho (g := g) (cap := c) rfl _ (by simp only [List.length_cons]; omega), flatF_cons, List.getElem?_append_right (by rw [flatF_len]; omega), flatF_len, Nat.sub_self]; rfl
  · rw [hr.cell ho (g := g) (cap := c) rfl _ (by simp; omega), flatF_cons, List.getElem?_append_right (by rw [flatF_len]; omega), flatF_len, show r.length * 2 + 1 - r.length * 2 = 1 by omega]; rfl
/-- The value that holds the stack of calls, the open stack. -/
theorem row_shape {E : TypeId} {size m : Nat} {v : Value} {xs : List Value} (h : w.ownsRow B E size v m xs) (hm : 0 < m) : ∃ g c, v = .slice (some ⟨g, 0, none⟩) m c ∧ m ≤ c := by
  rcases h.2 with ⟨_, e⟩ | ⟨g, cap, cur, e, _, _, hn, _⟩
  · omega
  · exact ⟨g, cap, e, hn⟩
theorem SN.callsShape (h : SN f d nv lv fv pv ov cv n S) (hr : Rows B w f) (hc : S.calls ≠ []) : ∃ g c, cv = .slice (some ⟨g, 0, none⟩) S.calls.length c ∧ S.calls.length ≤ c :=
  row_shape (hr.1 _ _ h.calls) (List.length_pos_iff.2 hc)
theorem SN.opnShape (h : SN f d nv lv fv pv ov cv n S) (hr : Rows B w f) (hc : S.opn ≠ []) : ∃ g c, ov = .slice (some ⟨g, 0, none⟩) S.opn.length c ∧ S.opn.length ≤ c := by
  have := row_shape (hr.1 _ _ h.opn) (by show 0 < (upI S.opn).length; rw [upI_len]; exact List.length_pos_iff.2 hc)
  obtain ⟨g, c, e, e2⟩ := this
  have e : ov = .slice (some ⟨g, 0, none⟩) (upI S.opn).length c := e
  have e2 : (upI S.opn).length ≤ c := e2
  rw [upI_len] at e e2
  exact ⟨g, c, e, e2⟩
theorem SN.opnNil {adj : Nat → List Nat} (_h : SN f d nv lv fv pv ov cv n S) (hI : TInv n adj S) (hc : S.calls = []) : S.opn = [] := hI.opn_nil hc
/-- The length of the stack of calls. -/
theorem SN.callsLen (h : SN f d nv lv fv pv ov cv n S) (hr : Rows B w f) : ∃ a c, cv = .slice a S.calls.length c := by
  rcases (hr.1 _ _ h.calls).2 with ⟨e, e2⟩ | ⟨g, cap, cur, e, _⟩
  · have e2 : S.calls.length = 0 := e2
    have e : cv = .slice none 0 0 := e
    exact ⟨none, 0, by rw [e, e2]⟩
  · exact ⟨_, _, e⟩
end
end Go.Proofs.YtilpckngghffoaaGreatDoor
