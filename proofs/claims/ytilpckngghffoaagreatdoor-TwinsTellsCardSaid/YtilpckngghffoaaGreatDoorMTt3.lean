/-
  Walks: edenref04.Small, Image, edenref08.Fault.
  Plain mathematics of layer 15: twins, and the ways from a pair of equal nodes through pairs that are apart to a pair of equal nodes.
  Plain mathematics: a rule with a greater radius.
  Walks: forms.widened, forms.Widen and the function that they hand to forms.made.
  Walks: overlap.Nodes, overlap.Edge at a small rule.
  Walks: forms.Widen at a rule, pairs.working.
  Plain mathematics: the least radius of a rule.
  Walks: edenref05.wide, Widen at a rule, edenref13.Working, edenref08.Count.
  Several rows of memory of one's own, under names, no two in one block: what a store, an append, a new row does to them.
  The memory of graph's search under names: its box, the marks, the two stacks; what a store, an append, a shorter stack does to it.
  Plain mathematics: breadth first: the first of the shortest ways.
  A graph in memory: lists of ints that are read; its arrows as plain numbers.
  Lists of ints of one's own: a row of slices, each a row of its own; what a new list, an append, a store does to them.
-/
import Derived.Test.YtilpckngghffoaaGreatDoorMTt2
import Derived.Deep.DeepCutAuto
import Derived.BigQuiet
import Derived.Deep.QuietTactic
namespace Go.Proofs.YtilpckngghffoaaGreatDoor
open Go.RowKit
set_option maxRecDepth 100000

theorem err_box8 (w1 : World) (x0 x1 x2 : Value) :
    Below w1.heap.size w1 (w1.alloc (.cells #[x0, x1, x2] 33)) ∧ Box3 (w1.alloc (.cells #[x0, x1, x2] 33)) w1.heap.size x0 x1 x2 := by
  obtain ⟨y0, y1, y2, f⟩ := cells3 (Below.refl (w1.alloc (.cells #[x0, x1, x2] 33)).heap.size (w1.alloc (.cells #[x0, x1, x2] 33)))
  exact ⟨belowAlloc w1 _, ⟨y0, y1, y2⟩, f⟩
theorem smallP_num {k R : Int} {T : List Int} {n : Int} {l : List (ByteArray × Int)} (h : smallP k R T = some (n, l)) : 1 ≤ n ∧ n ≤ 11 ∧ l.length = 1 := by
  unfold smallP at h
  cases hc : checkP k R T with
  | some t =>
    rw [hc] at h
    injection h with h
    subst h
    have := checkP_num hc
    simp only at this
    omega
  | none =>
    rw [hc] at h
    dsimp only at h
    split at h
    · injection h with h
      injection h with h1 h2
      subst h1; subst h2
      simp
    · cases h

set_option maxHeartbeats 2000000 in
theorem ref_small (k R : Int) (va : Option Addr) (vn vc : Nat) (T : List Int) (w : World) (h : IntsAt w (.slice va vn vc) T) :
    Calls Tryz.prog 93 #[.agg #[.int .i64 k, .int .i64 R, .slice va vn vc]] w (Ret1 (fun x w' => EOwn w.heap.size w' (smallP k R T) x) w) := by
  have b0 := Below.step (belowAlloc w (.cells #[.int .i64 k, .int .i64 R, .slice va vn vc] 24)) (belowAlloc _ (.cells #[.int .i64 0, .slice none 0 0, .slice none 0 0] 33))
  have q : Box3 ((w.alloc (.cells #[.int .i64 k, .int .i64 R, .slice va vn vc] 24)).alloc (.cells #[.int .i64 0, .slice none 0 0, .slice none 0 0] 33)) w.heap.size (.int .i64 k) (.int .i64 R) (.slice va vn vc) := by simp [Box3, go_sem]
  have q4 : Box3 ((w.alloc (.cells #[.int .i64 k, .int .i64 R, .slice va vn vc] 24)).alloc (.cells #[.int .i64 0, .slice none 0 0, .slice none 0 0] 33)) (w.heap.size + 1) (.int .i64 0) (.slice none 0 0) (.slice none 0 0) := by simp [Box3, go_sem]
  have lT := h.len
  have s0 : ((w.alloc (.cells #[.int .i64 k, .int .i64 R, .slice va vn vc] 24)).alloc (.cells #[.int .i64 0, .slice none 0 0, .slice none 0 0] 33)).heap.size = w.heap.size + 2 := by simp
  replace h := Lib.hid (h.below b0)
  obtain ⟨e0, hsm, he0⟩ : ∃ e0, (smallP k R T = match e0 with | some t => some t | none => if 256 < T.length then fresh sRule 0 4 else none) ∧ checkP k R T = e0 := ⟨_, rfl, rfl⟩
  replace he0 := Lib.hid he0
  replace s0 := Lib.hid s0
  go_enter Tryz.func93, Tryz.ntmps93
  go_wp2_with fail
  refine (ref_check k R va vn vc T _ h.out).mono ?_
  rintro e w1 ⟨x, rfl, b1, he⟩
  rw [he0.out] at he
  obtain ⟨qn, a1, n1, c1, a2, n2, c2, rfl⟩ := he.shape
  obtain ⟨be, bx⟩ := err_box8 w1 (.int .i64 qn) (.slice a1 n1 c1) (.slice a2 n2 c2)
  have c1e := Below.step b1 be
  have q' := q.below c1e
  have q4' := q4.below c1e
  have heb := he.below be
  have s1 := b1.size
  rw [s0.out] at s1
  obtain ⟨W2, hW2⟩ : ∃ W2 : World, w1.alloc (.cells #[.int .i64 qn, .slice a1 n1 c1, .slice a2 n2 c2] 33) = W2 := ⟨_, rfl⟩
  have s2 : w1.heap.size < W2.heap.size := by rw [← hW2]; simp
  have b02 := Below.step b0 c1e
  rw [hW2] at be bx c1e q' q4' heb b02
  replace hW2 := Lib.hid hW2
  obtain ⟨⟨y0, y1, y2⟩, -, -, -⟩ := bx
  have hq : (qn != 0) = e0.isSome := by
    cases e0 with
    | none =>
      have : Value.agg #[.int .i64 qn, .slice a1 n1 c1, .slice a2 n2 c2] = .agg #[.int .i64 0, .slice none 0 0, .slice none 0 0] := he
      injection this with this
      injection this with this
      injection this with h1 h2
      injection h1 with _ h1
      rw [h1]; rfl
    | some t =>
      obtain ⟨n, l⟩ := t
      obtain ⟨_, _, _, _, _, _, e, _⟩ := he
      injection e with e
      injection e with e
      injection e with h1 h2
      injection h1 with _ h1
      have := checkP_num he0.out
      simp only at this
      rw [h1, this.1]; rfl
  replace he := Lib.hid he
  replace heb := Lib.hid heb
  go_upto_region 2 with fail
  rw [hW2.out]
  go_wp2_with fail
  refine (err_bad _ _ _ _ _ _ _ W2).mono ?_
  rintro e w3 ⟨_, rfl, b3, rfl⟩
  rw [hq]
  replace hq := Lib.hid hq
  have hey := heb.out.below b3
  have bxx : Box3 W2 w1.heap.size (.int .i64 qn) (.slice a1 n1 c1) (.slice a2 n2 c2) → True := fun _ => trivial
  clear bxx
  have y0' := (b3.cell (World.block_lt_of_cell? _ _ y0)).trans y0
  have y1' := (b3.cell (World.block_lt_of_cell? _ _ y1)).trans y1
  have y2' := (b3.cell (World.block_lt_of_cell? _ _ y2)).trans y2
  obtain ⟨⟨z0, z1, z2⟩, -, -, -⟩ := q'.below b3
  obtain ⟨⟨u0, u1, u2⟩, f0, f1, f2⟩ := q4'.below b3
  have b03 := Below.step b02 b3
  clear y0 y1 y2
  cases e0 with
  | some t =>
    simp only [] at hsm
    replace hsm := Lib.hid hsm
    replace hey := Lib.hid hey
    go_wp2
    refine bodyPost_ret (v := .agg #[.int .i64 qn, .slice a1 n1 c1, .slice a2 n2 c2]) (by simp [results, Tryz.results93, go_sem, u0, u1, u2]) rfl ⟨_, rfl, below_set3 b03 (by omega) _ _ _, ?_⟩
    rw [hsm.out]
    refine ((hey.out.set3 ?_ _ _ _)).mono ?_
    · have := s0.out; omega
    · have := s0.out; omega
  | none =>
    simp only [] at hsm
    by_cases hl : 256 < T.length
    · rw [if_pos hl] at hsm
      have d1 : decide ((256 : Int) < (T.length : Int)) = true := decide_eq_true (by omega)
      replace hsm := Lib.hid hsm
      replace hey := Lib.hid hey
      go_wp2_with fail
      refine (raw_new _ _ _ _).mono ?_
      rintro e w4 ⟨x4, rfl, b4, he4⟩
      obtain ⟨q9, a9, n9, c9, a8, n8, c8, rfl⟩ := he4.shape
      have bb := Below.step b03 b4
      obtain ⟨⟨u0', u1', u2'⟩, g0, g1, g2⟩ := q4.below (Below.step c1e (Below.step b3 b4))
      have s4 := (Below.step b3 b4).size
      replace he4 := Lib.hid he4
      clear u0 u1 u2 f0 f1 f2 z0 z1 z2 y0' y1' y2'
      go_wp2
      refine bodyPost_ret (v := .agg #[.int .i64 q9, .slice a9 n9 c9, .slice a8 n8 c8]) (by simp [results, Tryz.results93, go_sem, u0', u1', u2']) rfl ⟨_, rfl, below_set3 bb (by omega) _ _ _, ?_⟩
      rw [hsm.out]
      have s3 := b3.size
      exact (he4.out.set3 (by omega) _ _ _).mono (by omega)
    · rw [if_neg hl] at hsm
      have d1 : decide ((256 : Int) < (T.length : Int)) = false := decide_eq_false (by omega)
      replace hsm := Lib.hid hsm
      replace hey := Lib.hid hey
      go_wp2
      refine bodyPost_ret (v := .agg #[.int .i64 qn, .slice a1 n1 c1, .slice a2 n2 c2]) (by simp [results, Tryz.results93, go_sem, u0, u1, u2]) rfl ⟨_, rfl, below_set3 b03 (by omega) _ _ _, ?_⟩
      rw [hsm.out]
      refine ((hey.out.set3 ?_ _ _ _)).mono ?_
      · have := s0.out; omega
      · have := s0.out; omega

theorem ref08_fault (op : ByteArray) (k R : Int) (va : Option Addr) (vn vc : Nat) (T : List Int) (w : World) (h : IntsAt w (.slice va vn vc) T) :
    Calls Tryz.prog 45 #[.string op, .agg #[.int .i64 k, .int .i64 R, .slice va vn vc]] w (Ret1 (fun x w' => EOwn w.heap.size w' (under op 0 (smallP k R T)) x) w) := by
  have b0 := Below.step (belowAlloc w (.cells #[.int .i64 k, .int .i64 R, .slice va vn vc] 24)) (belowAlloc _ (.cells #[.int .i64 0, .slice none 0 0, .slice none 0 0] 33))
  have q4 : Box3 ((w.alloc (.cells #[.int .i64 k, .int .i64 R, .slice va vn vc] 24)).alloc (.cells #[.int .i64 0, .slice none 0 0, .slice none 0 0] 33)) (w.heap.size + 1) (.int .i64 0) (.slice none 0 0) (.slice none 0 0) := by simp [Box3, go_sem]
  replace h := Lib.hid (h.below b0)
  go_enter Tryz.func45, Tryz.ntmps45
  go_wp2_with fail
  refine (ref_small k R va vn vc T _ h.out).mono ?_
  rintro e w1 ⟨x, rfl, b1, he⟩
  go_wp2_with fail
  refine (raw_under _ 0 (smallP k R T) x _ he.at (fun n l e => by
    have := smallP_num e
    exact ⟨by omega, by omega, by omega⟩)).mono ?_
  rintro e w2 ⟨x2, rfl, b2, he2⟩
  obtain ⟨q, a1, n1, c1, a2, n2, c2, rfl⟩ := he2.shape
  have q4' := q4.below (Below.step b1 b2)
  obtain ⟨⟨y0, y1, y2⟩, f0, f1, f2⟩ := q4'
  have hs := b1.size
  simp only [World.size_alloc] at hs
  replace he2 := Lib.hid he2
  go_wp2
  exact bodyPost_ret (v := .agg #[.int .i64 q, .slice a1 n1 c1, .slice a2 n2 c2]) (by simp [results, Tryz.results45, go_sem, y0, y1, y2]) rfl ⟨_, rfl, below_set3 (Below.step b0 (Below.step b1 b2)) (Nat.le_succ _) _ _ _, (he2.out.set3 (by omega) _ _ _).mono (by omega)⟩

set_option maxHeartbeats 2000000 in
theorem ref_image (K R : Nat) (va : Option Addr) (vn vc : Nat) (T : List Int) (u : Value) (x : List Int) (w : World) (h : IntsAt w (.slice va vn vc) T) (hr : RuleOk K R T) (hu : IntsAt w u x) (hx : Syms K x) (hl : x.length ≤ 100000) :
    Calls Tryz.prog 48 #[.agg #[.int .i64 K, .int .i64 R, .slice va vn vc], u] w (Ret1 (fun v w' => OwnI w.heap.size w' v (imgP K R T x)) w) := by
  have b0 := belowAlloc w (.cells #[.int .i64 K, .int .i64 R, .slice va vn vc] 24)
  have q : Box3 (w.alloc (.cells #[.int .i64 K, .int .i64 R, .slice va vn vc] 24)) w.heap.size (.int .i64 K) (.int .i64 R) (.slice va vn vc) := by simp [Box3, go_sem]
  have hR3 := hr.r3
  have hk1 := hr.k1
  have hk4 := hr.k4
  have lX := hu.len
  obtain ⟨ua, un, uc, rfl⟩ := hu.shape
  replace h := Lib.hid (h.below b0)
  replace hu := Lib.hid (hu.below b0)
  replace hr := Lib.hid hr
  replace hx := Lib.hid hx
  obtain ⟨W0, hW0⟩ : ∃ W : World, w.alloc (.cells #[.int .i64 K, .int .i64 R, .slice va vn vc] 24) = W := ⟨_, rfl⟩
  have s0 : w.heap.size ≤ W0.heap.size := by rw [← hW0]; simp
  rw [hW0] at h hu q b0
  replace hW0 := Lib.hid hW0
  go_enter Tryz.func48, Tryz.ntmps48
  go_upto_region 3 with fail
  rw [hW0.out]
  clear hW0
  go_loopw [5, 6] (fun ov iv wr => ∃ (i : Nat) (ow : Value), ow = ov ∧ iv = .int .i64 i ∧ i ≤ x.length - 2 * R ∧ OwnI W0.heap.size wr ow ((imgP K R T x).take i) ∧ Below W0.heap.size W0 wr) (fun _ iv _ => x.length - (intOf iv).toNat)
  case atStart => exact ⟨0, _, rfl, rfl, Nat.zero_le _, OwnI.nil _ _, Below.refl _ _⟩
  case round =>
    obtain ⟨i, ow, rfl, rfl, hi, hO, hB⟩ := hrel
    obtain ⟨wo, rfl⟩ : ∃ wo : World, wo = wr := ⟨_, rfl⟩
    obtain ⟨⟨z0, z1, z2⟩, -, -, -⟩ := q.below hB
    by_cases hlt : i + 2 * R < x.length
    · obtain ⟨W, hW⟩ : ∃ W : World, wo.drew = W := ⟨_, rfl⟩
      have hBW : Below W0.heap.size W0 W := by rw [← hW]; exact hB.drew
      have hOW : OwnI W0.heap.size W ow ((imgP K R T x).take i) := by rw [← hW]; exact hO
      obtain ⟨pv, hsl, hP⟩ := (hu.out.below hBW).mid i (i + 2 * R + 1) (by omega) (by omega)
      have hwin : (x.take (i + 2 * R + 1)).drop i = (x.drop i).take (2 * R + 1) := by rw [List.drop_take]; congr 1; omega
      rw [hwin] at hP
      have hwl : ((x.drop i).take (2 * R + 1)).length = 2 * R + 1 := by rw [List.length_take, List.length_drop]; omega
      have hws : Syms K ((x.drop i).take (2 * R + 1)) := syms_take (syms_drop hx.out i) _
      have hnl := numW_lt _ hws
      rw [hwl, ← hr.out.len] at hnl
      have hT := h.out.below hBW
      have iT := fun w' => hT.idx _ hnl w'
      have cT := hT.cellD _ hnl
      have hg := imgP_getD K R T x i (by omega)
      have htk : (imgP K R T x).take (i + 1) = (imgP K R T x).take i ++ [(imgP K R T x).getD i 0] := by
        rw [List.take_add_one, List.getElem?_eq_getElem (by rw [imgP_length]; omega), List.getD_eq_getElem?_getD, List.getElem?_eq_getElem (by rw [imgP_length]; omega)]; rfl
      rw [hg] at htk
      have hval := ref_value K pv _ W hk1 hk4 hP hws (by rw [hwl]; omega)
      obtain ⟨pa, pn, pc, rfl⟩ := hP.shape
      have hsl2 : ∀ w', (Instr.slice 22 (.slice ua un uc) (some (.int .i64 (i : Int))) (some (.int .i64 ((i : Int) + 2 * (R : Int) + 1))) none).run Tryz.prog w' = .ok (.slice pa pn pc) w' := by
        intro w'; have := hsl w'; rwa [show (((i + 2 * R + 1 : Nat) : Nat) : Int) = (i : Int) + 2 * (R : Int) + 1 by omega] at this
      have hnl2 : numW K ((x.drop i).take (2 * R + 1)) < T.length := hnl
      have hta0 : (valAt (.slice va vn vc) (numW K ((x.drop i).take (2 * R + 1)))).block < W0.heap.size := World.block_lt_of_cell? _ _ (h.out.cellD _ hnl)
      generalize T.getD (numW K ((x.drop i).take (2 * R + 1))) 0 = y at *
      generalize numW K ((x.drop i).take (2 * R + 1)) = N at *
      generalize valAt (.slice va vn vc) N = ta at *
      have hol : ((imgP K R T x).take i).length = i := by rw [List.length_take, imgP_length]; omega
      have sW := hBW.size
      have hta := World.block_lt_of_cell? _ _ cT
      have hS : W.cell? ⟨w.heap.size, 0, none⟩ = some (.int .i64 K) ∧ W.cell? ⟨w.heap.size, 1, none⟩ = some (.int .i64 R) ∧ W.cell? ⟨w.heap.size, 2, none⟩ = some (.slice va vn vc) ∧ W.cell? ta = some (.int .i64 y) := by
        obtain ⟨⟨y0, y1, y2⟩, -, -, -⟩ := q.below hBW
        exact ⟨y0, y1, y2, cT⟩
      have bl := belowAlloc W (.cells #[.int .i64 y] 3)
      have hlit := OwnI.lit W.heap.size W (Nat.le_refl _) [y] (by simp [maxLen]) #[.int .i64 y] rfl 1 rfl
      have hOl := hOW.below bl
      have hBl : W0.heap.size ≤ (W.alloc (.cells #[.int .i64 y] 3)).heap.size := by simp; omega
      have hS1 : (W.alloc (.cells #[.int .i64 y] 3)).cell? ⟨w.heap.size, 0, none⟩ = some (.int .i64 K) ∧ (W.alloc (.cells #[.int .i64 y] 3)).cell? ⟨w.heap.size, 1, none⟩ = some (.int .i64 R) ∧ (W.alloc (.cells #[.int .i64 y] 3)).cell? ⟨w.heap.size, 2, none⟩ = some (.slice va vn vc) ∧ (W.alloc (.cells #[.int .i64 y] 3)).cell? ta = some (.int .i64 y) := by
        have h0 := World.block_lt_of_cell? _ _ hS.1
        exact ⟨(bl.cell h0).trans hS.1, (bl.cell (World.block_lt_of_cell? _ _ hS.2.1)).trans hS.2.1, (bl.cell (World.block_lt_of_cell? _ _ hS.2.2.1)).trans hS.2.2.1, (bl.cell hta).trans hS.2.2.2⟩
      replace hOl := Lib.hid hOl
      replace hval := Lib.hid hval
      replace hT := Lib.hid hT
      replace hOW := Lib.hid hOW
      replace hO := Lib.hid hO
      replace hP := Lib.hid hP
      replace hws := Lib.hid hws
      replace hwl := Lib.hid hwl
      replace hwin := Lib.hid hwin
      replace hg := Lib.hid hg
      replace htk := Lib.hid htk
      replace hol := Lib.hid hol
      replace hW := Lib.hid hW
      replace hlit := Lib.hid hlit
      clear hsl cT
      have hw1 : IntKind.i64.wrap (2 * (R : Int)) = 2 * (R : Int) := wrapK (by omega) (by omega)
      have hw2 : IntKind.i64.wrap ((i : Int) + 2 * (R : Int)) = (i : Int) + 2 * (R : Int) := wrapK (by omega) (by omega)
      have hw3 : IntKind.i64.wrap ((i : Int) + 2 * (R : Int) + 1) = (i : Int) + 2 * (R : Int) + 1 := wrapK (by omega) (by omega)
      go_upto_region 5 with fail
      refine wp_region_plan (fun w' => w'.cell? ⟨w.heap.size, 0, none⟩ = some (.int .i64 K) ∧ w'.cell? ⟨w.heap.size, 1, none⟩ = some (.int .i64 R) ∧ w'.cell? ⟨w.heap.size, 2, none⟩ = some (.slice va vn vc) ∧ w'.cell? ta = some (.int .i64 y)) 19 [(0, true), (1, true), (2, true), (3, true), (4, true), (5, true), (6, true), (7, true), (8, true), (9, true), (10, true), (11, true), (12, true), (13, true), (14, false), (15, true), (16, true), (17, false), (18, false)] (by kernel_rfl) (by kernel_rfl) ?_
      rw [hW.out]
      clear z0 z1 z2
      refine headY (v := ?_) (some 17) rfl rfl (Or.inl ⟨by rfl, ?_⟩) hS ?_
      rotate_left
      · rintro W' ⟨s0, s1, s2, s3⟩; go_simp; try with_reducible rfl
      simp only [Act.put, List.setIfInBounds_toArray, List.set_cons_zero, List.set_cons_succ]
      refine headY (v := ?_) (some 18) rfl rfl (Or.inl ⟨by rfl, ?_⟩) hS ?_
      rotate_left
      · rintro W' ⟨s0, s1, s2, s3⟩; go_simp; try with_reducible rfl
      simp only [Act.put, List.setIfInBounds_toArray, List.set_cons_zero, List.set_cons_succ]
      refine headY (v := ?_) (some 19) rfl rfl (Or.inl ⟨by rfl, ?_⟩) hS ?_
      rotate_left
      · rintro W' ⟨s0, s1, s2, s3⟩; go_simp; try with_reducible rfl
      simp only [Act.put, List.setIfInBounds_toArray, List.set_cons_zero, List.set_cons_succ]
      refine headY (v := ?_) (some 20) rfl rfl (Or.inl ⟨by rfl, ?_⟩) hS ?_
      rotate_left
      · rintro W' ⟨s0, s1, s2, s3⟩; go_simp; try with_reducible rfl
      simp only [Act.put, List.setIfInBounds_toArray, List.set_cons_zero, List.set_cons_succ]
      refine headY (v := ?_) (some 21) rfl rfl (Or.inl ⟨by rfl, ?_⟩) hS ?_
      rotate_left
      · rintro W' ⟨s0, s1, s2, s3⟩; go_simp; try with_reducible rfl
      simp only [Act.put, List.setIfInBounds_toArray, List.set_cons_zero, List.set_cons_succ]
      refine headY (v := ?_) (some 22) rfl rfl (Or.inl ⟨by rfl, ?_⟩) hS ?_
      rotate_left
      · rintro W' ⟨s0, s1, s2, s3⟩; go_simp; try with_reducible rfl
      simp only [Act.put, List.setIfInBounds_toArray, List.set_cons_zero, List.set_cons_succ]
      refine headY (v := ?_) (some 23) rfl rfl (Or.inl ⟨by rfl, ?_⟩) hS ?_
      rotate_left
      · rintro W' ⟨s0, s1, s2, s3⟩; go_simp; try with_reducible rfl
      simp only [Act.put, List.setIfInBounds_toArray, List.set_cons_zero, List.set_cons_succ]
      refine headY (v := ?_) (some 24) rfl rfl (Or.inl ⟨by rfl, ?_⟩) hS ?_
      rotate_left
      · rintro W' ⟨s0, s1, s2, s3⟩; go_simp; try with_reducible rfl
      simp only [Act.put, List.setIfInBounds_toArray, List.set_cons_zero, List.set_cons_succ]
      refine headY (v := ?_) (some 25) rfl rfl (Or.inl ⟨by rfl, ?_⟩) hS ?_
      rotate_left
      · rintro W' ⟨s0, s1, s2, s3⟩; go_simp; try with_reducible rfl
      simp only [Act.put, List.setIfInBounds_toArray, List.set_cons_zero, List.set_cons_succ]
      refine headY (v := ?_) (some 26) rfl rfl (Or.inl ⟨by rfl, ?_⟩) hS ?_
      rotate_left
      · rintro W' ⟨s0, s1, s2, s3⟩; go_simp; try with_reducible rfl
      simp only [Act.put, List.setIfInBounds_toArray, List.set_cons_zero, List.set_cons_succ]
      refine headY (v := ?_) (some 27) rfl rfl (Or.inl ⟨by rfl, ?_⟩) hS ?_
      rotate_left
      · rintro W' ⟨s0, s1, s2, s3⟩; go_simp; try with_reducible rfl
      simp only [Act.put, List.setIfInBounds_toArray, List.set_cons_zero, List.set_cons_succ]
      refine headY (v := ?_) (some 28) rfl rfl (Or.inl ⟨by rfl, ?_⟩) hS ?_
      rotate_left
      · rintro W' ⟨s0, s1, s2, s3⟩; go_simp; try with_reducible rfl
      simp only [Act.put, List.setIfInBounds_toArray, List.set_cons_zero, List.set_cons_succ]
      refine headY (v := ?_) (some 29) rfl rfl (Or.inl ⟨by rfl, ?_⟩) hS ?_
      rotate_left
      · rintro W' ⟨s0, s1, s2, s3⟩; go_simp; try with_reducible rfl
      simp only [Act.put, List.setIfInBounds_toArray, List.set_cons_zero, List.set_cons_succ]
      refine headY (v := ?_) (some 30) rfl rfl (Or.inl ⟨by rfl, ?_⟩) hS ?_
      rotate_left
      · rintro W' ⟨s0, s1, s2, s3⟩; go_simp; try with_reducible rfl
      simp only [Act.put, List.setIfInBounds_toArray, List.set_cons_zero, List.set_cons_succ]
      refine headC rfl (fun KK hK => ?_)
      go_simp
      refine hval.out.mono ?_
      rintro e w5 ⟨rfl, rfl⟩
      refine hK _ _ hS ?_
      clear hK KK
      refine headY (v := ?_) (some 32) rfl rfl (Or.inl ⟨by rfl, ?_⟩) hS ?_
      rotate_left
      · rintro W' ⟨s0, s1, s2, s3⟩; go_simp; try with_reducible rfl
      simp only [Act.put, List.setIfInBounds_toArray, List.set_cons_zero, List.set_cons_succ]
      refine headY (v := ?_) (some 33) rfl rfl (Or.inl ⟨by rfl, ?_⟩) hS ?_
      rotate_left
      · rintro W' ⟨s0, s1, s2, s3⟩; go_simp; try with_reducible rfl
      simp only [Act.put, List.setIfInBounds_toArray, List.set_cons_zero, List.set_cons_succ]
      refine headC rfl (fun KK hK => ?_)
      go_simp
      refine hK _ _ hS1 ?_
      clear hK KK
      refine headC rfl (fun KK hK => ?_)
      refine step_appI rfl _ _ rfl W0.heap.size ow (.slice (some ⟨W.heap.size, 0, none⟩) 1 1) _ [y] rfl rfl hOl.out hlit.out.at (by rw [hol.out]; simp; omega) hBl ?_
      intro v9 w9 ho9 b9
      rw [← htk.out] at ho9
      have b99 := (hBW.trans (bl.mono sW)).trans b9
      obtain ⟨v9a, v9b, v9c, rfl⟩ := ho9.at.shape
      replace ho9 := Lib.hid ho9
      have hS9 : w9.cell? ⟨w.heap.size, 0, none⟩ = some (.int .i64 K) ∧ w9.cell? ⟨w.heap.size, 1, none⟩ = some (.int .i64 R) ∧ w9.cell? ⟨w.heap.size, 2, none⟩ = some (.slice va vn vc) ∧ w9.cell? ta = some (.int .i64 y) := by
        obtain ⟨⟨y0, y1, y2⟩, -, -, -⟩ := q.below b99
        exact ⟨y0, y1, y2, (b9.cell hta0).trans hS1.2.2.2⟩
      refine hK _ _ hS9 ?_
      clear hK KK
      refine head0 ?_
      simp only [List.drop_succ_cons, List.drop_zero]
      clear hS hS1 hS9
      go_wp2
      refine NoPanic.normal ?_
      go_wp2
      go_roundw
      case measure => simp [intOf]; omega
      case rel => exact ⟨i + 1, _, rfl, by go_num, by omega, ho9.out, b99⟩
    · have hke : i = x.length - 2 * R := by omega
      have hfin : (imgP K R T x).take i = imgP K R T x := List.take_of_length_le (by rw [imgP_length]; omega)
      rw [hfin] at hO
      have d1 : decide ((i : Int) + 2 * (R : Int) < (x.length : Int)) = false := decide_eq_false (by omega)
      replace hO := Lib.hid hO
      replace hfin := Lib.hid hfin
      replace hke := Lib.hid hke
      obtain ⟨oa, on, oc, hov⟩ := hO.out.at.shape
      subst hov
      go_wp2
      go_ret
      exact ⟨_, rfl, b0.trans (hB.mono s0), hO.out.mono s0⟩
end Go.Proofs.YtilpckngghffoaaGreatDoor

namespace Go.Proofs.YtilpckngghffoaaGreatDoor

/-- Two words that differ, with the same 2 R symbols at both ends and one image. -/
structure IsTwins (K R : Nat) (T a b : List Int) : Prop where
  sa : Syms K a
  sb : Syms K b
  len : a.length = b.length
  ne : a ≠ b
  low : 2 * R ≤ a.length
  front : a.take (2 * R) = b.take (2 * R)
  back : a.drop (a.length - 2 * R) = b.drop (b.length - 2 * R)
  img : imgP K R T a = imgP K R T b
theorem IsTwins.symm {K R : Nat} {T a b : List Int} (h : IsTwins K R T a b) : IsTwins K R T b a :=
  ⟨h.sb, h.sa, h.len.symm, h.ne.symm, by rw [← h.len]; exact h.low, h.front.symm, h.back.symm, h.img.symm⟩
/-- The nodes of the pair are one. -/
def Diag (N p : Nat) : Prop := p / N = p % N
instance (N p : Nat) : Decidable (Diag N p) := by unfold Diag; exact inferInstance
theorem diag_mk {N u : Nat} (h : u < N) : Diag N (u * N + u) := by unfold Diag; rw [pair_div h, pair_mod h]
theorem Diag.eq {N p : Nat} (h : Diag N p) : p = p / N * N + p / N := by
  have := pair_eq p N
  rw [← h] at this; exact this.symm
/-- A way from a pair of equal nodes through pairs that are apart to a pair of equal nodes. -/
structure ApartWay (N : Nat) (adj : Nat → List Nat) (w : List Nat) : Prop where
  len : 3 ≤ w.length
  low : ∀ i, i < w.length → w.getD i 0 < N * N
  arr : ∀ i, i + 1 < w.length → w.getD (i + 1) 0 ∈ adj (w.getD i 0)
  fst : Diag N (w.getD 0 0)
  lst : Diag N (w.getD (w.length - 1) 0)
  inn : ∀ i, 0 < i → i + 1 < w.length → ¬ Diag N (w.getD i 0)
theorem last_diag {N : Nat} {W : Nat → Nat} (h0 : Diag N (W 0)) : ∀ i, ¬ Diag N (W i) → ∃ k, k < i ∧ Diag N (W k) ∧ ∀ j, k < j → j ≤ i → ¬ Diag N (W j)
  | 0, h => absurd h0 h
  | i + 1, h => by
    by_cases q : Diag N (W i)
    · exact ⟨i, by omega, q, fun j h1 h2 => by obtain rfl : j = i + 1 := by omega
                                               exact h⟩
    · obtain ⟨k, h1, h2, h3⟩ := last_diag h0 i q
      refine ⟨k, by omega, h2, fun j h4 h5 => ?_⟩
      by_cases e : j = i + 1
      · subst e; exact h
      · exact h3 j h4 (by omega)
theorem next_diag {N : Nat} {W : Nat → Nat} {i : Nat} (h : ¬ Diag N (W i)) : ∀ k, Diag N (W (i + k)) → ∃ m, i < m ∧ m ≤ i + k ∧ Diag N (W m) ∧ ∀ j, i ≤ j → j < m → ¬ Diag N (W j)
  | 0, hk => absurd hk h
  | k + 1, hk => by
    by_cases q : ∃ m, i < m ∧ m ≤ i + k ∧ Diag N (W m) ∧ ∀ j, i ≤ j → j < m → ¬ Diag N (W j)
    · obtain ⟨m, h1, h2, h3⟩ := q
      exact ⟨m, h1, by omega, h3⟩
    · refine ⟨i + (k + 1), by omega, Nat.le_refl _, hk, fun j h1 h2 hd => q ?_⟩
      obtain ⟨d, rfl⟩ : ∃ d, j = i + d := ⟨j - i, by omega⟩
      obtain ⟨m, m1, m2, m3⟩ := next_diag h d hd
      exact ⟨m, m1, by omega, m3⟩
theorem list_range_get (f : Nat → Nat) (n i : Nat) (h : i < n) : ((List.range n).map f).getD i 0 = f i := by simp [List.getD, h]
/-- Twins have such a way. -/
theorem IsTwins.way {K R : Nat} {T a b : List Int} (hK : 1 ≤ K) (hR : 1 ≤ R) (h : IsTwins K R T a b) : ∃ w, ApartWay (pw K (2 * R)) (pairL K (pw K (2 * R)) T) w ∧ 2 * R + (w.length - 1) ≤ a.length := by
  have hlen := h.len
  have hlow := h.low
  have hN := pw_pos (K := K) (2 * R) hK
  have na : ∀ i, i + 2 * R ≤ a.length → nodeAt K (2 * R) a i < pw K (2 * R) := fun i hi => node_lt h.sa hi
  have nb : ∀ i, i + 2 * R ≤ a.length → nodeAt K (2 * R) b i < pw K (2 * R) := fun i hi => node_lt h.sb (by omega)
  obtain ⟨W, hW⟩ : ∃ W : Nat → Nat, W = fun i => nodeAt K (2 * R) a i * pw K (2 * R) + nodeAt K (2 * R) b i := ⟨_, rfl⟩
  have hWi : ∀ i, W i = nodeAt K (2 * R) a i * pw K (2 * R) + nodeAt K (2 * R) b i := fun i => by rw [hW]
  have dg : ∀ i, i + 2 * R ≤ a.length → (Diag (pw K (2 * R)) (W i) ↔ nodeAt K (2 * R) a i = nodeAt K (2 * R) b i) := fun i hi => by
    unfold Diag; rw [hWi, pair_div (nb i hi), pair_mod (nb i hi)]
  have d0 : Diag (pw K (2 * R)) (W 0) := by
    rw [dg 0 (by omega)]; unfold nodeAt; rw [List.drop_zero, List.drop_zero, h.front]
  obtain ⟨n, hn⟩ : ∃ n, a.length = n + 2 * R := ⟨a.length - 2 * R, by omega⟩
  have dn : Diag (pw K (2 * R)) (W n) := by
    rw [dg n (by omega)]; unfold nodeAt
    have := h.back
    rw [← hlen, hn, Nat.add_sub_cancel] at this
    rw [this]
  have hex : ∃ i, i ≤ n ∧ ¬ Diag (pw K (2 * R)) (W i) := by
    apply Classical.byContradiction
    intro hno
    have hall : ∀ i, i ≤ n → nodeAt K (2 * R) a i = nodeAt K (2 * R) b i := fun i hi => (dg i (by omega)).1 (Classical.byContradiction fun q => hno ⟨i, hi, q⟩)
    apply h.ne
    have hget : ∀ i, i < n + 1 → ((List.range (n + 1)).map (nodeAt K (2 * R) a)).getD i 0 = nodeAt K (2 * R) a i := fun i hi => list_range_get _ _ _ hi
    have e1 := along_word (F := id) (way := (List.range (n + 1)).map (nodeAt K (2 * R) a)) hK hR h.sa h.low (by simp; omega) (fun i hi => hget i (by simpa using hi))
    have e2 := along_word (F := id) (way := (List.range (n + 1)).map (nodeAt K (2 * R) a)) hK hR h.sb (by omega) (by simp; omega) (fun i hi => by
      have hi : i < n + 1 := by simpa using hi
      show ((List.range (n + 1)).map (nodeAt K (2 * R) a)).getD i 0 = _
      rw [hget i hi, hall i (by omega)])
    rw [← e1, e2]
  obtain ⟨i, hi, hnd⟩ := hex
  obtain ⟨k, k1, k2, k3⟩ := last_diag d0 i hnd
  obtain ⟨m, m1, m2, m3, m4⟩ := next_diag hnd (n - i) (by rw [show i + (n - i) = n by omega]; exact dn)
  have hget : ∀ j, j < m - k + 1 → ((List.range (m - k + 1)).map fun j => W (k + j)).getD j 0 = W (k + j) := fun j hj => list_range_get _ _ _ hj
  refine ⟨(List.range (m - k + 1)).map fun j => W (k + j), ⟨by simp; omega, fun j hj => ?_, fun j hj => ?_, ?_, ?_, fun j j0 j1 => ?_⟩, by simp; omega⟩
  · rw [hget j (by simpa using hj), hWi]
    have : j < m - k + 1 := by simpa using hj
    exact pair_lt (na _ (by omega)) (nb _ (by omega))
  · have hj : j + 1 < m - k + 1 := by simpa using hj
    rw [hget j (by omega), hget (j + 1) hj, mem_pairL (by omega), hWi, hWi, pair_div (nb _ (by omega)), pair_mod (nb _ (by omega)), ← Nat.add_assoc]
    exact wayW_arr h.sa h.sb hlen h.img (by omega)
  · rw [hget 0 (by omega)]; exact k2
  · rw [List.length_map, List.length_range, Nat.add_sub_cancel, hget _ (by omega), show k + (m - k) = m by omega]; exact m3
  · have hj : j + 1 < m - k + 1 := by simpa using j1
    rw [hget j (by omega)]
    by_cases q : k + j ≤ i
    · exact k3 _ (by omega) q
    · exact m4 _ (by omega) (by omega)
/-- A way of pairs gives two words with one image. -/
theorem ways_words {K R : Nat} {T : List Int} {w : List Nat} (hK : 1 ≤ K) (hR : 1 ≤ R) (hw : 1 ≤ w.length) (low : ∀ i, i < w.length → w.getD i 0 < pw K (2 * R) * pw K (2 * R))
    (arr : ∀ i, i + 1 < w.length → w.getD (i + 1) 0 ∈ pairL K (pw K (2 * R)) T (w.getD i 0)) :
    (∀ i, i < w.length → nodeAt K (2 * R) (alongW K (2 * R) (· / pw K (2 * R)) w) i = w.getD i 0 / pw K (2 * R) ∧ nodeAt K (2 * R) (alongW K (2 * R) (· % pw K (2 * R)) w) i = w.getD i 0 % pw K (2 * R)) ∧
    imgP K R T (alongW K (2 * R) (· / pw K (2 * R)) w) = imgP K R T (alongW K (2 * R) (· % pw K (2 * R)) w) := by
  have hN := pw_pos (K := K) (2 * R) hK
  have fits : ∀ i, i + 1 < w.length → StepFits K (pw K (2 * R)) T (w.getD i 0) (w.getD (i + 1) 0) := fun i hi =>
    (fits_iff hK hR (low _ hi)).2 ((mem_pairL (by omega)).1 (arr i hi))
  have n1 := along_node (K := K) (m := 2 * R) (F := (· / pw K (2 * R))) (way := w) hK (div_lt_of (low 0 (by omega))) (fun i hi => (fits i hi).1)
  have n2 := along_node (K := K) (m := 2 * R) (F := (· % pw K (2 * R))) (way := w) hK (Nat.mod_lt _ (by omega)) (fun i hi => (fits i hi).2.1)
  refine ⟨fun i hi => ⟨n1 i hi, n2 i hi⟩, ?_⟩
  rw [img_eq (by rw [alongW_len, alongW_len])]
  intro i hi
  rw [alongW_len] at hi
  rw [n1 i (by omega), n2 i (by omega), alongW_get (by omega), alongW_get (by omega), Int.toNat_natCast, Int.toNat_natCast]
  exact (fits i (by omega)).2.2
/-- Such a way has twins. -/
theorem ApartWay.twins {K R : Nat} {T : List Int} {w : List Nat} (hK : 1 ≤ K) (hR : 1 ≤ R) (h : ApartWay (pw K (2 * R)) (pairL K (pw K (2 * R)) T) w) :
    IsTwins K R T (alongW K (2 * R) (· / pw K (2 * R)) w) (alongW K (2 * R) (· % pw K (2 * R)) w) := by
  have hN := pw_pos (K := K) (2 * R) hK
  have h3 := h.len
  obtain ⟨hn, hi⟩ := ways_words hK hR (by omega) h.low h.arr
  have la := alongW_len K (2 * R) (· / pw K (2 * R)) w
  have lb := alongW_len K (2 * R) (· % pw K (2 * R)) w
  have sa := alongW_syms (m := 2 * R) hK (· / pw K (2 * R)) w
  have sb := alongW_syms (m := 2 * R) hK (· % pw K (2 * R)) w
  generalize alongW K (2 * R) (· / pw K (2 * R)) w = a at *
  generalize alongW K (2 * R) (· % pw K (2 * R)) w = b at *
  have same : ∀ i, i < w.length → Diag (pw K (2 * R)) (w.getD i 0) → (a.drop i).take (2 * R) = (b.drop i).take (2 * R) := fun i hi hd => by
    obtain ⟨e1, e2⟩ := hn i hi
    have q1 := digs_numW hK _ (syms_take (syms_drop sa i) (2 * R))
    have q2 := digs_numW hK _ (syms_take (syms_drop sb i) (2 * R))
    rw [show ((a.drop i).take (2 * R)).length = 2 * R by simp; omega] at q1
    rw [show ((b.drop i).take (2 * R)).length = 2 * R by simp; omega] at q2
    rw [← q1, ← q2]
    show digs K (2 * R) (nodeAt K (2 * R) a i) = digs K (2 * R) (nodeAt K (2 * R) b i)
    rw [e1, e2, hd]
  refine ⟨sa, sb, by omega, fun e => ?_, by omega, ?_, ?_, hi⟩
  · subst e
    obtain ⟨e1, e2⟩ := hn 1 (by omega)
    exact h.inn 1 (by omega) (by omega) (e1.symm.trans e2)
  · have := same 0 (by omega) h.fst
    simpa using this
  · have := same (w.length - 1) (by omega) h.lst
    rw [List.take_of_length_le (by simp; omega), List.take_of_length_le (by simp; omega)] at this
    rw [show a.length - 2 * R = w.length - 1 by omega, show b.length - 2 * R = w.length - 1 by omega]
    exact this

/-- The least length of twins. -/
def TwinLen (K R : Nat) (T : List Int) (n : Nat) : Prop := (∃ a b, IsTwins K R T a b ∧ a.length = n) ∧ ∀ a b, IsTwins K R T a b → n ≤ a.length
theorem TwinLen.unique {K R : Nat} {T : List Int} {n m : Nat} (h : TwinLen K R T n) (k : TwinLen K R T m) : n = m := by
  obtain ⟨⟨a, b, h1, rfl⟩, h2⟩ := h
  obtain ⟨⟨c, d, k1, rfl⟩, k2⟩ := k
  exact Nat.le_antisymm (h2 _ _ k1) (k2 _ _ h1)
theorem way_twinLen {K R : Nat} {T : List Int} {w : List Nat} (hK : 1 ≤ K) (hR : 1 ≤ R) (h : ApartWay (pw K (2 * R)) (pairL K (pw K (2 * R)) T) w)
    (hm : ∀ u, ApartWay (pw K (2 * R)) (pairL K (pw K (2 * R)) T) u → w.length ≤ u.length) : TwinLen K R T (2 * R + (w.length - 1)) := by
  refine ⟨⟨_, _, h.twins hK hR, alongW_len ..⟩, fun a b hab => ?_⟩
  obtain ⟨u, hu, hl⟩ := hab.way hK hR
  have := hm u hu
  omega
theorem no_twins {K R : Nat} {T : List Int} (hK : 1 ≤ K) (hR : 1 ≤ R) (hm : ∀ u, ¬ ApartWay (pw K (2 * R)) (pairL K (pw K (2 * R)) T) u) (a b : List Int) : ¬ IsTwins K R T a b := fun h => by
  obtain ⟨u, hu, _⟩ := h.way hK hR
  exact hm u hu
end Go.Proofs.YtilpckngghffoaaGreatDoor

namespace Go.Proofs.YtilpckngghffoaaGreatDoor

/-- The table with the radius R + d. -/
def wideT (K R d : Nat) (T : List Int) : List Int := (List.range (pw K (2 * (R + d) + 1))).map fun i => T.getD (numW K (((digs K (2 * (R + d) + 1) i).drop d).take (2 * R + 1))) 0
theorem wideT_length (K R d : Nat) (T : List Int) : (wideT K R d T).length = pw K (2 * (R + d) + 1) := by simp [wideT]
theorem wideT_ok {K R d : Nat} {T : List Int} (h : RuleOk K R T) (hd : R + d ≤ 3) : RuleOk K (R + d) (wideT K R d T) :=
  ⟨h.k1, h.k4, hd, wideT_length .., fun y hy => by
    obtain ⟨i, _, rfl⟩ := List.mem_map.1 hy
    exact h.syms.getD (by have := h.k1; omega) _⟩
theorem wideT_at {K R d : Nat} {T : List Int} (hK : 1 ≤ K) (w : List Int) (hw : Syms K w) (hl : w.length = 2 * (R + d) + 1) : (wideT K R d T).getD (numW K w) 0 = T.getD (numW K ((w.drop d).take (2 * R + 1))) 0 := by
  have hlt := numW_lt w hw
  rw [hl] at hlt
  have : (wideT K R d T).getD (numW K w) 0 = T.getD (numW K (((digs K (2 * (R + d) + 1) (numW K w)).drop d).take (2 * R + 1))) 0 := by simp [wideT, List.getD, hlt]
  rw [this, ← hl, digs_numW hK w hw]
end Go.Proofs.YtilpckngghffoaaGreatDoor

namespace Go.Proofs.YtilpckngghffoaaGreatDoor
open Go.RowKit
set_option maxRecDepth 100000

set_option maxHeartbeats 1000000 in
theorem widened1_any (K R d : Nat) (va : Option Addr) (vn vc : Nat) (T : List Int) (p q : Nat) (v : Value) (ys : List Int) (w : World)
    (h : IntsAt w (.slice va vn vc) T) (hr : RuleOk K R T) (hv : IntsAt w v ys) (hy : Syms K ys) (hyl : ys.length = 2 * (R + d) + 1)
    (hRd : R + d ≤ 3)
    (x0 : w.cell? ⟨p, 0, none⟩ = some (.int .i64 K)) (x1 : w.cell? ⟨p, 1, none⟩ = some (.int .i64 R)) (x2 : w.cell? ⟨p, 2, none⟩ = some (.slice va vn vc)) (x3 : w.cell? ⟨q, 0, none⟩ = some (.int .i64 d)) :
    Calls Tryz.prog 171 #[v, .pointer (some ⟨p, 0, none⟩), .pointer (some ⟨q, 0, none⟩)] w (Ret1 (fun x _ => x = .int .i64 (T.getD (numW K ((ys.drop d).take (2 * R + 1))) 0)) w) := by
  have lv := hv.len
  obtain ⟨u, hu, hiu⟩ := hv.mid d (ys.length - d) (by omega) (by omega)
  have eL : (ys.take (ys.length - d)).drop d = (ys.drop d).take (2 * R + 1) := by
    rw [List.drop_take]; congr 1; omega
  rw [eL] at hiu
  have hD : (ys.length : Int) - (d : Int) = ((ys.length - d : Nat) : Int) := by omega
  have hle : ys.length ≤ 7 := by omega
  have hsy : Syms K ((ys.drop d).take (2 * R + 1)) := syms_take (syms_drop hy _) _
  have hsl : ((ys.drop d).take (2 * R + 1)).length = 2 * R + 1 := by simp; omega
  generalize hY : T.getD (numW K ((ys.drop d).take (2 * R + 1))) 0 = Y
  generalize (ys.drop d).take (2 * R + 1) = zs at *
  obtain ⟨e, hee⟩ : ∃ e, ys.length - d = e := ⟨_, rfl⟩
  rw [hee] at hD hu
  have he7 : e ≤ 7 := by omega
  have hwe : IntKind.i64.wrap (e : Int) = e := wrapK (by omega) (by omega)
  obtain ⟨L, hL⟩ : ∃ L, ys.length = L := ⟨_, rfl⟩
  rw [hL] at lv hD hle
  have hd3 : d ≤ 3 := by omega
  replace hY := Lib.hid hY
  replace h := Lib.hid h
  replace hv := Lib.hid hv
  replace hy := Lib.hid hy
  replace hsy := Lib.hid hsy
  replace hsl := Lib.hid hsl
  replace hyl := Lib.hid hyl
  replace hr := Lib.hid hr
  replace hiu := Lib.hid hiu
  replace hL := Lib.hid hL
  clear hee eL
  go_enter Tryz.func171, Tryz.ntmps171
  go_upto_region 1 with fail
  refine wp_region_plan (fun w' => w'.cell? ⟨p, 0, none⟩ = some (.int .i64 K) ∧ w'.cell? ⟨p, 1, none⟩ = some (.int .i64 R) ∧ w'.cell? ⟨p, 2, none⟩ = some (.slice va vn vc) ∧ w'.cell? ⟨q, 0, none⟩ = some (.int .i64 d)) 9 [(0, true), (1, true), (2, true), (3, true), (4, true), (5, true), (6, true), (7, true), (8, false)] (by kernel_rfl) (by kernel_rfl) ?_
  have hS : w.drew.cell? ⟨p, 0, none⟩ = some (.int .i64 K) ∧ w.drew.cell? ⟨p, 1, none⟩ = some (.int .i64 R) ∧ w.drew.cell? ⟨p, 2, none⟩ = some (.slice va vn vc) ∧ w.drew.cell? ⟨q, 0, none⟩ = some (.int .i64 d) := ⟨x0, x1, x2, x3⟩
  refine headY (v := ?_) (some 5) rfl rfl (Or.inl ⟨by rfl, ?_⟩) hS ?_
  rotate_left
  · rintro W' ⟨s0, s1, s2, s3⟩; go_simp; try with_reducible rfl
  simp only [Act.put, List.setIfInBounds_toArray, List.set_cons_zero, List.set_cons_succ]
  refine headY (v := ?_) (some 6) rfl rfl (Or.inl ⟨by rfl, ?_⟩) hS ?_
  rotate_left
  · rintro W' ⟨s0, s1, s2, s3⟩; go_simp; try with_reducible rfl
  simp only [Act.put, List.setIfInBounds_toArray, List.set_cons_zero, List.set_cons_succ]
  refine headY (v := ?_) (some 7) rfl rfl (Or.inl ⟨by rfl, ?_⟩) hS ?_
  rotate_left
  · rintro W' ⟨s0, s1, s2, s3⟩; go_simp; try with_reducible rfl
  simp only [Act.put, List.setIfInBounds_toArray, List.set_cons_zero, List.set_cons_succ]
  refine headY (v := ?_) (some 8) rfl rfl (Or.inl ⟨by rfl, ?_⟩) hS ?_
  rotate_left
  · rintro W' ⟨s0, s1, s2, s3⟩; go_simp; try with_reducible rfl
  simp only [Act.put, List.setIfInBounds_toArray, List.set_cons_zero, List.set_cons_succ]
  refine headY (v := ?_) (some 9) rfl rfl (Or.inl ⟨by rfl, ?_⟩) hS ?_
  rotate_left
  · rintro W' ⟨s0, s1, s2, s3⟩; go_simp; try with_reducible rfl
  simp only [Act.put, List.setIfInBounds_toArray, List.set_cons_zero, List.set_cons_succ]
  refine headY (v := ?_) (some 10) rfl rfl (Or.inl ⟨by rfl, ?_⟩) hS ?_
  rotate_left
  · rintro W' ⟨s0, s1, s2, s3⟩; go_simp; try with_reducible rfl
  simp only [Act.put, List.setIfInBounds_toArray, List.set_cons_zero, List.set_cons_succ]
  refine headY (v := ?_) (some 11) rfl rfl (Or.inl ⟨by rfl, ?_⟩) hS ?_
  rotate_left
  · rintro W' ⟨s0, s1, s2, s3⟩; go_simp; try with_reducible rfl
  simp only [Act.put, List.setIfInBounds_toArray, List.set_cons_zero, List.set_cons_succ]
  refine headY (v := ?_) (some 12) rfl rfl (Or.inl ⟨by rfl, ?_⟩) hS ?_
  rotate_left
  · rintro W' ⟨s0, s1, s2, s3⟩; go_simp; try with_reducible rfl
  simp only [Act.put, List.setIfInBounds_toArray, List.set_cons_zero, List.set_cons_succ]
  refine headC rfl (fun KK hK => ?_)
  go_simp
  refine (symbol_any K R va vn vc T u zs _ h.out.drew hr.out hiu.out.drew hsy.out hsl.out).mono ?_
  rintro e w1 ⟨x, rfl, b1, rfl⟩
  rw [hY.out]
  have hS1 : w1.cell? ⟨p, 0, none⟩ = some (.int .i64 K) ∧ w1.cell? ⟨p, 1, none⟩ = some (.int .i64 R) ∧ w1.cell? ⟨p, 2, none⟩ = some (.slice va vn vc) ∧ w1.cell? ⟨q, 0, none⟩ = some (.int .i64 d) := ⟨cell_keep b1 hS.1, cell_keep b1 hS.2.1, cell_keep b1 hS.2.2.1, cell_keep b1 hS.2.2.2⟩
  refine hK _ _ hS1 ?_
  clear hK KK
  refine head0 ?_
  simp only [List.drop_succ_cons, List.drop_zero]
  clear hS hS1
  go_wp2
  refine NoPanic.normal ?_
  go_wp2
  go_ret
  exact ⟨_, rfl, Below.step ((Below.refl _ _).drew) b1, rfl⟩
theorem eg_widened1 (args : Array Value) (w : World) : (callFunc 171 args).run Tryz.prog w = .ok (.enter 171 args) w := by kernel_rfl
theorem madeP_wide (K R d : Nat) (T : List Int) : madeP K (2 * (R + d) + 1) (fun ys => T.getD (numW K ((ys.drop d).take (2 * R + 1))) 0) (pw K (2 * (R + d) + 1)) = wideT K R d T := rfl

set_option maxHeartbeats 1000000 in
theorem widened_any (K R d : Nat) (va : Option Addr) (vn vc : Nat) (T : List Int) (w : World) (h : IntsAt w (.slice va vn vc) T) (hr : RuleOk K R T) (hRd : R + d ≤ 3) (Ri : Int) (hRi : Ri = ((R + d : Nat) : Int)) :
    Calls Tryz.prog 145 #[.agg #[.int .i64 K, .int .i64 R, .slice va vn vc], .int .i64 Ri] w (Ret1 (fun x w' => ∃ a n c, x = .agg #[.int .i64 K, .int .i64 ((R + d : Nat) : Int), .slice a n c] ∧ OwnI w.heap.size w' (.slice a n c) (wideT K R d T)) w) := by
  have b0 := Below.step (belowAlloc w (.cells #[.int .i64 K, .int .i64 R, .slice va vn vc] 24)) (belowAlloc _ (.cells #[.int .i64 0, .int .i64 0, .slice none 0 0] 24))
  have b3 := Below.step b0 (belowAlloc _ (.cells #[.int .i64 d] 3))
  have q1 : Box3 (((w.alloc (.cells #[.int .i64 K, .int .i64 R, .slice va vn vc] 24)).alloc (.cells #[.int .i64 0, .int .i64 0, .slice none 0 0] 24)).alloc (.cells #[.int .i64 d] 3)) w.heap.size (.int .i64 K) (.int .i64 R) (.slice va vn vc) := by simp [Box3, go_sem]
  have q2 : Box3 (((w.alloc (.cells #[.int .i64 K, .int .i64 R, .slice va vn vc] 24)).alloc (.cells #[.int .i64 0, .int .i64 0, .slice none 0 0] 24)).alloc (.cells #[.int .i64 d] 3)) (w.heap.size + 1) (.int .i64 0) (.int .i64 0) (.slice none 0 0) := by simp [Box3, go_sem]
  have q3 : (((w.alloc (.cells #[.int .i64 K, .int .i64 R, .slice va vn vc] 24)).alloc (.cells #[.int .i64 0, .int .i64 0, .slice none 0 0] 24)).alloc (.cells #[.int .i64 d] 3)).cell? ⟨w.heap.size + 2, 0, none⟩ = some (.int .i64 d) := by simp [go_sem]
  have hk1 := hr.k1
  have hk4 := hr.k4
  have hR3 := hr.r3
  have hsub : Ri - (R : Int) = (d : Int) := by omega
  have hRi3 : 0 ≤ Ri ∧ Ri ≤ 3 := by omega
  have h3 := h.below b3
  obtain ⟨W3, hW3⟩ : ∃ W3 : World, W3 = ((w.alloc (.cells #[.int .i64 K, .int .i64 R, .slice va vn vc] 24)).alloc (.cells #[.int .i64 0, .int .i64 0, .slice none 0 0] 24)).alloc (.cells #[.int .i64 d] 3) := ⟨_, rfl⟩
  have s3 : W3.heap.size = w.heap.size + 3 := by rw [hW3]; simp
  rw [← hW3] at b3 q1 q2 q3 h3
  replace hRi := Lib.hid hRi
  replace hr := Lib.hid hr
  replace hW3 := Lib.hid hW3
  replace s3 := Lib.hid s3
  replace q2 := Lib.hid q2
  replace h3 := Lib.hid h3
  go_enter Tryz.func145, Tryz.ntmps145
  go_wp2_with fail
  rw [← hW3.out]
  refine (made_two K (R + d) _ (.pointer (some ⟨w.heap.size, 0, none⟩)) (.pointer (some ⟨w.heap.size + 2, 0, none⟩)) (fun ys => T.getD (numW K ((ys.drop d).take (2 * R + 1))) 0) W3 hk1 hk4 hRd Ri hRi.out eg_widened1 (fun v ys w' hB hv hy hyl => by
    have q11 := q1.below hB
    exact widened1_any K R d va vn vc T _ _ v ys w' (h3.out.below hB) hr.out hv hy hyl hRd q11.1.1 q11.1.2.1 q11.1.2.2 (cell_keep hB q3))).mono ?_
  rintro e w4 ⟨x, rfl, b4, a, n, c, rfl, ho⟩
  rw [madeP_wide] at ho
  obtain ⟨⟨y0, y1, y2⟩, f0, f1, f2⟩ := q2.out.below b4
  replace ho := Lib.hid ho
  clear q1 q3
  go_wp2
  refine bodyPost_ret (v := .agg #[.int .i64 K, .int .i64 ((R + d : Nat) : Int), .slice a n c]) (by simp [results, Tryz.results145, go_sem, y0, y1, y2]) rfl ⟨_, rfl, below_set3 (Below.step b3 b4) (Nat.le_succ _) _ _ _, a, n, c, rfl, ?_⟩
  have := s3.out
  exact (((ho.out.setBelowBase (a := ⟨w.heap.size + 1, 0, none⟩) (by simp; omega) _).setBelowBase (a := ⟨w.heap.size + 1, 1, none⟩) (by simp; omega) _).setBelowBase (a := ⟨w.heap.size + 1, 2, none⟩) (by simp; omega) _).mono (by omega)
end Go.Proofs.YtilpckngghffoaaGreatDoor

namespace Go.Proofs.YtilpckngghffoaaGreatDoor
open Go.RowKit
set_option maxRecDepth 100000

theorem smallP_small {K R : Nat} {T : List Int} (h : RuleOk K R T) (hl : T.length ≤ 256) : smallP K R T = none := by rw [smallP_ok h, if_neg (by omega)]

theorem over_Nodes (r : Nat → Addr) (K R : Nat) (va : Option Addr) (vn vc : Nat) (T : List Int) (w : World) (hg : Glob r w) (h : IntsAt w (.slice va vn vc) T) (hok : RuleOk K R T) (hl : T.length ≤ 256) :
    Calls Tryz.prog 60 #[.agg #[.int .i64 K, .int .i64 R, .slice va vn vc]] w (Ret2 (fun x y _ => x = .int .i64 ((T.length / K : Nat) : Int) ∧ y = .nilIface) w) := by
  have b0 := belowAlloc w (.cells #[.int .i64 K, .int .i64 R, .slice va vn vc] 24)
  have q : Box3 (w.alloc (.cells #[.int .i64 K, .int .i64 R, .slice va vn vc] 24)) w.heap.size (.int .i64 K) (.int .i64 R) (.slice va vn vc) := by simp [Box3, go_sem]
  have hs := smallP_small hok hl
  have hk1 := hok.k1
  generalize hN : T.length / K = N
  replace hN := Lib.hid hN
  replace hs := Lib.hid hs
  replace hg := Lib.hid (hg.below b0)
  replace h := Lib.hid (h.below b0)
  go_enter Tryz.func60, Tryz.ntmps60
  go_wp2_with fail
  refine (over_small r K R va vn vc T _ hg.out h.out).mono ?_
  rintro e w1 ⟨x, rfl, b1, he⟩
  rw [hs.out] at he
  obtain rfl := ErrIs.none_eq he
  obtain ⟨⟨z0, z1, z2⟩, -, -, -⟩ := q.below b1
  go_wp2_with fail
  refine (over_nodes K R va vn vc T _ (h.out.below b1) hk1 (by omega)).mono ?_
  rintro e w2 ⟨rfl, rfl⟩
  rw [hN.out]
  go_wp2
  go_ret2
  exact ⟨_, _, rfl, Below.step b0 (Below.step b1 (belowAlloc _ _)), rfl, rfl⟩

set_option maxHeartbeats 1000000 in
theorem over_Edge (r : Nat → Addr) (K R : Nat) (va : Option Addr) (vn vc : Nat) (T : List Int) (u s : Nat) (w : World) (hg : Glob r w) (h : IntsAt w (.slice va vn vc) T) (hok : RuleOk K R T) (hl : T.length ≤ 256) (hu : u < T.length / K) (hs : s < K) :
    Calls Tryz.prog 65 #[.agg #[.int .i64 K, .int .i64 R, .slice va vn vc], .int .i64 u, .int .i64 s] w (Ret3 (fun x y z _ => x = .int .i64 (toN K (T.length / K) u s) ∧ y = .int .i64 (labN K T u s) ∧ z = .nilIface) w) := by
  have b0 := belowAlloc w (.cells #[.int .i64 K, .int .i64 R, .slice va vn vc] 24)
  have q : Box3 (w.alloc (.cells #[.int .i64 K, .int .i64 R, .slice va vn vc] 24)) w.heap.size (.int .i64 K) (.int .i64 R) (.slice va vn vc) := by simp [Box3, go_sem]
  have hsm := smallP_small hok hl
  have hk1 := hok.k1
  have hk4 := hok.k4
  have hul : u * K + s < T.length := by
    have := Nat.div_mul_le_self T.length K
    have := mul_add_lt (q := u) (m := T.length / K) hs hu
    omega
  have hN0 : T.length / K ≤ 256 := Nat.le_trans (Nat.div_le_self _ _) hl
  have huK : u * K ≤ 256 := by omega
  obtain ⟨p, hp⟩ : ∃ n, u * K = n := ⟨_, rfl⟩
  have hM : (u : Int) * (K : Int) = (p : Int) := by rw [← hp]; simp
  obtain ⟨at_, hat⟩ : ∃ n, u * K + s = n := ⟨_, rfl⟩
  have hA : (p : Int) + (s : Int) = (at_ : Int) := by rw [← hat, hp]; simp
  have i1 := fun w' => h.idx at_ (by omega) w'
  have c1 := h.cellD at_ (by omega)
  generalize valAt (.slice va vn vc) at_ = ta at *
  have hb1 := h.below b0
  have e1 : labN K T u s = T.getD at_ 0 := by unfold labN; rw [hat]
  have e2 : toN K (T.length / K) u s = at_ % (T.length / K) := by unfold toN; rw [hat]
  rw [e1, e2]
  generalize T.getD at_ 0 = y at *
  obtain ⟨N, hN⟩ : ∃ N, T.length / K = N := ⟨_, rfl⟩
  rw [hN] at hu hN0 ⊢
  have hN1 : ¬ (N : Int) = 0 := by omega
  have hN2 : ((N : Int) == 0) = false := by rw [beq_eq_false_iff_ne]; omega
  have hN3 : (0 : Int) < N := by omega
  have hN4 : ¬ N = 0 := by omega
  have hrem : (at_ : Int).tmod (N : Int) = ((at_ % N : Nat) : Int) := by rw [Int.tmod_eq_emod_of_nonneg (by omega)]; simp
  have hat1 : at_ ≤ 256 := by omega
  rw [hat] at hul
  rw [hp] at huK hat
  have hps : (p : Int) + (s : Int) ≤ 256 := by omega
  clear hat hp
  have c1' := (b0.cell (World.block_lt_of_cell? _ _ c1)).trans c1
  replace hN := Lib.hid hN
  replace hsm := Lib.hid hsm
  replace hg := Lib.hid (hg.below b0)
  replace h := Lib.hid hb1
  clear c1 e1 e2 hb1
  go_enter Tryz.func65, Tryz.ntmps65
  go_wp2_with fail
  refine (over_small r K R va vn vc T _ hg.out h.out).mono ?_
  rintro e w1 ⟨x, rfl, b1, he⟩
  rw [hsm.out] at he
  obtain rfl := ErrIs.none_eq he
  have q1 := q.below b1
  obtain ⟨⟨z0, z1, z2⟩, -, -, -⟩ := q1
  have q1 := Lib.hid (q.below b1)
  go_wp2_with fail
  refine (over_nodes K R va vn vc T _ (h.out.below b1) hk1 (by omega)).mono ?_
  rintro e w2 ⟨rfl, rfl⟩
  rw [hN.out]
  have b2 := Below.step b1 (belowAlloc w1 (.cells #[.int .i64 K, .int .i64 R, .slice va vn vc] 24))
  obtain ⟨W2, hW2⟩ : ∃ W2 : World, W2 = w1.alloc (.cells #[.int .i64 K, .int .i64 R, .slice va vn vc] 24) := ⟨_, rfl⟩
  rw [← hW2] at b2 ⊢
  have q2 := q.below b2
  have hT2 := h.out.below b2
  have cT2 := (b2.cell (World.block_lt_of_cell? _ _ c1')).trans c1'
  clear hW2 z0 z1 z2 c1'
  obtain ⟨⟨z0, z1, z2⟩, -, -, -⟩ := q2
  replace hT2 := Lib.hid hT2
  go_upto_region 9 with fail
  refine wp_region_plan (fun w' => w'.cell? ⟨w.heap.size, 0, none⟩ = some (.int .i64 K) ∧ w'.cell? ⟨w.heap.size, 1, none⟩ = some (.int .i64 R) ∧ w'.cell? ⟨w.heap.size, 2, none⟩ = some (.slice va vn vc) ∧ w'.cell? ta = some (.int .i64 y)) 11 [(0, true), (1, true), (4, true), (5, true), (6, true), (7, true), (8, true), (2, false), (3, true), (9, true), (10, true)] (by kernel_rfl) (by kernel_rfl) ?_
  have hS : W2.drew.cell? ⟨w.heap.size, 0, none⟩ = some (.int .i64 K) ∧ W2.drew.cell? ⟨w.heap.size, 1, none⟩ = some (.int .i64 R) ∧ W2.drew.cell? ⟨w.heap.size, 2, none⟩ = some (.slice va vn vc) ∧ W2.drew.cell? ta = some (.int .i64 y) := ⟨z0, z1, z2, cT2⟩
  refine headY (v := ?_) (some 42) rfl rfl (Or.inl ⟨by rfl, ?_⟩) hS ?_
  rotate_left
  · rintro W' ⟨s0, s1, s2, s3⟩; go_simp; try with_reducible rfl
  simp only [Act.put, List.setIfInBounds_toArray, List.set_cons_zero, List.set_cons_succ]
  refine headY (v := ?_) (some 43) rfl rfl (Or.inl ⟨by rfl, ?_⟩) hS ?_
  rotate_left
  · rintro W' ⟨s0, s1, s2, s3⟩; go_simp; try with_reducible rfl
  simp only [Act.put, List.setIfInBounds_toArray, List.set_cons_zero, List.set_cons_succ]
  refine headY (v := ?_) (some 46) rfl rfl (Or.inl ⟨by rfl, ?_⟩) hS ?_
  rotate_left
  · rintro W' ⟨s0, s1, s2, s3⟩; go_simp; try with_reducible rfl
  simp only [Act.put, List.setIfInBounds_toArray, List.set_cons_zero, List.set_cons_succ]
  refine headY (v := ?_) (some 47) rfl rfl (Or.inl ⟨by rfl, ?_⟩) hS ?_
  rotate_left
  · rintro W' ⟨s0, s1, s2, s3⟩; go_simp; try with_reducible rfl
  simp only [Act.put, List.setIfInBounds_toArray, List.set_cons_zero, List.set_cons_succ]
  refine headY (v := ?_) (some 48) rfl rfl (Or.inl ⟨by rfl, ?_⟩) hS ?_
  rotate_left
  · rintro W' ⟨s0, s1, s2, s3⟩; go_simp; try with_reducible rfl
  simp only [Act.put, List.setIfInBounds_toArray, List.set_cons_zero, List.set_cons_succ]
  refine headY (v := ?_) (some 49) rfl rfl (Or.inl ⟨by rfl, ?_⟩) hS ?_
  rotate_left
  · rintro W' ⟨s0, s1, s2, s3⟩; go_simp; try with_reducible rfl
  simp only [Act.put, List.setIfInBounds_toArray, List.set_cons_zero, List.set_cons_succ]
  refine headY (v := ?_) (some 50) rfl rfl (Or.inl ⟨by rfl, ?_⟩) hS ?_
  rotate_left
  · rintro W' ⟨s0, s1, s2, s3⟩; go_simp; try with_reducible rfl
  simp only [Act.put, List.setIfInBounds_toArray, List.set_cons_zero, List.set_cons_succ]
  refine headC rfl (fun KK hK => ?_)
  go_simp
  refine (over_nodes K R va vn vc T _ hT2.out.drew hk1 (by omega)).mono ?_
  rintro e W3 ⟨rfl, rfl⟩
  rw [hN.out]
  have b3 := belowAlloc W2.drew (.cells #[.int .i64 K, .int .i64 R, .slice va vn vc] 24)
  have hS3 := (⟨cell_keep b3 hS.1, cell_keep b3 hS.2.1, cell_keep b3 hS.2.2.1, (b3.cell (World.block_lt_of_cell? _ _ hS.2.2.2)).trans hS.2.2.2⟩ : (W2.drew.alloc (.cells #[.int .i64 K, .int .i64 R, .slice va vn vc] 24)).cell? ⟨w.heap.size, 0, none⟩ = some (.int .i64 K) ∧ (W2.drew.alloc (.cells #[.int .i64 K, .int .i64 R, .slice va vn vc] 24)).cell? ⟨w.heap.size, 1, none⟩ = some (.int .i64 R) ∧ (W2.drew.alloc (.cells #[.int .i64 K, .int .i64 R, .slice va vn vc] 24)).cell? ⟨w.heap.size, 2, none⟩ = some (.slice va vn vc) ∧ (W2.drew.alloc (.cells #[.int .i64 K, .int .i64 R, .slice va vn vc] 24)).cell? ta = some (.int .i64 y))
  refine hK _ _ hS3 ?_
  clear hK KK
  refine headY (v := ?_) (some 45) rfl rfl (Or.inl ⟨by rfl, ?_⟩) hS3 ?_
  rotate_left
  · rintro W' ⟨s0, s1, s2, s3⟩; go_simp; try with_reducible rfl
  simp only [Act.put, List.setIfInBounds_toArray, List.set_cons_zero, List.set_cons_succ]
  refine headY (v := ?_) (some 6) rfl rfl (Or.inl ⟨by rfl, ?_⟩) hS3 ?_
  rotate_left
  · rintro W' ⟨s0, s1, s2, s3⟩; go_simp; try with_reducible rfl
  simp only [Act.put, List.setIfInBounds_toArray, List.set_cons_zero, List.set_cons_succ]
  refine headY (v := ?_) (some 7) rfl rfl (Or.inl ⟨by rfl, ?_⟩) hS3 ?_
  rotate_left
  · rintro W' ⟨s0, s1, s2, s3⟩; go_simp; try with_reducible rfl
  simp only [Act.put, List.setIfInBounds_toArray, List.set_cons_zero, List.set_cons_succ]
  refine head0 ?_
  simp only [List.drop_succ_cons, List.drop_zero]
  clear hS hS3
  go_wp2
  refine NoPanic.normal ?_
  go_wp2
  go_ret3
  exact ⟨_, _, _, rfl, Below.step b0 (Below.step b2 ((Below.refl _ _).drew.alloc (Nat.le_refl _) _)), rfl, rfl, rfl⟩
end Go.Proofs.YtilpckngghffoaaGreatDoor

namespace Go.Proofs.YtilpckngghffoaaGreatDoor
open Go.RowKit
set_option maxRecDepth 100000

set_option maxHeartbeats 1000000 in
theorem fwiden_ok (r : Nat → Addr) (K R d : Nat) (va : Option Addr) (vn vc : Nat) (T : List Int) (w : World) (hg : Glob r w) (h : IntsAt w (.slice va vn vc) T) (hr : RuleOk K R T) (hRd : R + d ≤ 3) (Ri : Int) (hRi : Ri = ((R + d : Nat) : Int)) :
    Calls Tryz.prog 112 #[.agg #[.int .i64 K, .int .i64 R, .slice va vn vc], .int .i64 Ri] w (Ret2 (fun x y w' => y = .nilIface ∧ ∃ a n c, x = .agg #[.int .i64 K, .int .i64 ((R + d : Nat) : Int), .slice a n c] ∧ OwnI w.heap.size w' (.slice a n c) (wideT K R d T)) w) := by
  have b0 := Below.step (belowAlloc w (.cells #[.int .i64 K, .int .i64 R, .slice va vn vc] 24)) (belowAlloc _ (.cells #[.int .i64 0, .int .i64 0, .slice none 0 0] 24))
  have q2 : Box3 ((w.alloc (.cells #[.int .i64 K, .int .i64 R, .slice va vn vc] 24)).alloc (.cells #[.int .i64 0, .int .i64 0, .slice none 0 0] 24)) (w.heap.size + 1) (.int .i64 0) (.int .i64 0) (.slice none 0 0) := by simp [Box3, go_sem]
  have q1 : Box3 ((w.alloc (.cells #[.int .i64 K, .int .i64 R, .slice va vn vc] 24)).alloc (.cells #[.int .i64 0, .int .i64 0, .slice none 0 0] 24)) w.heap.size (.int .i64 K) (.int .i64 R) (.slice va vn vc) := by simp [Box3, go_sem]
  have hk1 := hr.k1
  have hk4 := hr.k4
  have hR3 := hr.r3
  have hck := Lib.hid hr.check
  have h1 : R ≤ Ri := by omega
  have h2 : Ri ≤ 3 := by omega
  have h1d : decide (Ri < (R : Int)) = false := by simp; omega
  have h2d : decide ((3 : Int) < Ri) = false := by simp; omega
  replace hRi := Lib.hid hRi
  replace hg := Lib.hid (hg.below b0)
  replace h := Lib.hid (h.below b0)
  replace hr := Lib.hid hr
  replace q1 := Lib.hid q1
  replace q2 := Lib.hid q2
  go_enter Tryz.func112, Tryz.ntmps112
  go_wp2_with fail
  refine (forms_check r _ K R va vn vc T _ hg.out h.out).mono ?_
  rintro e w1 ⟨x, rfl, hb, he⟩
  rw [hck.out] at he
  obtain rfl := ErrIs.none_eq he
  have q11 := q1.out.below hb
  obtain ⟨⟨z0, z1, z2⟩, -, -, -⟩ := q11
  have s1 := hb.size
  simp only [World.size_alloc] at s1
  replace s1 := Lib.hid s1
  go_wp2_with fail
  refine (widened_any K R d va vn vc T w1 (h.out.below hb) hr.out hRd Ri hRi.out).mono ?_
  rintro e w2 ⟨x, rfl, b2, a, n, c, rfl, ho⟩
  obtain ⟨⟨y0, y1, y2⟩, f0, f1, f2⟩ := q2.out.below (Below.step hb b2)
  replace ho := Lib.hid ho
  clear z0 z1 z2
  go_wp2
  refine bodyPost_ret (v := .tuple #[.agg #[.int .i64 K, .int .i64 ((R + d : Nat) : Int), .slice a n c], .nilIface]) (by simp [results, Tryz.results112, go_sem, y0, y1, y2]) rfl ⟨_, _, rfl, below_set3 (Below.step b0 (Below.step hb b2)) (Nat.le_succ _) _ _ _, rfl, a, n, c, rfl, ?_⟩
  have := s1.out
  exact (((ho.out.setBelowBase (a := ⟨w.heap.size + 1, 0, none⟩) (by simp; omega) _).setBelowBase (a := ⟨w.heap.size + 1, 1, none⟩) (by simp; omega) _).setBelowBase (a := ⟨w.heap.size + 1, 2, none⟩) (by simp; omega) _).mono (by omega)

/-- The working rule's radius and table. -/
def wkR (R : Nat) : Nat := if R = 0 then 1 else R
def wkT (K R : Nat) (T : List Int) : List Int := if R = 0 then wideT K 0 1 T else T
theorem wk_ok {K R : Nat} {T : List Int} (h : RuleOk K R T) : RuleOk K (wkR R) (wkT K R T) := by
  unfold wkR wkT
  by_cases e : R = 0
  · subst e; rw [if_pos rfl, if_pos rfl]; exact wideT_ok (d := 1) h (by decide)
  · rw [if_neg e, if_neg e]; exact h
theorem wk_pos (R : Nat) : 1 ≤ wkR R := by unfold wkR; split <;> omega
theorem wk_small {K R : Nat} {T : List Int} (h : RuleOk K R T) (hl : T.length ≤ 256) : (wkT K R T).length ≤ 256 := by
  unfold wkT
  by_cases e : R = 0
  · subst e; rw [if_pos rfl, wideT_length]
    have h4 := h.k4
    have : pw K 3 ≤ pw 4 3 := Nat.pow_le_pow_left h4 3
    have e4 : pw 4 3 = 64 := by decide
    have : pw K (2 * (0 + 1) + 1) = pw K 3 := rfl
    omega
  · rw [if_neg e]; exact hl
/-- A small rule's working rule has at most 81 nodes. -/
theorem nodes_le {K R : Nat} {T : List Int} (h : RuleOk K R T) (hR : 1 ≤ R) (hl : T.length ≤ 256) : pw K (2 * R) ≤ 81 := by
  have h1 := h.k1
  have h4 := h.k4
  have h3 := h.r3
  rw [h.len] at hl
  have hK : K = 1 ∨ K = 2 ∨ K = 3 ∨ K = 4 := by omega
  have hR' : R = 1 ∨ R = 2 ∨ R = 3 := by omega
  rcases hK with rfl | rfl | rfl | rfl <;> rcases hR' with rfl | rfl | rfl <;> revert hl <;> decide

theorem working_bad (r : Nat → Addr) (k R : Int) (va : Option Addr) (vn vc : Nat) (T : List Int) (t : Int × List (ByteArray × Int)) (w : World) (hg : Glob r w) (h : IntsAt w (.slice va vn vc) T) (hc : smallP k R T = some t) :
    Calls Tryz.prog 59 #[.agg #[.int .i64 k, .int .i64 R, .slice va vn vc]] w (Ret2 (fun x y w' => x = zR ∧ ErrIs r w' (under sPairs 0 (some t)) y) w) := by
  have b0 := Below.step (belowAlloc w (.cells #[.int .i64 k, .int .i64 R, .slice va vn vc] 24)) (belowAlloc _ (.cells #[.int .i64 0, .int .i64 0, .slice none 0 0] 24))
  have q2 : Box3 ((w.alloc (.cells #[.int .i64 k, .int .i64 R, .slice va vn vc] 24)).alloc (.cells #[.int .i64 0, .int .i64 0, .slice none 0 0] 24)) (w.heap.size + 1) (.int .i64 0) (.int .i64 0) (.slice none 0 0) := by simp [Box3, go_sem]
  replace hg := Lib.hid (hg.below b0)
  replace h := Lib.hid (h.below b0)
  replace hc := Lib.hid hc
  replace q2 := Lib.hid q2
  go_enter Tryz.func59, Tryz.ntmps59
  go_wp2_with fail
  refine (small_any r k R va vn vc T _ hg.out h.out).mono ?_
  rintro e w1 ⟨x, rfl, b1, he⟩
  rw [hc.out] at he
  have he' := he
  obtain ⟨T1, a1, rfl⟩ := ErrIs.some_shape he
  replace he := Lib.hid he
  replace he' := Lib.hid he'
  go_wp2_with fail
  refine (under_any r _ 0 _ _ w1 he'.out).mono ?_
  rintro e w2 ⟨y, rfl, b2, hy⟩
  obtain ⟨T2, a2, rfl⟩ : ∃ T a, y = .iface T (.pointer (some a)) := by
    unfold under at hy
    exact ErrIs.some_shape hy
  obtain ⟨⟨y0, y1, y2⟩, f0, f1, f2⟩ := q2.out.below (Below.step b1 b2)
  replace hy := Lib.hid hy
  go_wp2
  rw [setCell_self3 y0 y1 y2]
  exact bodyPost_ret (v := .tuple #[zR, .iface T2 (.pointer (some a2))]) (by simp [results, Tryz.results59, go_sem, y0, y1, y2]) rfl ⟨_, _, rfl, Below.step b0 (Below.step b1 b2), rfl, hy.out⟩

set_option maxHeartbeats 1000000 in
theorem working_ok (r : Nat → Addr) (K R : Nat) (va : Option Addr) (vn vc : Nat) (T : List Int) (w : World) (hg : Glob r w) (h : IntsAt w (.slice va vn vc) T) (hr : RuleOk K R T) (hl : T.length ≤ 256) :
    Calls Tryz.prog 59 #[.agg #[.int .i64 K, .int .i64 R, .slice va vn vc]] w (Ret2 (fun x y w' => y = .nilIface ∧ ∃ a n c, x = .agg #[.int .i64 K, .int .i64 (wkR R), .slice a n c] ∧ IntsAt w' (.slice a n c) (wkT K R T)) w) := by
  have b0 := Below.step (belowAlloc w (.cells #[.int .i64 K, .int .i64 R, .slice va vn vc] 24)) (belowAlloc _ (.cells #[.int .i64 0, .int .i64 0, .slice none 0 0] 24))
  have q2 : Box3 ((w.alloc (.cells #[.int .i64 K, .int .i64 R, .slice va vn vc] 24)).alloc (.cells #[.int .i64 0, .int .i64 0, .slice none 0 0] 24)) (w.heap.size + 1) (.int .i64 0) (.int .i64 0) (.slice none 0 0) := by simp [Box3, go_sem]
  have q1 : Box3 ((w.alloc (.cells #[.int .i64 K, .int .i64 R, .slice va vn vc] 24)).alloc (.cells #[.int .i64 0, .int .i64 0, .slice none 0 0] 24)) w.heap.size (.int .i64 K) (.int .i64 R) (.slice va vn vc) := by simp [Box3, go_sem]
  have hs := Lib.hid (smallP_small hr hl)
  have h0 := Lib.hid h
  have hs0 : w.heap.size + 1 < ((w.alloc (.cells #[.int .i64 K, .int .i64 R, .slice va vn vc] 24)).alloc (.cells #[.int .i64 0, .int .i64 0, .slice none 0 0] 24)).heap.size := by simp
  replace hg := Lib.hid (hg.below b0)
  replace h := Lib.hid (h.below b0)
  replace hr := Lib.hid hr
  replace q1 := Lib.hid q1
  replace q2 := Lib.hid q2
  replace hs0 := Lib.hid hs0
  by_cases hR : R = 0
  · have e1 : wkR R = R + 1 := by unfold wkR; rw [if_pos hR, hR]
    have e2 : wkT K R T = wideT K R 1 T := by unfold wkT; rw [if_pos hR, hR]
    have hRq : ((R : Int) == 0) = true := by simp [hR]
    rw [e1, e2]
    replace hR := Lib.hid hR
    clear e1 e2
    go_enter Tryz.func59, Tryz.ntmps59
    go_wp2_with fail
    refine (small_any r K R va vn vc T _ hg.out h.out).mono ?_
    rintro e w1 ⟨x, rfl, b1, he⟩
    rw [hs.out] at he
    obtain rfl := ErrIs.none_eq he
    have q11 := q1.out.below b1
    obtain ⟨⟨z0, z1, z2⟩, -, -, -⟩ := q11
    go_wp2_with fail
    refine (fwiden_ok r K R 1 va vn vc T w1 (hg.out.below b1) (h.out.below b1) hr.out (by have := hR.out; omega) 1 (by have := hR.out; simp [this])).mono ?_
    rintro e w2 ⟨x, y, rfl, b2, rfl, a, n, c, rfl, ho⟩
    obtain ⟨⟨y0, y1, y2⟩, f0, f1, f2⟩ := q2.out.below (Below.step b1 b2)
    replace ho := Lib.hid ho
    clear z0 z1 z2
    go_wp2
    refine bodyPost_ret (v := .tuple #[.agg #[.int .i64 K, .int .i64 ((R + 1 : Nat) : Int), .slice a n c], .nilIface]) (by simp [results, Tryz.results59, go_sem, y0, y1, y2]) rfl ⟨_, _, rfl, below_set3 (Below.step b0 (Below.step b1 b2)) (Nat.le_succ _) _ _ _, rfl, a, n, c, rfl, ?_⟩
    have s1 := hs0.out
    have s2 := b1.size
    exact (((ho.out.setBelowBase (a := ⟨w.heap.size + 1, 0, none⟩) (Nat.lt_of_lt_of_le s1 s2) _).setBelowBase (a := ⟨w.heap.size + 1, 1, none⟩) (Nat.lt_of_lt_of_le s1 s2) _).setBelowBase (a := ⟨w.heap.size + 1, 2, none⟩) (Nat.lt_of_lt_of_le s1 s2) _).at
  · have e1 : wkR R = R := by unfold wkR; rw [if_neg hR]
    have e2 : wkT K R T = T := by unfold wkT; rw [if_neg hR]
    have hRq : ((R : Int) == 0) = false := by rw [beq_eq_false_iff_ne]; omega
    have hR' : ¬ (R : Int) = 0 := by omega
    rw [e1, e2]
    clear e1 e2
    go_enter Tryz.func59, Tryz.ntmps59
    go_wp2_with fail
    refine (small_any r K R va vn vc T _ hg.out h.out).mono ?_
    rintro e w1 ⟨x, rfl, b1, he⟩
    rw [hs.out] at he
    obtain rfl := ErrIs.none_eq he
    have q11 := q1.out.below b1
    obtain ⟨⟨z0, z1, z2⟩, -, -, -⟩ := q11
    obtain ⟨⟨y0, y1, y2⟩, f0, f1, f2⟩ := q2.out.below b1
    have b01 := Below.step b0 b1
    have hTW := h0.out.below (below_set3 b01 (Nat.le_succ _) (.int .i64 K) (.int .i64 R) (.slice va vn vc))
    replace hTW := Lib.hid hTW
    go_wp2
    refine bodyPost_ret (v := .tuple #[.agg #[.int .i64 K, .int .i64 R, .slice va vn vc], .nilIface]) (by simp [results, Tryz.results59, go_sem, y0, y1, y2]) rfl ⟨_, _, rfl, below_set3 b01 (Nat.le_succ _) _ _ _, rfl, va, vn, vc, rfl, hTW.out⟩
end Go.Proofs.YtilpckngghffoaaGreatDoor

namespace Go.Proofs.YtilpckngghffoaaGreatDoor

theorem tab_ext {a b : List Int} (hl : a.length = b.length) (h : ∀ t, t < a.length → a.getD t 0 = b.getD t 0) : a = b :=
  List.ext_getElem hl fun t h1 h2 => by have := h t h1; simpa [List.getD, h1, h2] using this
theorem wideT_get {K R d : Nat} {T : List Int} {i : Nat} (h : i < pw K (2 * (R + d) + 1)) : (wideT K R d T).getD i 0 = T.getD (numW K (((digs K (2 * (R + d) + 1) i).drop d).take (2 * R + 1))) 0 := by
  simp [wideT, List.getD, h]
theorem wideT_zero {K R : Nat} {T : List Int} (h : RuleOk K R T) : wideT K R 0 T = T := by
  refine tab_ext (by rw [wideT_length, h.len]; rfl) fun t ht => ?_
  rw [wideT_length] at ht
  rw [wideT_get ht, List.drop_zero, Nat.add_zero, List.take_of_length_le (by rw [digs_length]; omega), numW_digs h.k1 _ _ (by simpa using ht)]
theorem wideT_wideT {K Q e d : Nat} {N : List Int} (hK : 1 ≤ K) : wideT K (Q + e) d (wideT K Q e N) = wideT K Q (e + d) N := by
  refine tab_ext (by rw [wideT_length, wideT_length, Nat.add_assoc]) fun t ht => ?_
  rw [wideT_length] at ht
  rw [wideT_get ht, wideT_at hK _ (syms_take (syms_drop (digs_syms hK _ _) _) _) (by rw [List.length_take, List.length_drop, digs_length]; omega), wideT_get (by rw [← Nat.add_assoc]; exact ht)]
  congr 2
  rw [List.drop_take, List.take_take, List.drop_drop, Nat.min_eq_left (by omega), Nat.add_comm d e, Nat.add_assoc]
/-- Without the outermost symbols on both sides. -/
def narrT (K Q : Nat) (T : List Int) : List Int := (List.range (pw K (2 * Q + 1))).map fun i => T.getD (numW K ([0] ++ digs K (2 * Q + 1) i ++ [0])) 0
theorem narrT_length (K Q : Nat) (T : List Int) : (narrT K Q T).length = pw K (2 * Q + 1) := by simp [narrT]
theorem narrT_wide {K Q : Nat} {N : List Int} (h : RuleOk K Q N) : narrT K Q (wideT K Q 1 N) = N := by
  have hK := h.k1
  refine tab_ext (by rw [narrT_length, h.len]) fun t ht => ?_
  rw [narrT_length] at ht
  have hs : Syms K ([0] ++ digs K (2 * Q + 1) t ++ [0]) := by
    intro y hy
    rcases List.mem_append.1 hy with hy | hy
    · rcases List.mem_append.1 hy with hy | hy
      · rw [List.mem_singleton] at hy; subst hy; omega
      · exact digs_syms hK _ _ y hy
    · rw [List.mem_singleton] at hy; subst hy; omega
  have : (narrT K Q (wideT K Q 1 N)).getD t 0 = (wideT K Q 1 N).getD (numW K ([0] ++ digs K (2 * Q + 1) t ++ [0])) 0 := by simp [narrT, List.getD, ht]
  rw [this, wideT_at hK _ hs (by simp [digs_length]; omega)]
  have e : (([0] ++ digs K (2 * Q + 1) t ++ [0] : List Int).drop 1).take (2 * Q + 1) = digs K (2 * Q + 1) t := by
    rw [List.append_assoc, List.drop_left' (by rfl), List.take_left' (digs_length ..)]
  rw [e, numW_digs hK _ _ ht]
/-- The radius is the least. -/
def Least (K R : Nat) (T : List Int) : Prop := ∀ Q N, R = Q + 1 → RuleOk K Q N → T ≠ wideT K Q 1 N
/-- What Narrow makes of a rule. -/
def NarrIs (K R : Nat) (T : List Int) (Q : Nat) (N : List Int) : Prop := RuleOk K Q N ∧ Least K Q N ∧ ∃ d, R = Q + d ∧ T = wideT K Q d N
theorem wideT_inj {K Q d : Nat} {N M : List Int} (h : RuleOk K Q N) (k : RuleOk K Q M) (e : wideT K Q d N = wideT K Q d M) : N = M := by
  induction d with
  | zero => rwa [wideT_zero h, wideT_zero k] at e
  | succ d ih =>
    by_cases hd : Q + d ≤ 3
    · apply ih
      rw [← wideT_wideT h.k1, ← wideT_wideT h.k1] at e
      rw [← narrT_wide (wideT_ok h hd), e, narrT_wide (wideT_ok k hd)]
    · have h1 := h.k1
      refine tab_ext (by rw [h.len, k.len]) fun t ht => ?_
      rw [h.len] at ht
      have hs : Syms K (List.replicate (d + 1) 0 ++ digs K (2 * Q + 1) t ++ List.replicate (d + 1) 0) := by
        intro y hy
        rcases List.mem_append.1 hy with hy | hy
        · rcases List.mem_append.1 hy with hy | hy
          · rw [List.eq_of_mem_replicate hy]; omega
          · exact digs_syms h1 _ _ y hy
        · rw [List.eq_of_mem_replicate hy]; omega
      have hc : ((List.replicate (d + 1) 0 ++ digs K (2 * Q + 1) t ++ List.replicate (d + 1) 0 : List Int).drop (d + 1)).take (2 * Q + 1) = digs K (2 * Q + 1) t := by
        rw [List.append_assoc, List.drop_left' (by simp), List.take_left' (digs_length ..)]
      have a := wideT_at (R := Q) (d := d + 1) (T := N) h1 _ hs (by simp [digs_length]; omega)
      have b := wideT_at (R := Q) (d := d + 1) (T := M) h1 _ hs (by simp [digs_length]; omega)
      rw [hc, numW_digs h1 _ _ ht] at a b
      rw [← a, ← b, e]
/-- It is just one. -/
theorem NarrIs.unique {K R Q P : Nat} {T N M : List Int} (h : NarrIs K R T Q N) (k : NarrIs K R T P M) : Q = P ∧ N = M := by
  obtain ⟨h1, h2, d, rfl, e⟩ := h
  obtain ⟨k1, k2, c, hc, e'⟩ := k
  have hK := h1.k1
  have key : ∀ {Q P : Nat} {N M : List Int} {d c : Nat}, RuleOk K Q N → RuleOk K P M → Least K P M → Q + d = P + c → P ≤ 3 → wideT K Q d N = wideT K P c M → ¬ Q < P := by
    intro Q P N M d c hN hM hl hdc hP he hlt
    obtain ⟨j, rfl⟩ : ∃ j, P = Q + j + 1 := ⟨P - Q - 1, by omega⟩
    obtain rfl : d = (j + 1) + c := by omega
    rw [← wideT_wideT hN.k1] at he
    have hw : wideT K Q (j + 1) N = M := wideT_inj (Q := Q + (j + 1)) (wideT_ok hN (by omega)) hM he
    refine hl (Q + j) (wideT K Q j N) rfl (wideT_ok hN (by omega)) ?_
    rw [wideT_wideT hN.k1, hw]
  have hr := h1.r3
  have hr' := k1.r3
  have n1 := key h1 k1 k2 hc hr' (e.symm.trans e')
  have n2 := key k1 h1 h2 hc.symm hr (e'.symm.trans e)
  obtain rfl : Q = P := by omega
  obtain rfl : d = c := by omega
  exact ⟨rfl, wideT_inj h1 k1 (e.symm.trans e')⟩
end Go.Proofs.YtilpckngghffoaaGreatDoor

namespace Go.Proofs.YtilpckngghffoaaGreatDoor
open Go.RowKit
set_option maxRecDepth 100000

theorem words05 (k m : Int) (K n : Nat) (w : World) (hk : k = K) (hm : m = n) (h1 : 1 ≤ K) (h4 : K ≤ 4) (hn : n ≤ 7) :
    Calls Tryz.prog 173 #[.int .i64 k, .int .i64 m] w fun e w' => e = .returned (.int .i64 (pw K n)) ∧ w = w' := by
  have hp := ref_power k m K n w hk hm h1 h4 hn
  clear hk hm
  replace hp := Lib.hid hp
  go_enter Tryz.func173, Tryz.ntmps173
  go_wp2_with fail
  refine hp.out.mono ?_
  rintro e w1 ⟨rfl, rfl⟩
  go_wp2
  go_ret
  exact ⟨rfl, rfl⟩

set_option maxHeartbeats 4000000 in
theorem ref_wide (K R d : Nat) (va : Option Addr) (vn vc : Nat) (T : List Int) (w : World) (h : IntsAt w (.slice va vn vc) T) (hr : RuleOk K R T) (hd : R + d ≤ 3) (RR : Int) (hRR : RR = ((R + d : Nat) : Int)) :
    Calls Tryz.prog 147 #[.agg #[.int .i64 K, .int .i64 R, .slice va vn vc], .int .i64 RR] w (Ret1 (fun x w' => ∃ a n c, x = .agg #[.int .i64 K, .int .i64 RR, .slice a n c] ∧ OwnI w.heap.size w' (.slice a n c) (wideT K R d T)) w) := by
  have hk1 := hr.k1
  have hk4 := hr.k4
  have hR3 := hr.r3
  obtain ⟨M, hM⟩ : ∃ M, pw K (2 * (R + d) + 1) = M := ⟨_, rfl⟩
  have hM2 : M ≤ 16384 := by rw [← hM]; exact pw_le hk1 hk4 (by omega)
  have b0 : Below w.heap.size w (((w.alloc (.cells #[.int .i64 K, .int .i64 R, .slice va vn vc] 24)).alloc (.cells #[.int .i64 0, .int .i64 0, .slice none 0 0] 24)).alloc (.cells #[.int .i64 K, .int .i64 RR, .slice none 0 0] 24)) := Below.step (belowAlloc w (.cells #[.int .i64 K, .int .i64 R, .slice va vn vc] 24)) (Below.step (belowAlloc _ (.cells #[.int .i64 0, .int .i64 0, .slice none 0 0] 24)) (belowAlloc _ (.cells #[.int .i64 K, .int .i64 RR, .slice none 0 0] 24)))
  have qr : Box3 (((w.alloc (.cells #[.int .i64 K, .int .i64 R, .slice va vn vc] 24)).alloc (.cells #[.int .i64 0, .int .i64 0, .slice none 0 0] 24)).alloc (.cells #[.int .i64 K, .int .i64 RR, .slice none 0 0] 24)) w.heap.size (.int .i64 K) (.int .i64 R) (.slice va vn vc) := by simp [Box3, go_sem]
  have qz : Box3 (((w.alloc (.cells #[.int .i64 K, .int .i64 R, .slice va vn vc] 24)).alloc (.cells #[.int .i64 0, .int .i64 0, .slice none 0 0] 24)).alloc (.cells #[.int .i64 K, .int .i64 RR, .slice none 0 0] 24)) (w.heap.size + 1) (.int .i64 0) (.int .i64 0) (.slice none 0 0) := by simp [Box3, go_sem]
  have qo : Box3 (((w.alloc (.cells #[.int .i64 K, .int .i64 R, .slice va vn vc] 24)).alloc (.cells #[.int .i64 0, .int .i64 0, .slice none 0 0] 24)).alloc (.cells #[.int .i64 K, .int .i64 RR, .slice none 0 0] 24)) (w.heap.size + 2) (.int .i64 K) (.int .i64 RR) (.slice none 0 0) := by simp [Box3, go_sem]
  have s0 : (((w.alloc (.cells #[.int .i64 K, .int .i64 R, .slice va vn vc] 24)).alloc (.cells #[.int .i64 0, .int .i64 0, .slice none 0 0] 24)).alloc (.cells #[.int .i64 K, .int .i64 RR, .slice none 0 0] 24)).heap.size = w.heap.size + 3 := by simp
  have hlow : ∀ j, j < T.length → (valAt (.slice va vn vc) j).block < w.heap.size := fun j hj => World.block_lt_of_cell? _ _ (h.cellD j hj)
  obtain ⟨W0, hW0⟩ : ∃ W : World, (((w.alloc (.cells #[.int .i64 K, .int .i64 R, .slice va vn vc] 24)).alloc (.cells #[.int .i64 0, .int .i64 0, .slice none 0 0] 24)).alloc (.cells #[.int .i64 K, .int .i64 RR, .slice none 0 0] 24)) = W := ⟨_, rfl⟩
  have h0 := h.below b0
  rw [hW0] at b0 qr qz qo s0 h0
  replace h := Lib.hid h
  replace hr := Lib.hid hr
  replace hM := Lib.hid hM
  replace s0 := Lib.hid s0
  replace hlow := Lib.hid hlow
  replace hW0 := Lib.hid hW0
  have hRR2 := Lib.hid hRR
  have hwn : 2 * RR + 1 = ((2 * (R + d) + 1 : Nat) : Int) := by omega
  have hdd : RR - (R : Int) = (d : Int) := by omega
  replace hwn := Lib.hid hwn
  have e1 : 0 ≤ RR := by omega
  have e2 : RR ≤ 3 := by omega
  clear hRR
  go_enter Tryz.func147, Tryz.ntmps147
  go_upto_region 2 with fail
  rw [hW0.out]
  have qr0 := qr
  obtain ⟨⟨z0, z1, z2⟩, -, -, -⟩ := qr0
  go_wp2_with fail
  clear hW0 z0 z1 z2
  go_loopw [7] (fun iv wr => ∃ i : Nat, i ≤ M ∧ iv = .int .i64 i ∧ (∃ oa on oc, OwnI (w.heap.size + 3) wr (.slice oa on oc) ((wideT K R d T).take i) ∧ Box3 wr (w.heap.size + 2) (.int .i64 K) (.int .i64 RR) (.slice oa on oc)) ∧ Box3 wr (w.heap.size + 1) (.int .i64 0) (.int .i64 0) (.slice none 0 0) ∧ Box3 wr w.heap.size (.int .i64 K) (.int .i64 R) (.slice va vn vc) ∧ Below w.heap.size w wr ∧ w.heap.size + 3 ≤ wr.heap.size) (fun iv _ => M - (intOf iv).toNat)
  case atStart => exact ⟨0, by omega, rfl, ⟨none, 0, 0, OwnI.nil _ _, qo⟩, qz, qr, b0, by rw [s0.out]; omega⟩
  case round =>
    clear qo qz qr b0 h0
    obtain ⟨i, hi, rfl, ⟨oa, on, oc, hO, qo⟩, qz, qr, hB, hBs⟩ := hrel
    obtain ⟨wo, rfl⟩ : ∃ wo : World, wo = wr := ⟨_, rfl⟩
    have qr0 := qr
    obtain ⟨⟨z0, z1, z2⟩, -, -, -⟩ := qr0
    have hwd := words05 K (2 * RR + 1) K (2 * (R + d) + 1) wo rfl hwn.out hk1 hk4 (by omega)
    rw [hM.out] at hwd
    have hdg := fun (j : Int) (hj : j = (i : Int)) (hi : i < M) => ref_digits K (2 * RR + 1) j K (2 * (R + d) + 1) i wo rfl hwn.out hj hk1 hk4 (by omega) (by omega)
    replace hwd := Lib.hid hwd
    replace hdg := Lib.hid hdg
    replace qo := Lib.hid qo
    replace qz := Lib.hid qz
    replace qr := Lib.hid qr
    replace hO := Lib.hid hO
    go_wp2_with fail
    refine hwd.out.mono ?_
    rintro e w1 ⟨rfl, rfl⟩
    by_cases hlt : i < M
    · have dlt : decide ((i : Int) < (M : Int)) = true := decide_eq_true (by omega)
      go_wp2_with fail
      refine (hdg.out _ rfl hlt).mono ?_
      rintro e w1 ⟨x, rfl, b1, hx⟩
      obtain ⟨W, hW⟩ : ∃ W : World, w1.drew = W := ⟨_, rfl⟩
      have bW : Below wo.heap.size wo W := by rw [← hW]; exact b1.drew
      have hBW : Below w.heap.size w W := hB.trans (bW.mono hB.size)
      have qoW := qo.out.below bW
      have qzW := qz.out.below bW
      have qrW := qr.out.below bW
      have hOW := hO.out.below bW
      have sW : w.heap.size + 3 ≤ W.heap.size := Nat.le_trans hBs bW.size
      have hdl : (digs K (2 * (R + d) + 1) i).length = 2 * (R + d) + 1 := digs_length _ _ _
      have hxW : IntsAt W x (digs K (2 * (R + d) + 1) i) := by rw [← hW]; exact hx.at
      have lX := hxW.len
      rw [hdl] at lX
      obtain ⟨pv, hsl, hP⟩ := hxW.mid d (2 * (R + d) + 1 - d) (by omega) (by omega)
      have hwin : ((digs K (2 * (R + d) + 1) i).take (2 * (R + d) + 1 - d)).drop d = ((digs K (2 * (R + d) + 1) i).drop d).take (2 * R + 1) := by rw [List.drop_take]; congr 1; omega
      rw [hwin] at hP
      have hwl : (((digs K (2 * (R + d) + 1) i).drop d).take (2 * R + 1)).length = 2 * R + 1 := by rw [List.length_take, List.length_drop]; omega
      have hws : Syms K (((digs K (2 * (R + d) + 1) i).drop d).take (2 * R + 1)) := syms_take (syms_drop (digs_syms hk1 _ _) d) _
      have hnl := numW_lt _ hws
      rw [hwl, ← hr.out.len] at hnl
      have hT := h.out.below hBW
      have iT := fun w' => hT.idx _ hnl w'
      have cT := hT.cellD _ hnl
      have htb := hlow.out _ hnl
      have hg := wideT_get (K := K) (R := R) (d := d) (T := T) (i := i) (by rw [hM.out]; exact hlt)
      have hwlen : (wideT K R d T).length = M := by rw [wideT_length]; exact hM.out
      have htk : (wideT K R d T).take (i + 1) = (wideT K R d T).take i ++ [(wideT K R d T).getD i 0] := by
        rw [List.take_add_one, List.getElem?_eq_getElem (by rw [hwlen]; exact hlt), List.getD_eq_getElem?_getD, List.getElem?_eq_getElem (by rw [hwlen]; exact hlt)]; rfl
      rw [hg] at htk
      have hval := ref_value K pv _ W hk1 hk4 hP hws (by rw [hwl]; omega)
      obtain ⟨pa, pn, pc, rfl⟩ := hP.shape
      obtain ⟨xa, xn, xc, rfl⟩ := hxW.shape
      have hsl2 : ∀ w', (Instr.slice 22 (.slice xa xn xc) (some (.int .i64 (d : Int))) (some (.int .i64 (((2 * (R + d) + 1 : Nat) : Int) - (d : Int)))) none).run Tryz.prog w' = .ok (.slice pa pn pc) w' := by
        intro w'; have := hsl w'; rwa [show (((2 * (R + d) + 1 - d : Nat) : Nat) : Int) = ((2 * (R + d) + 1 : Nat) : Int) - (d : Int) by omega] at this
      have hws9 : IntKind.i64.wrap (((2 * (R + d) + 1 : Nat) : Int) - (d : Int)) = ((2 * (R + d) + 1 : Nat) : Int) - (d : Int) := wrapK (by omega) (by omega)
      have hol : ((wideT K R d T).take i).length = i := by rw [List.length_take, hwlen]; omega
      generalize hn9 : ((2 * (R + d) + 1 : Nat) : Int) = n9 at *
      generalize T.getD (numW K (((digs K (2 * (R + d) + 1) i).drop d).take (2 * R + 1))) 0 = y at *
      generalize numW K (((digs K (2 * (R + d) + 1) i).drop d).take (2 * R + 1)) = N at *
      generalize valAt (.slice va vn vc) N = ta at *
      have hta := World.block_lt_of_cell? _ _ cT
      have hS : W.cell? ⟨w.heap.size, 0, none⟩ = some (.int .i64 K) ∧ W.cell? ⟨w.heap.size, 1, none⟩ = some (.int .i64 R) ∧ W.cell? ⟨w.heap.size, 2, none⟩ = some (.slice va vn vc) ∧ W.cell? ⟨w.heap.size + 2, 2, none⟩ = some (.slice oa on oc) ∧ W.cell? ta = some (.int .i64 y) := ⟨qrW.1.1, qrW.1.2.1, qrW.1.2.2, qoW.1.2.2, cT⟩
      have bl := belowAlloc W (.cells #[.int .i64 y] 3)
      have hlit := OwnI.lit W.heap.size W (Nat.le_refl _) [y] (by simp [maxLen]) #[.int .i64 y] rfl 1 rfl
      have hOl := hOW.below bl
      have hBl : w.heap.size + 3 ≤ (W.alloc (.cells #[.int .i64 y] 3)).heap.size := by simp; omega
      have qol := qoW.below bl
      have qzl := qzW.below bl
      have qrl := qrW.below bl
      have hS1 : (W.alloc (.cells #[.int .i64 y] 3)).cell? ⟨w.heap.size, 0, none⟩ = some (.int .i64 K) ∧ (W.alloc (.cells #[.int .i64 y] 3)).cell? ⟨w.heap.size, 1, none⟩ = some (.int .i64 R) ∧ (W.alloc (.cells #[.int .i64 y] 3)).cell? ⟨w.heap.size, 2, none⟩ = some (.slice va vn vc) ∧ (W.alloc (.cells #[.int .i64 y] 3)).cell? ⟨w.heap.size + 2, 2, none⟩ = some (.slice oa on oc) ∧ (W.alloc (.cells #[.int .i64 y] 3)).cell? ta = some (.int .i64 y) := ⟨qrl.1.1, qrl.1.2.1, qrl.1.2.2, qol.1.2.2, (bl.cell hta).trans cT⟩
      replace hval := Lib.hid hval
      replace hT := Lib.hid hT
      replace hOW := Lib.hid hOW
      replace hP := Lib.hid hP
      replace hxW := Lib.hid hxW
      replace hx := Lib.hid hx
      replace hws := Lib.hid hws
      replace hwl := Lib.hid hwl
      replace hwin := Lib.hid hwin
      replace hg := Lib.hid hg
      replace htk := Lib.hid htk
      replace hol := Lib.hid hol
      replace hdl := Lib.hid hdl
      replace hwlen := Lib.hid hwlen
      replace hW := Lib.hid hW
      replace hOl := Lib.hid hOl
      replace hlit := Lib.hid hlit
      replace qol := Lib.hid qol
      replace qzl := Lib.hid qzl
      replace qrl := Lib.hid qrl
      replace qoW := Lib.hid qoW
      replace qzW := Lib.hid qzW
      replace qrW := Lib.hid qrW
      replace hn9 := Lib.hid hn9
      clear hsl cT z0 z1 z2 hwd hdg
      go_upto_region 7 with fail
      refine wp_region_plan (fun w' => w'.cell? ⟨w.heap.size, 0, none⟩ = some (.int .i64 K) ∧ w'.cell? ⟨w.heap.size, 1, none⟩ = some (.int .i64 R) ∧ w'.cell? ⟨w.heap.size, 2, none⟩ = some (.slice va vn vc) ∧ w'.cell? ⟨w.heap.size + 2, 2, none⟩ = some (.slice oa on oc) ∧ w'.cell? ta = some (.int .i64 y)) 19 [(0, true), (1, true), (2, true), (3, true), (4, true), (5, true), (6, true), (7, true), (8, true), (9, true), (10, true), (11, true), (12, true), (13, false), (14, true), (15, true), (16, false), (17, false), (18, true)] (by kernel_rfl) (by kernel_rfl) ?_
      rw [hW.out]
      refine headY (v := ?_) (some 34) rfl rfl (Or.inl ⟨by rfl, ?_⟩) hS ?_
      rotate_left
      · rintro W' ⟨s0, s1, s2, s3, s4⟩; go_simp; try with_reducible rfl
      simp only [Act.put, List.setIfInBounds_toArray, List.set_cons_zero, List.set_cons_succ]
      refine headY (v := ?_) (some 35) rfl rfl (Or.inl ⟨by rfl, ?_⟩) hS ?_
      rotate_left
      · rintro W' ⟨s0, s1, s2, s3, s4⟩; go_simp; try with_reducible rfl
      simp only [Act.put, List.setIfInBounds_toArray, List.set_cons_zero, List.set_cons_succ]
      refine headY (v := ?_) (some 36) rfl rfl (Or.inl ⟨by rfl, ?_⟩) hS ?_
      rotate_left
      · rintro W' ⟨s0, s1, s2, s3, s4⟩; go_simp; try with_reducible rfl
      simp only [Act.put, List.setIfInBounds_toArray, List.set_cons_zero, List.set_cons_succ]
      refine headY (v := ?_) (some 37) rfl rfl (Or.inl ⟨by rfl, ?_⟩) hS ?_
      rotate_left
      · rintro W' ⟨s0, s1, s2, s3, s4⟩; go_simp; try with_reducible rfl
      simp only [Act.put, List.setIfInBounds_toArray, List.set_cons_zero, List.set_cons_succ]
      refine headY (v := ?_) (some 38) rfl rfl (Or.inl ⟨by rfl, ?_⟩) hS ?_
      rotate_left
      · rintro W' ⟨s0, s1, s2, s3, s4⟩; go_simp; try with_reducible rfl
      simp only [Act.put, List.setIfInBounds_toArray, List.set_cons_zero, List.set_cons_succ]
      refine headY (v := ?_) (some 39) rfl rfl (Or.inl ⟨by rfl, ?_⟩) hS ?_
      rotate_left
      · rintro W' ⟨s0, s1, s2, s3, s4⟩; go_simp; try with_reducible rfl
      simp only [Act.put, List.setIfInBounds_toArray, List.set_cons_zero, List.set_cons_succ]
      refine headY (v := ?_) (some 40) rfl rfl (Or.inl ⟨by rfl, ?_⟩) hS ?_
      rotate_left
      · rintro W' ⟨s0, s1, s2, s3, s4⟩; go_simp; try with_reducible rfl
      simp only [Act.put, List.setIfInBounds_toArray, List.set_cons_zero, List.set_cons_succ]
      refine headY (v := ?_) (some 41) rfl rfl (Or.inl ⟨by rfl, ?_⟩) hS ?_
      rotate_left
      · rintro W' ⟨s0, s1, s2, s3, s4⟩; go_simp; try with_reducible rfl
      simp only [Act.put, List.setIfInBounds_toArray, List.set_cons_zero, List.set_cons_succ]
      refine headY (v := ?_) (some 42) rfl rfl (Or.inl ⟨by rfl, ?_⟩) hS ?_
      rotate_left
      · rintro W' ⟨s0, s1, s2, s3, s4⟩; go_simp; try with_reducible rfl
      simp only [Act.put, List.setIfInBounds_toArray, List.set_cons_zero, List.set_cons_succ]
      refine headY (v := ?_) (some 43) rfl rfl (Or.inl ⟨by rfl, ?_⟩) hS ?_
      rotate_left
      · rintro W' ⟨s0, s1, s2, s3, s4⟩; go_simp; try with_reducible rfl
      simp only [Act.put, List.setIfInBounds_toArray, List.set_cons_zero, List.set_cons_succ]
      refine headY (v := ?_) (some 44) rfl rfl (Or.inl ⟨by rfl, ?_⟩) hS ?_
      rotate_left
      · rintro W' ⟨s0, s1, s2, s3, s4⟩; go_simp; try with_reducible rfl
      simp only [Act.put, List.setIfInBounds_toArray, List.set_cons_zero, List.set_cons_succ]
      refine headY (v := ?_) (some 45) rfl rfl (Or.inl ⟨by rfl, ?_⟩) hS ?_
      rotate_left
      · rintro W' ⟨s0, s1, s2, s3, s4⟩; go_simp; try with_reducible rfl
      simp only [Act.put, List.setIfInBounds_toArray, List.set_cons_zero, List.set_cons_succ]
      refine headY (v := ?_) (some 46) rfl rfl (Or.inl ⟨by rfl, ?_⟩) hS ?_
      rotate_left
      · rintro W' ⟨s0, s1, s2, s3, s4⟩; go_simp; try with_reducible rfl
      simp only [Act.put, List.setIfInBounds_toArray, List.set_cons_zero, List.set_cons_succ]
      refine headC rfl (fun KK hK => ?_)
      go_simp
      refine hval.out.mono ?_
      rintro e w5 ⟨rfl, rfl⟩
      refine hK _ _ hS ?_
      clear hK KK
      refine headY (v := ?_) (some 48) rfl rfl (Or.inl ⟨by rfl, ?_⟩) hS ?_
      rotate_left
      · rintro W' ⟨s0, s1, s2, s3, s4⟩; go_simp; try with_reducible rfl
      simp only [Act.put, List.setIfInBounds_toArray, List.set_cons_zero, List.set_cons_succ]
      refine headY (v := ?_) (some 49) rfl rfl (Or.inl ⟨by rfl, ?_⟩) hS ?_
      rotate_left
      · rintro W' ⟨s0, s1, s2, s3, s4⟩; go_simp; try with_reducible rfl
      simp only [Act.put, List.setIfInBounds_toArray, List.set_cons_zero, List.set_cons_succ]
      refine headC rfl (fun KK hK => ?_)
      go_simp
      refine hK _ _ hS1 ?_
      clear hK KK
      refine headC rfl (fun KK hK => ?_)
      refine step_appI rfl _ _ rfl (w.heap.size + 3) (.slice oa on oc) (.slice (some ⟨W.heap.size, 0, none⟩) 1 1) _ [y] rfl rfl hOl.out hlit.out.at (by rw [hol.out]; simp; omega) hBl ?_
      intro v9 w9 ho9 b9
      rw [← htk.out] at ho9
      obtain ⟨v9a, v9b, v9c, rfl⟩ := ho9.at.shape
      have s9 := b9.size
      have qo9 := qol.out.belowB b9 (by omega)
      have qz9 := qzl.out.belowB b9 (by omega)
      have qr9 := qrl.out.belowB b9 (by omega)
      have b99 : Below w.heap.size w w9 := (hBW.trans (bl.mono (by omega))).trans (b9.mono (by omega))
      replace ho9 := Lib.hid ho9
      have hS9 : w9.cell? ⟨w.heap.size, 0, none⟩ = some (.int .i64 K) ∧ w9.cell? ⟨w.heap.size, 1, none⟩ = some (.int .i64 R) ∧ w9.cell? ⟨w.heap.size, 2, none⟩ = some (.slice va vn vc) ∧ w9.cell? ⟨w.heap.size + 2, 2, none⟩ = some (.slice oa on oc) ∧ w9.cell? ta = some (.int .i64 y) := ⟨qr9.1.1, qr9.1.2.1, qr9.1.2.2, qo9.1.2.2, (b9.cell (by omega)).trans hS1.2.2.2.2⟩
      refine hK _ _ hS9 ?_
      clear hK KK
      refine headY (v := ?_) (some 52) rfl rfl (Or.inl ⟨by rfl, ?_⟩) hS9 ?_
      rotate_left
      · rintro W' ⟨s0, s1, s2, s3, s4⟩; go_simp; try with_reducible rfl
      simp only [Act.put, List.setIfInBounds_toArray]
      refine head0 ?_
      simp only [List.drop_succ_cons, List.drop_zero]
      obtain ⟨⟨o0, o1, o2⟩, g0, g1, g2⟩ := qo9
      have qo10 : Box3 (w9.setCell ⟨w.heap.size + 2, 2, none⟩ (.slice v9a v9b v9c)) (w.heap.size + 2) (.int .i64 K) (.int .i64 RR) (.slice v9a v9b v9c) := Box3.set2 ⟨⟨o0, o1, o2⟩, g0, g1, g2⟩ _
      have qz10 : Box3 (w9.setCell ⟨w.heap.size + 2, 2, none⟩ (.slice v9a v9b v9c)) (w.heap.size + 1) (.int .i64 0) (.int .i64 0) (.slice none 0 0) := qz9.far (by omega) _ _
      have qr10 : Box3 (w9.setCell ⟨w.heap.size + 2, 2, none⟩ (.slice v9a v9b v9c)) w.heap.size (.int .i64 K) (.int .i64 R) (.slice va vn vc) := qr9.far (by omega) _ _
      have ho10 := ho9.out.setBelowBase (a := ⟨w.heap.size + 2, 2, none⟩) (by simp) (.slice v9a v9b v9c)
      have b10 : Below w.heap.size w (w9.setCell ⟨w.heap.size + 2, 2, none⟩ (.slice v9a v9b v9c)) := b99.setCell (show w.heap.size ≤ (⟨w.heap.size + 2, 2, none⟩ : Addr).block from Nat.le_add_right _ _) _
      have s10 : w.heap.size + 3 ≤ (w9.setCell ⟨w.heap.size + 2, 2, none⟩ (.slice v9a v9b v9c)).heap.size := by simp [World.setCell]; omega
      replace qo10 := Lib.hid qo10
      replace qz10 := Lib.hid qz10
      replace qr10 := Lib.hid qr10
      replace qz9 := Lib.hid qz9
      replace qr9 := Lib.hid qr9
      replace ho10 := Lib.hid ho10
      clear hS hS1 hS9
      go_wp2
      refine NoPanic.normal ?_
      go_wp2
      go_roundw
      case measure => simp [intOf]; omega
      case rel => exact ⟨i + 1, by omega, by go_num, ⟨_, _, _, ho10.out, qo10.out⟩, qz10.out, qr10.out, b10, s10⟩
    · have dlt : decide ((i : Int) < (M : Int)) = false := decide_eq_false (by omega)
      have hfin : (wideT K R d T).take i = wideT K R d T := List.take_of_length_le (by rw [wideT_length, hM.out]; omega)
      have hO' := hO.out
      rw [hfin] at hO'
      have qo0 := qo.out
      have qz0 := qz.out
      obtain ⟨⟨o0, o1, o2⟩, -, -, -⟩ := qo0
      obtain ⟨⟨y0, y1, y2⟩, f0, f1, f2⟩ := qz0
      replace hO' := Lib.hid hO'
      replace hfin := Lib.hid hfin
      clear z0 z1 z2 hwd hdg
      go_wp2
      refine bodyPost_ret (v := .agg #[.int .i64 K, .int .i64 RR, .slice oa on oc]) (by simp [results, Tryz.results147, go_sem, y0, y1, y2]) rfl ⟨_, rfl, below_set3 hB (Nat.le_succ _) _ _ _, oa, on, oc, rfl, ?_⟩
      exact (((hO'.out.setBelowBase (a := ⟨w.heap.size + 1, 0, none⟩) (by simp) _).setBelowBase (a := ⟨w.heap.size + 1, 1, none⟩) (by simp) _).setBelowBase (a := ⟨w.heap.size + 1, 2, none⟩) (by simp) _).mono (by omega)

set_option maxHeartbeats 2000000 in
theorem ref_widen (K R d : Nat) (va : Option Addr) (vn vc : Nat) (T : List Int) (w : World) (h : IntsAt w (.slice va vn vc) T) (hr : RuleOk K R T) (hd : R + d ≤ 3) (RR : Int) (hRR : RR = ((R + d : Nat) : Int)) :
    Calls Tryz.prog 116 #[.agg #[.int .i64 K, .int .i64 R, .slice va vn vc], .int .i64 RR] w (Ret2 (fun x y w' => y = .agg #[.int .i64 0, .slice none 0 0, .slice none 0 0] ∧ ∃ a n c, x = .agg #[.int .i64 K, .int .i64 RR, .slice a n c] ∧ OwnI w.heap.size w' (.slice a n c) (wideT K R d T)) w) := by
  have b0 : Below w.heap.size w (((w.alloc (.cells #[.int .i64 K, .int .i64 R, .slice va vn vc] 24)).alloc (.cells #[.int .i64 0, .int .i64 0, .slice none 0 0] 24)).alloc (.cells #[.int .i64 0, .slice none 0 0, .slice none 0 0] 33)) := Below.step (belowAlloc w (.cells #[.int .i64 K, .int .i64 R, .slice va vn vc] 24)) (Below.step (belowAlloc _ (.cells #[.int .i64 0, .int .i64 0, .slice none 0 0] 24)) (belowAlloc _ (.cells #[.int .i64 0, .slice none 0 0, .slice none 0 0] 33)))
  have qr : Box3 (((w.alloc (.cells #[.int .i64 K, .int .i64 R, .slice va vn vc] 24)).alloc (.cells #[.int .i64 0, .int .i64 0, .slice none 0 0] 24)).alloc (.cells #[.int .i64 0, .slice none 0 0, .slice none 0 0] 33)) w.heap.size (.int .i64 K) (.int .i64 R) (.slice va vn vc) := by simp [Box3, go_sem]
  have qz : Box3 (((w.alloc (.cells #[.int .i64 K, .int .i64 R, .slice va vn vc] 24)).alloc (.cells #[.int .i64 0, .int .i64 0, .slice none 0 0] 24)).alloc (.cells #[.int .i64 0, .slice none 0 0, .slice none 0 0] 33)) (w.heap.size + 1) (.int .i64 0) (.int .i64 0) (.slice none 0 0) := by simp [Box3, go_sem]
  have qe : Box3 (((w.alloc (.cells #[.int .i64 K, .int .i64 R, .slice va vn vc] 24)).alloc (.cells #[.int .i64 0, .int .i64 0, .slice none 0 0] 24)).alloc (.cells #[.int .i64 0, .slice none 0 0, .slice none 0 0] 33)) (w.heap.size + 2) (.int .i64 0) (.slice none 0 0) (.slice none 0 0) := by simp [Box3, go_sem]
  have s0 : (((w.alloc (.cells #[.int .i64 K, .int .i64 R, .slice va vn vc] 24)).alloc (.cells #[.int .i64 0, .int .i64 0, .slice none 0 0] 24)).alloc (.cells #[.int .i64 0, .slice none 0 0, .slice none 0 0] 33)).heap.size = w.heap.size + 3 := by simp
  have hf := f05_fault 0 K R va vn vc T (((w.alloc (.cells #[.int .i64 K, .int .i64 R, .slice va vn vc] 24)).alloc (.cells #[.int .i64 0, .int .i64 0, .slice none 0 0] 24)).alloc (.cells #[.int .i64 0, .slice none 0 0, .slice none 0 0] 33)) (h.below b0)
  rw [hr.check] at hf
  have hR3 := hr.r3
  obtain ⟨W0, hW0⟩ : ∃ W : World, (((w.alloc (.cells #[.int .i64 K, .int .i64 R, .slice va vn vc] 24)).alloc (.cells #[.int .i64 0, .int .i64 0, .slice none 0 0] 24)).alloc (.cells #[.int .i64 0, .slice none 0 0, .slice none 0 0] 33)) = W := ⟨_, rfl⟩
  rw [hW0] at b0 qr qz qe s0 hf
  have hwide := fun (w' : World) (h' : IntsAt w' (.slice va vn vc) T) => ref_wide K R d va vn vc T w' h' hr hd RR hRR
  replace hf := Lib.hid hf
  replace hwide := Lib.hid hwide
  replace h := Lib.hid h
  replace hr := Lib.hid hr
  replace hW0 := Lib.hid hW0
  have e1 : (R : Int) ≤ RR := by omega
  have e2 : RR ≤ 3 := by omega
  have e3 : decide (RR < (R : Int)) = false := decide_eq_false (by omega)
  have e4 : decide ((3 : Int) < RR) = false := decide_eq_false (by omega)
  clear hRR
  have qr0 := qr
  obtain ⟨⟨z0, z1, z2⟩, -, -, -⟩ := qr0
  go_enter Tryz.func116, Tryz.ntmps116
  go_upto_region 1 with fail
  rw [hW0.out]
  go_wp2_with fail
  refine hf.out.mono ?_
  rintro e w1 ⟨x, rfl, b1, he⟩
  obtain rfl : x = .agg #[.int .i64 0, .slice none 0 0, .slice none 0 0] := he
  obtain ⟨be, ⟨⟨y0, y1, y2⟩, -, -, -⟩⟩ := err_box8 w1 (.int .i64 0) (.slice none 0 0) (.slice none 0 0)
  have c1e := Below.step b1 be
  obtain ⟨W2, hW2⟩ : ∃ W2 : World, w1.alloc (.cells #[.int .i64 0, .slice none 0 0, .slice none 0 0] 33) = W2 := ⟨_, rfl⟩
  rw [hW2] at be c1e y0 y1 y2
  replace hW2 := Lib.hid hW2
  clear z0 z1 z2
  go_upto_region 2 with fail
  rw [hW2.out]
  go_wp2_with fail
  refine (err_bad _ _ _ _ _ _ _ W2).mono ?_
  rintro e w3 ⟨_, rfl, b3, rfl⟩
  rw [show ((0 : Int) != 0) = false from rfl]
  have c3 := Below.step c1e b3
  obtain ⟨⟨z0, z1, z2⟩, -, -, -⟩ := qr.below c3
  clear y0 y1 y2
  have b03 := Below.step b0 c3
  go_wp2_with fail
  refine (hwide.out w3 (h.out.below b03)).mono ?_
  rintro e w4 ⟨x, rfl, b4, a, n, c, rfl, ho⟩
  have c4 := Below.step c3 b4
  have b04 := Below.step b03 b4
  obtain ⟨⟨z0', z1', z2'⟩, f0, f1, f2⟩ := qz.below c4
  obtain ⟨⟨y0, y1, y2⟩, g0, g1, g2⟩ := qe.below c4
  have s3 := c3.size
  replace ho := Lib.hid ho
  clear z0 z1 z2
  go_wp2
  refine bodyPost_ret (v := .tuple #[.agg #[.int .i64 K, .int .i64 RR, .slice a n c], .agg #[.int .i64 0, .slice none 0 0, .slice none 0 0]]) (by simp [results, Tryz.results116, go_sem, z0', z1', z2', y0, y1, y2]) rfl ⟨_, _, rfl, below_set3 (below_set3 b04 (Nat.le_succ _) _ _ _) (by omega) _ _ _, rfl, a, n, c, rfl, ?_⟩
  refine OwnI.mono ((((((ho.out.setBelowBase (a := ⟨w.heap.size + 1, 0, none⟩) ?_ _).setBelowBase (a := ⟨w.heap.size + 1, 1, none⟩) ?_ _).setBelowBase (a := ⟨w.heap.size + 1, 2, none⟩) ?_ _).setBelowBase (a := ⟨w.heap.size + 2, 0, none⟩) ?_ _).setBelowBase (a := ⟨w.heap.size + 2, 1, none⟩) ?_ _).setBelowBase (a := ⟨w.heap.size + 2, 2, none⟩) ?_ _) ?_ <;> (try show _ < w3.heap.size) <;> (try simp only []) <;> omega

set_option maxHeartbeats 2000000 in
theorem ref_working (K R : Nat) (va : Option Addr) (vn vc : Nat) (T : List Int) (w : World) (h : IntsAt w (.slice va vn vc) T) (hr : RuleOk K R T) :
    Calls Tryz.prog 66 #[.agg #[.int .i64 K, .int .i64 R, .slice va vn vc]] w (Ret1 (fun x w' => ∃ a n c, x = .agg #[.int .i64 K, .int .i64 (wkR R), .slice a n c] ∧ IntsAt w' (.slice a n c) (wkT K R T)) w) := by
  have b0 : Below w.heap.size w ((w.alloc (.cells #[.int .i64 K, .int .i64 R, .slice va vn vc] 24)).alloc (.cells #[.int .i64 0, .int .i64 0, .slice none 0 0] 24)) := Below.step (belowAlloc w (.cells #[.int .i64 K, .int .i64 R, .slice va vn vc] 24)) (belowAlloc _ (.cells #[.int .i64 0, .int .i64 0, .slice none 0 0] 24))
  have qr : Box3 ((w.alloc (.cells #[.int .i64 K, .int .i64 R, .slice va vn vc] 24)).alloc (.cells #[.int .i64 0, .int .i64 0, .slice none 0 0] 24)) w.heap.size (.int .i64 K) (.int .i64 R) (.slice va vn vc) := by simp [Box3, go_sem]
  have qz : Box3 ((w.alloc (.cells #[.int .i64 K, .int .i64 R, .slice va vn vc] 24)).alloc (.cells #[.int .i64 0, .int .i64 0, .slice none 0 0] 24)) (w.heap.size + 1) (.int .i64 0) (.int .i64 0) (.slice none 0 0) := by simp [Box3, go_sem]
  have s0 : ((w.alloc (.cells #[.int .i64 K, .int .i64 R, .slice va vn vc] 24)).alloc (.cells #[.int .i64 0, .int .i64 0, .slice none 0 0] 24)).heap.size = w.heap.size + 2 := by simp
  have hlow : ∀ j, j < T.length → (valAt (.slice va vn vc) j).block < w.heap.size := fun j hj => World.block_lt_of_cell? _ _ (h.cellD j hj)
  by_cases hR : R = 0
  · subst hR
    clear b0 qr qz s0
    have b0 : Below w.heap.size w ((w.alloc (.cells #[.int .i64 K, .int .i64 0, .slice va vn vc] 24)).alloc (.cells #[.int .i64 0, .int .i64 0, .slice none 0 0] 24)) := Below.step (belowAlloc w (.cells #[.int .i64 K, .int .i64 0, .slice va vn vc] 24)) (belowAlloc _ (.cells #[.int .i64 0, .int .i64 0, .slice none 0 0] 24))
    have qr : Box3 ((w.alloc (.cells #[.int .i64 K, .int .i64 0, .slice va vn vc] 24)).alloc (.cells #[.int .i64 0, .int .i64 0, .slice none 0 0] 24)) w.heap.size (.int .i64 K) (.int .i64 0) (.slice va vn vc) := by simp [Box3, go_sem]
    have qz : Box3 ((w.alloc (.cells #[.int .i64 K, .int .i64 0, .slice va vn vc] 24)).alloc (.cells #[.int .i64 0, .int .i64 0, .slice none 0 0] 24)) (w.heap.size + 1) (.int .i64 0) (.int .i64 0) (.slice none 0 0) := by simp [Box3, go_sem]
    have s0 : ((w.alloc (.cells #[.int .i64 K, .int .i64 0, .slice va vn vc] 24)).alloc (.cells #[.int .i64 0, .int .i64 0, .slice none 0 0] 24)).heap.size = w.heap.size + 2 := by simp
    obtain ⟨W0, hW0⟩ : ∃ W : World, ((w.alloc (.cells #[.int .i64 K, .int .i64 0, .slice va vn vc] 24)).alloc (.cells #[.int .i64 0, .int .i64 0, .slice none 0 0] 24)) = W := ⟨_, rfl⟩
    have hwd := fun (w' : World) (h' : IntsAt w' (.slice va vn vc) T) => ref_widen K 0 1 va vn vc T w' h' hr (by decide) 1 rfl
    rw [hW0] at b0 qr qz s0
    replace hwd := Lib.hid hwd
    replace h := Lib.hid h
    replace hr := Lib.hid hr
    replace hlow := Lib.hid hlow
    replace hW0 := Lib.hid hW0
    have qr0 := qr
    obtain ⟨⟨z0, z1, z2⟩, -, -, -⟩ := qr0
    go_enter Tryz.func66, Tryz.ntmps66
    go_upto_region 1 with fail
    rw [hW0.out]
    go_wp2_with fail
    refine (hwd.out W0 (h.out.below b0)).mono ?_
    rintro e w1 ⟨_, _, rfl, b1, rfl, a, n, c, rfl, ho⟩
    have c1 := Below.step b1 (Below.step (belowAlloc w1 (.cells #[.int .i64 K, .int .i64 1, .slice a n c] 24)) (belowAlloc _ (.cells #[.int .i64 0, .slice none 0 0, .slice none 0 0] 33)))
    have qx : Box3 ((w1.alloc (.cells #[.int .i64 K, .int .i64 1, .slice a n c] 24)).alloc (.cells #[.int .i64 0, .slice none 0 0, .slice none 0 0] 33)) w1.heap.size (.int .i64 K) (.int .i64 1) (.slice a n c) := by simp [Box3, go_sem]
    obtain ⟨⟨y0, y1, y2⟩, f0, f1, f2⟩ := qz.below c1
    have ho2 := (ho.alloc (.cells #[.int .i64 K, .int .i64 1, .slice a n c] 24)).alloc (.cells #[.int .i64 0, .slice none 0 0, .slice none 0 0] 33)
    have bE := Below.step b0 c1
    clear z0 z1 z2
    replace ho := Lib.hid ho
    replace ho2 := Lib.hid ho2
    go_wp2
    refine bodyPost_ret (v := .agg #[.int .i64 K, .int .i64 1, .slice a n c]) (by simp [results, Tryz.results66, go_sem, y0, y1, y2]) rfl ⟨_, rfl, below_set3 bE (Nat.le_succ _) _ _ _, a, n, c, rfl, ?_⟩
    refine OwnI.at (B := w.heap.size + 2) ?_
    rw [s0] at ho2
    exact ((ho2.out.setBelowBase (a := ⟨w.heap.size + 1, 0, none⟩) (by simp) _).setBelowBase (a := ⟨w.heap.size + 1, 1, none⟩) (by simp) _).setBelowBase (a := ⟨w.heap.size + 1, 2, none⟩) (by simp) _
  · have e1 : decide ((0 : Int) < (R : Int)) = true := decide_eq_true (by omega)
    have hk : wkR R = R := if_neg hR
    have hkT : wkT K R T = T := if_neg hR
    obtain ⟨W0, hW0⟩ : ∃ W : World, ((w.alloc (.cells #[.int .i64 K, .int .i64 R, .slice va vn vc] 24)).alloc (.cells #[.int .i64 0, .int .i64 0, .slice none 0 0] 24)) = W := ⟨_, rfl⟩
    rw [hW0] at b0 qr qz s0
    rw [hk, hkT]
    have b1 := below_set3 b0 (Nat.le_succ _) (.int .i64 K) (.int .i64 R) (.slice va vn vc)
    have hE := h.below b1
    replace h := Lib.hid h
    replace hE := Lib.hid hE
    replace hr := Lib.hid hr
    replace hlow := Lib.hid hlow
    replace hW0 := Lib.hid hW0
    clear hk hkT
    obtain ⟨⟨z0, z1, z2⟩, -, -, -⟩ := qr
    obtain ⟨⟨y0, y1, y2⟩, f0, f1, f2⟩ := qz
    go_enter Tryz.func66, Tryz.ntmps66
    go_upto_region 1 with fail
    rw [hW0.out]
    go_wp2
    refine bodyPost_ret (v := .agg #[.int .i64 K, .int .i64 R, .slice va vn vc]) (by simp [results, Tryz.results66, go_sem, y0, y1, y2]) rfl ⟨_, rfl, b1, va, vn, vc, rfl, hE.out⟩

theorem ref_count (K R : Nat) (va : Option Addr) (vn vc : Nat) (w : World) (hk1 : 1 ≤ K) (hk4 : K ≤ 4) (hR3 : R ≤ 3) :
    Calls Tryz.prog 41 #[.agg #[.int .i64 K, .int .i64 R, .slice va vn vc]] w (Ret1 (fun x _ => x = .int .i64 (pw K (2 * R) : Nat)) w) := by
  have b0 := belowAlloc w (.cells #[.int .i64 K, .int .i64 R, .slice va vn vc] 24)
  have hp := ref_power K (2 * (R : Int)) K (2 * R) (w.alloc (.cells #[.int .i64 K, .int .i64 R, .slice va vn vc] 24)) rfl (by omega) hk1 hk4 (by omega)
  replace hp := Lib.hid hp
  go_enter Tryz.func41, Tryz.ntmps41
  go_wp2_with fail
  refine hp.out.mono ?_
  rintro e w1 ⟨rfl, rfl⟩
  go_wp2
  go_ret
  exact ⟨_, rfl, b0, rfl⟩
end Go.Proofs.YtilpckngghffoaaGreatDoor

namespace Go.Proofs.YtilpckngghffoaaGreatDoor
open Go.RowKit

/-- A row: its elements' type, how many cells each has, the slice value, how many elements, the cells. -/
structure Row where
  E : TypeId
  size : Nat
  v : Value
  n : Nat
  xs : List Value
def Row.own (B : Nat) (w : World) (r : Row) : Prop := w.ownsRow B r.E r.size r.v r.n r.xs
abbrev Names := Nat × Nat → Option Row
/-- The rows lie where they lie, no two in one block. -/
def Rows (B : Nat) (w : World) (f : Names) : Prop :=
  (∀ i r, f i = some r → r.own B w) ∧ (∀ i j r s, f i = some r → f j = some s → i ≠ j → r.v.ownBlock = none ∨ r.v.ownBlock ≠ s.v.ownBlock)
def upd (f : Names) (i : Nat × Nat) (r : Option Row) : Names := fun j => if j = i then r else f j
theorem upd_same (f : Names) (i : Nat × Nat) (r : Option Row) : upd f i r i = r := by simp [upd]
theorem upd_ne (f : Names) {i j : Nat × Nat} (r : Option Row) (h : j ≠ i) : upd f i r j = f j := by simp [upd, h]

theorem Rows.below {B : Nat} {w w' : World} {f : Names} (h : Rows B w f) (hb : Below w.heap.size w w') : Rows B w' f :=
  ⟨fun i r hi => by
    have ho := h.1 i r hi
    refine ⟨ho.1, ?_⟩
    rcases ho.2 with h2 | ⟨g, cap, cur, e, hB, hg, rest⟩
    · exact .inl h2
    · exact .inr ⟨g, cap, cur, e, hB, by rw [hb.block g (Array.getElem?_eq_some_iff.1 hg).1]; exact hg, rest⟩, h.2⟩
theorem Rows.drop {B : Nat} {w : World} {f : Names} (h : Rows B w f) (i : Nat × Nat) : Rows B w (upd f i none) :=
  ⟨fun j r hj => by
    by_cases e : j = i
    · subst e; rw [upd_same] at hj; cases hj
    · rw [upd_ne _ _ e] at hj; exact h.1 j r hj, fun j k r s hj hk hne => by
    by_cases e : j = i
    · subst e; rw [upd_same] at hj; cases hj
    by_cases e' : k = i
    · subst e'; rw [upd_same] at hk; cases hk
    rw [upd_ne _ _ e] at hj
    rw [upd_ne _ _ e'] at hk
    exact h.2 j k r s hj hk hne⟩
theorem Rows.lt {B : Nat} {w : World} {f : Names} (h : Rows B w f) {i : Nat × Nat} {r : Row} (hi : f i = some r) : ∀ k, r.v.ownBlock = some k → B ≤ k ∧ k < w.heap.size := World.ownsRow.lt (h.1 i r hi)

/-- What was done in row i alone: the row is now r'; it lies where it lay, or in a new block. -/
theorem Rows.grown {B : Nat} {w w' : World} {f : Names} {i : Nat × Nat} {r r' : Row} (h : Rows B w f) (hi : f i = some r) (hg : w.grownBy w' r.v.ownBlock) (ho : r'.own B w') (hb : r'.v.ownBlock = r.v.ownBlock ∨ ∃ k, r'.v.ownBlock = some k ∧ w.heap.size ≤ k) :
    Rows B w' (upd f i (some r')) := by
  have far : ∀ j s, f j = some s → j ≠ i → s.v.ownBlock = none ∨ s.v.ownBlock ≠ r'.v.ownBlock := fun j s hj hne => by
    rcases hb with e | ⟨k, e, hk⟩
    · rw [e]; exact h.2 j i s r hj hi hne
    · cases hs : s.v.ownBlock with
      | none => exact .inl rfl
      | some m =>
        have := (h.lt hj m hs).2
        right; rw [e]; intro e2; injection e2 with e2; omega
  refine ⟨fun j s hj => ?_, fun j k s t hj hk hne => ?_⟩
  · by_cases e : j = i
    · subst e; rw [upd_same] at hj; cases hj; exact ho
    · rw [upd_ne _ _ e] at hj
      exact World.ownsRow.kept (h.1 j s hj) hg (h.2 j i s r hj hi e)
  · by_cases e : j = i
    · subst e
      rw [upd_same] at hj; cases hj
      rw [upd_ne _ _ (Ne.symm hne)] at hk
      rcases far k t hk (Ne.symm hne) with e2 | e2
      · cases hr : r'.v.ownBlock with
        | none => exact .inl rfl
        | some m => right; rw [e2]; simp
      · exact .inr (Ne.symm e2)
    · rw [upd_ne _ _ e] at hj
      by_cases e' : k = i
      · subst e'; rw [upd_same] at hk; cases hk
        exact far j s hj e
      · rw [upd_ne _ _ e'] at hk
        exact h.2 j k s t hj hk hne

/-- A new row, in a new block (or nil). -/
theorem Rows.fresh {B : Nat} {w w' : World} {f : Names} {i : Nat × Nat} {r' : Row} (h : Rows B w f) (hg : w.grownBy w' none) (ho : r'.own B w') (hb : ∀ k, r'.v.ownBlock = some k → w.heap.size ≤ k) :
    Rows B w' (upd f i (some r')) := by
  refine ⟨fun j s hj => ?_, fun j k s t hj hk hne => ?_⟩
  · by_cases e : j = i
    · subst e; rw [upd_same] at hj; cases hj; exact ho
    · rw [upd_ne _ _ e] at hj
      exact World.ownsRow.kept (h.1 j s hj) hg (by cases s.v.ownBlock <;> simp)
  · by_cases e : j = i
    · subst e
      rw [upd_same] at hj; cases hj
      rw [upd_ne _ _ (Ne.symm hne)] at hk
      cases hr : r'.v.ownBlock with
      | none => exact .inl rfl
      | some m =>
        right; intro e2
        have h1 := hb m hr
        have h2 := (h.lt hk m e2.symm).2
        omega
    · rw [upd_ne _ _ e] at hj
      by_cases e' : k = i
      · subst e'; rw [upd_same] at hk; cases hk
        cases hs : s.v.ownBlock with
        | none => exact .inl rfl
        | some m =>
          right; intro e2
          have h1 := hb m e2.symm
          have h2 := (h.lt hj m hs).2
          omega
      · rw [upd_ne _ _ e'] at hk
        exact h.2 j k s t hj hk hne

theorem below_grows {w w' : World} (h : Below w.heap.size w w') (row : Option Nat) : w.grownBy w' row := ⟨h.os, h.tape, h.output, h.size, fun k hk _ => h.block k hk⟩
/-- A new row, made by a call that keeps what was. -/
theorem Rows.add {B : Nat} {w w' : World} {f : Names} {i : Nat × Nat} {r' : Row} (h : Rows B w f) (hb : Below w.heap.size w w') (ho : r'.own B w') (hn : ∀ k, r'.v.ownBlock = some k → w.heap.size ≤ k) : Rows B w' (upd f i (some r')) :=
  h.fresh (below_grows hb none) ho hn

/-- The block of a row that is not nil. -/
theorem Row.own.shape {B : Nat} {w : World} {r : Row} (h : r.own B w) (hn : 0 < r.n) : ∃ g cap, r.v = .slice (some ⟨g, 0, none⟩) r.n cap ∧ B ≤ g := by
  rcases h.2 with ⟨_, h0⟩ | ⟨g, cap, cur, e, hB, _⟩
  · omega
  · exact ⟨g, cap, e, hB⟩
/-- A store into cell k of row i. -/
theorem Rows.set {B : Nat} {w : World} {f : Names} {i : Nat × Nat} {r : Row} (h : Rows B w f) (hi : f i = some r) {g cap : Nat} (hv : r.v = .slice (some ⟨g, 0, none⟩) r.n cap) (k : Nat) (y : Value) :
    Rows B (w.setCell ⟨g, k, none⟩ y) (upd f i (some { r with xs := r.xs.set k y })) := by
  have ho := h.1 i r hi
  unfold Row.own at ho
  rw [hv] at ho
  have hs := World.ownsRow.stored ho k y
  refine h.grown hi (by rw [hv]; exact hs.2) ?_ (.inl rfl)
  unfold Row.own
  rw [hv]
  exact hs.1
theorem Rows.cell {B : Nat} {w : World} {f : Names} {i : Nat × Nat} {r : Row} (h : Rows B w f) (hi : f i = some r) {g cap : Nat} (hv : r.v = .slice (some ⟨g, 0, none⟩) r.n cap) (k : Nat) (hk : k < r.n * r.size) : w.cell? ⟨g, k, none⟩ = r.xs[k]? := by
  have ho := h.1 i r hi
  unfold Row.own at ho
  rw [hv] at ho
  exact ho.cellAt k hk
theorem Rows.frozen {B : Nat} {w : World} {f : Names} {i : Nat × Nat} {r : Row} (h : Rows B w f) (hi : f i = some r) {g cap : Nat} (hv : r.v = .slice (some ⟨g, 0, none⟩) r.n cap) (k : Nat) : w.frozen? ⟨g, k, none⟩ = false := by
  have ho := h.1 i r hi
  unfold Row.own at ho
  rw [hv] at ho
  exact ho.frozenAt k
theorem Rows.congr {B : Nat} {w : World} {f f' : Names} (h : Rows B w f) (e : ∀ i, f' i = f i) : Rows B w f' := by
  rw [show f' = f from funext e]; exact h
theorem Rows.drew {B : Nat} {w : World} {f : Names} (h : Rows B w f) : Rows B w.drew f := h
theorem Rows.drewN {B : Nat} {w : World} {f : Names} (h : Rows B w f) (n : Nat) : Rows B (w.drewN n) f := h

/-- A row of ints, of whatever one-cell values. -/
abbrev rowI (v : Value) (xs : List Int) : Row := ⟨3, 1, v, xs.length, xs.map (Value.int .i64)⟩
abbrev rowV (E : TypeId) (v : Value) (vs : List Value) : Row := ⟨E, 1, v, vs.length, vs⟩
theorem Rows.ownI {B : Nat} {w : World} {f : Names} {i : Nat × Nat} {v : Value} {xs : List Int} (h : Rows B w f) (hi : f i = some (rowI v xs)) : OwnI B w v xs := h.1 i _ hi
theorem Rows.ownV {B : Nat} {w : World} {f : Names} {i : Nat × Nat} {E : TypeId} {v : Value} {vs : List Value} (h : Rows B w f) (hi : f i = some (rowV E v vs)) : OwnV E B w v vs := h.1 i _ hi
/-- A store into element k of a row of ints. -/
theorem Rows.setI {B : Nat} {w : World} {f : Names} {i : Nat × Nat} {v : Value} {xs : List Int} (h : Rows B w f) (hi : f i = some (rowI v xs)) (k : Nat) (hk : k < xs.length) (y : Int) :
    Rows B (w.setCell (valAt v k) (.int .i64 y)) (upd f i (some (rowI v (xs.set k y)))) := by
  have ho := h.ownI hi
  have hs := ho.set k hk y
  refine h.grown hi ?_ hs (.inl rfl)
  have := ho.toV.setGrown k (by simpa using hk) (.int .i64 y)
  exact this
theorem Rows.setV {B : Nat} {w : World} {f : Names} {i : Nat × Nat} {E : TypeId} {v : Value} {vs : List Value} (h : Rows B w f) (hi : f i = some (rowV E v vs)) (k : Nat) (hk : k < vs.length) (y : Value) :
    Rows B (w.setCell (valAt v k) y) (upd f i (some (rowV E v (vs.set k y)))) := by
  have ho := h.ownV hi
  refine h.grown hi (ho.setGrown k hk y) ?_ (.inl rfl)
  have := ho.set k hk y
  unfold Row.own
  exact this
end Go.Proofs.YtilpckngghffoaaGreatDoor

namespace Go.Proofs.YtilpckngghffoaaGreatDoor
open Go.RowKit
set_option maxRecDepth 100000

/-- The first n values of a function. -/
def tab (n : Nat) (f : Nat → Nat) : List Int := (List.range n).map fun (v : Nat) => (f v : Int)
def tabI (n : Nat) (f : Nat → Int) : List Int := (List.range n).map f
theorem tabI_len (n : Nat) (f : Nat → Int) : (tabI n f).length = n := by simp [tabI]
theorem tabI_get (n : Nat) (f : Nat → Int) (v : Nat) (hv : v < n) : (tabI n f).getD v 0 = f v := by simp [tabI, List.getD, hv]
theorem tabI_upd (n : Nat) (f : Nat → Int) (v : Nat) (a : Int) : (tabI n f).set v a = tabI n (updN f v a) := by
  apply List.ext_getElem
  · simp [tabI]
  · intro i h1 h2
    simp only [tabI, List.getElem_set, List.getElem_map, List.getElem_range, updN]
    by_cases e : v = i
    · rw [if_pos e, if_pos e.symm]
    · rw [if_neg e, if_neg (fun q => e q.symm)]
/-- The stacks' cells. -/
def flatF (calls : List Nat) (idx : Nat → Nat) : List Value := calls.reverse.flatMap fun (v : Nat) => [.int .i64 (v : Int), .int .i64 (idx v : Int)]
def upI (l : List Nat) : List Int := l.reverse.map fun (v : Nat) => (v : Int)
theorem upI_len (l : List Nat) : (upI l).length = l.length := by simp [upI]
theorem upI_cons (v : Nat) (l : List Nat) : upI (v :: l) = upI l ++ [(v : Int)] := by simp [upI]
/-- What the names name. -/
structure SN (f : Names) (d : Nat) (nv lv fv pv ov cv : Value) (n : Nat) (S : TS) : Prop where
  box : f (0, 0) = some ⟨213, 7, .slice (some ⟨d, 0, none⟩) 1 1, 1, [nv, lv, fv, ov, pv, cv, .int .i64 S.time]⟩
  low : f (1, 0) = some (rowI lv (tab n S.low))
  fnd : f (2, 0) = some (rowI fv (tab n S.found))
  opn : f (3, 0) = some (rowI ov (upI S.opn))
  part : f (4, 0) = some (rowI pv (tabI n S.part))
  calls : f (5, 0) = some ⟨233, 2, cv, S.calls.length, flatF S.calls S.idx⟩

section
variable {B : Nat} {w : World} {f : Names} {d : Nat} {nv lv fv pv ov cv : Value} {n : Nat} {S : TS}

theorem SN.cell (h : SN f d nv lv fv pv ov cv n S) (hr : Rows B w f) (k : Nat) (hk : k < 7) : w.cell? ⟨d, k, none⟩ = [nv, lv, fv, ov, pv, cv, .int .i64 S.time][k]? :=
  hr.cell h.box (g := d) (cap := 1) rfl k (by simp; omega)
theorem SN.frz (h : SN f d nv lv fv pv ov cv n S) (hr : Rows B w f) (k : Nat) : w.frozen? ⟨d, k, none⟩ = false := hr.frozen h.box (g := d) (cap := 1) rfl k
theorem SN.base (h : SN f d nv lv fv pv ov cv n S) (hr : Rows B w f) : B ≤ d := (hr.lt h.box d rfl).1
theorem grown_via {w' : World} {row : Option Nat} (hg : w.grownBy w' row ∨ w.grownBy w' none) : w.grownBy w' row := by
  rcases hg with h | h
  · exact h
  · exact ⟨h.os, h.tape, h.output, h.size, fun k hk _ => h.block k hk (by simp)⟩
/-- The value that holds the stack of calls, the open stack. -/
theorem row_shape {E : TypeId} {size m : Nat} {v : Value} {xs : List Value} (h : w.ownsRow B E size v m xs) (hm : 0 < m) : ∃ g c, v = .slice (some ⟨g, 0, none⟩) m c ∧ m ≤ c := by
  rcases h.2 with ⟨_, e⟩ | ⟨g, cap, cur, e, _, _, hn, _⟩
  · omega
  · exact ⟨g, cap, e, hn⟩
end
end Go.Proofs.YtilpckngghffoaaGreatDoor

namespace Go.Proofs.YtilpckngghffoaaGreatDoor

/-- w is a way from x to y. -/
inductive Way (adj : Nat → List Nat) : Nat → Nat → List Nat → Prop
  | one (x : Nat) : Way adj x x [x]
  | cons {x t y : Nat} {w : List Nat} (ht : t ∈ adj x) (h : Way adj t y w) : Way adj x y (x :: w)
theorem Way.goes {adj : Nat → List Nat} {x y : Nat} {w : List Nat} (h : Way adj x y w) : Goes adj x y := by
  induction h with
  | one => exact .refl _
  | cons ht _ ih => exact (Goes.one ht).trans ih
theorem Way.snoc {adj : Nat → List Nat} {x y z : Nat} {w : List Nat} (h : Way adj x y w) (hz : z ∈ adj y) : Way adj x z (w ++ [z]) := by
  induction h with
  | one => exact .cons hz (.one _)
  | cons ht _ ih => exact .cons ht (ih hz)
theorem Goes.way {adj : Nat → List Nat} {x y : Nat} (h : Goes adj x y) : ∃ w, Way adj x y w := by
  induction h with
  | refl => exact ⟨_, .one _⟩
  | step _ hz ih => obtain ⟨w, hw⟩ := ih; exact ⟨_, hw.snoc hz⟩
theorem Way.ne {adj : Nat → List Nat} {x y : Nat} {w : List Nat} (h : Way adj x y w) : ∃ w', w = x :: w' := by
  cases h with
  | one => exact ⟨_, rfl⟩
  | cons => exact ⟨_, rfl⟩
theorem Way.pos {adj : Nat → List Nat} {x y : Nat} {w : List Nat} (h : Way adj x y w) : 0 < w.length := by
  obtain ⟨w', rfl⟩ := h.ne; simp

/-- The order of words. -/
def lexLe : List Nat → List Nat → Prop
  | [], _ => True
  | _ :: _, [] => False
  | a :: l, b :: m => a < b ∨ (a = b ∧ lexLe l m)
theorem lexLe_refl : ∀ l, lexLe l l
  | [] => trivial
  | _ :: l => .inr ⟨rfl, lexLe_refl l⟩
theorem lexLe_antisymm : ∀ {l m : List Nat}, l.length = m.length → lexLe l m → lexLe m l → l = m
  | [], [], _, _, _ => rfl
  | [], _ :: _, h, _, _ => by simp at h
  | _ :: _, [], h, _, _ => by simp at h
  | a :: l, b :: m, h, h1, h2 => by
    simp only [lexLe] at h1 h2
    have hl : l.length = m.length := by simpa using h
    rcases h1 with q | ⟨q, r⟩ <;> rcases h2 with q' | ⟨q', r'⟩
    · omega
    · omega
    · omega
    · rw [q, lexLe_antisymm hl r r']

/-- w is the first of the shortest ways from x to y. -/
structure IsFirst (adj : Nat → List Nat) (x y : Nat) (w : List Nat) : Prop where
  way : Way adj x y w
  short : ∀ u, Way adj x y u → w.length ≤ u.length
  least : ∀ u, Way adj x y u → u.length = w.length → lexLe w u
theorem IsFirst.unique {adj : Nat → List Nat} {x y : Nat} {w u : List Nat} (h : IsFirst adj x y w) (h2 : IsFirst adj x y u) : w = u := by
  have e : w.length = u.length := by have := h.short u h2.way; have := h2.short w h.way; omega
  exact lexLe_antisymm e (h.least u h2.way e.symm) (h2.least w h.way e)
theorem IsFirst.tail {adj : Nat → List Nat} {x y t : Nat} {w : List Nat} (h : IsFirst adj x y (x :: t :: w)) : IsFirst adj t y (t :: w) := by
  obtain ⟨ht, hw⟩ : t ∈ adj x ∧ Way adj t y (t :: w) := by
    have h1 := h.way
    cases h1 with
    | cons ht h2 => obtain ⟨w', e⟩ := h2.ne; injection e with e1 e2; subst e1; exact ⟨ht, h2⟩
  refine ⟨hw, fun u hu => ?_, fun u hu hl => ?_⟩
  · have := h.short _ (.cons ht hu); simp only [List.length_cons] at this ⊢; omega
  · have := h.least _ (.cons ht hu) (by simp only [List.length_cons] at hl ⊢; omega)
    exact (this.resolve_left (Nat.lt_irrefl _)).2
/-- The ends that stand in a way are the same, and each piece behind is a way. -/
theorem Way.mem {adj : Nat → List Nat} {x y : Nat} {w : List Nat} (h : Way adj x y w) : ∀ z ∈ w, ∃ u, Way adj z y u ∧ u.length ≤ w.length := by
  induction h with
  | one => intro z hz; cases List.mem_singleton.1 hz; exact ⟨_, .one _, Nat.le_refl _⟩
  | cons ht h ih =>
    intro z hz
    rcases List.mem_cons.1 hz with rfl | hz
    · exact ⟨_, .cons ht h, Nat.le_refl _⟩
    · obtain ⟨u, h1, h2⟩ := ih z hz; exact ⟨u, h1, by simp only [List.length_cons]; omega⟩
/-- No vertex twice. -/
theorem IsFirst.nodup {adj : Nat → List Nat} {x y : Nat} {w : List Nat} (h : IsFirst adj x y w) : w.Nodup := by
  induction w generalizing x with
  | nil => exact List.nodup_nil
  | cons a w ih =>
    obtain ⟨w', e⟩ := h.way.ne
    injection e with e1 e2
    subst e1; subst e2
    cases w with
    | nil => simp
    | cons t w =>
      refine List.nodup_cons.2 ⟨fun hm => ?_, ih h.tail⟩
      obtain ⟨u, h1, h2⟩ := h.tail.way.mem _ hm
      have := h.short u h1
      simp only [List.length_cons] at this h2; omega
/-- The queue, where everything came from, and with which place's help (par), how far (dist). -/
structure BBase (adj : Nat → List Nat) (a : Nat) (came : Nat → Int) (q : List Nat) (par dist : Nat → Nat) (b i : Nat) : Prop where
  hd : q[0]? = some a
  nodup : q.Nodup
  cameIff : ∀ x, 0 ≤ came x ↔ x ∈ q
  low : ∀ x, -1 ≤ came x
  root : came a = a
  dist0 : dist a = 0
  parLt : ∀ (j x : Nat), 0 < j → q[j]? = some x → par j < b ∧ par j < j ∧ ∃ p, q[par j]? = some p ∧ came x = (p : Int) ∧ x ∈ adj p ∧ dist x = dist p + 1
  mono : ∀ (j k x y : Nat), 0 < j → j < k → q[j]? = some x → q[k]? = some y → par j ≤ par k ∧ (par j = par k → x < y)
  distMono : ∀ (j k x y : Nat), j ≤ k → q[j]? = some x → q[k]? = some y → dist x ≤ dist y
  closed : ∀ p x, p < i → q[p]? = some x → ∀ t ∈ adj x, ∃ j, q[j]? = some t ∧ (0 < j → par j ≤ p)
/-- Between two rounds. -/
abbrev BOut (adj : Nat → List Nat) (a : Nat) (came : Nat → Int) (q : List Nat) (par dist : Nat → Nat) (i : Nat) : Prop := BBase adj a came q par dist i i
/-- Within a round: l is what is left of v's arrows, from the least on. -/
structure BIn (adj : Nat → List Nat) (a : Nat) (came : Nat → Int) (q : List Nat) (par dist : Nat → Nat) (i v : Nat) (l : List Nat) : Prop where
  base : BBase adj a came q par dist (i + 1) i
  cur : q[i]? = some v
  sub : ∀ t ∈ l, t ∈ adj v
  sorted : l.Pairwise (· ≤ ·)
  seen : ∀ t ∈ adj v, t ∈ l ∨ ∃ j, q[j]? = some t ∧ (0 < j → par j ≤ i)
  new : ∀ j x, 0 < j → q[j]? = some x → par j = i → ∀ t ∈ l, x ≤ t

variable {adj : Nat → List Nat} {a : Nat} {came : Nat → Int} {q : List Nat} {par dist : Nat → Nat} {b i v : Nat} {l : List Nat}

theorem get_of {q : List Nat} {j x : Nat} (h : q[j]? = some x) : j < q.length := by
  by_cases e : j < q.length
  · exact e
  · rw [List.getElem?_eq_none (by omega)] at h; cases h
theorem get_inj {q : List Nat} (hn : q.Nodup) {j k x : Nat} (h : q[j]? = some x) (h2 : q[k]? = some x) : j = k := by
  have h1 := get_of h
  exact (List.getElem?_inj h1 hn).1 (h.trans h2.symm)

theorem BBase.enter (h : BOut adj a came q par dist i) (hv : q[i]? = some v) (hl : ∀ t, t ∈ l ↔ t ∈ adj v) (hs : l.Pairwise (· ≤ ·)) : BIn adj a came q par dist i v l := by
  refine ⟨⟨h.hd, h.nodup, h.cameIff, h.low, h.root, h.dist0, fun j x hj hx => ?_, h.mono, h.distMono, h.closed⟩, hv, fun t ht => (hl t).1 ht, hs, fun t ht => .inl ((hl t).2 ht), fun j x hj hx hp => ?_⟩
  · obtain ⟨h1, h2, h3⟩ := h.parLt j x hj hx
    exact ⟨by omega, h2, h3⟩
  · have := (h.parLt j x hj hx).1; omega
theorem BIn.leave (h : BIn adj a came q par dist i v []) : BOut adj a came q par dist (i + 1) := by
  refine ⟨h.base.hd, h.base.nodup, h.base.cameIff, h.base.low, h.base.root, h.base.dist0, h.base.parLt, h.base.mono, h.base.distMono, fun p x hp hx t ht => ?_⟩
  by_cases e : p = i
  · subst e
    rw [h.cur] at hx; cases hx
    exact (h.seen t ht).resolve_left (by simp)
  · exact h.base.closed p x (by omega) hx t ht
/-- An arrow to a vertex that is there. -/
theorem BIn.old {t : Nat} (h : BIn adj a came q par dist i v (t :: l)) (ht : 0 ≤ came t) : BIn adj a came q par dist i v l := by
  refine ⟨h.base, h.cur, fun x hx => h.sub x (List.mem_cons_of_mem _ hx), (List.pairwise_cons.1 h.sorted).2, fun x hx => ?_, fun j x hj hx hp y hy => h.new j x hj hx hp y (List.mem_cons_of_mem _ hy)⟩
  rcases h.seen x hx with q1 | q1
  · rcases List.mem_cons.1 q1 with e | e
    · subst e
      obtain ⟨j, hj⟩ := List.mem_iff_getElem?.1 ((h.base.cameIff x).1 ht)
      refine .inr ⟨j, hj, fun hj0 => ?_⟩
      have := (h.base.parLt j x hj0 hj).1; omega
    · exact .inl e
  · exact .inr q1
/-- An arrow to a new one. -/
theorem BIn.add {t : Nat} (h : BIn adj a came q par dist i v (t :: l)) (ht : came t < 0) :
    BIn adj a (updN came t (v : Int)) (q ++ [t]) (updN par q.length i) (updN dist t (dist v + 1)) i v l := by
  have hB := h.base
  have htq : t ∉ q := fun hm => by have := (hB.cameIff t).2 hm; omega
  have hil := get_of h.cur
  have hga : ∀ j x, (q ++ [t])[j]? = some x → q[j]? = some x ∧ j < q.length ∧ x ≠ t ∨ j = q.length ∧ x = t := fun j x hx => by
    by_cases e : j < q.length
    · rw [List.getElem?_append_left e] at hx
      exact .inl ⟨hx, e, fun e2 => htq (by rw [← e2]; exact List.mem_of_getElem? hx)⟩
    · rw [List.getElem?_append_right (by omega)] at hx
      by_cases e2 : j = q.length
      · rw [e2] at hx; simp at hx; exact .inr ⟨e2, hx.symm⟩
      · rw [List.getElem?_eq_none (by simp; omega)] at hx; cases hx
  have hgo : ∀ {j x}, q[j]? = some x → (q ++ [t])[j]? = some x := fun {j x} hx => by rw [List.getElem?_append_left (get_of hx)]; exact hx
  have hne : ∀ x, x ∈ q → x ≠ t := fun x hx e => htq (by rw [← e]; exact hx)
  have hvt : v ≠ t := hne v (List.mem_of_getElem? h.cur)
  have po : ∀ j, j < q.length → updN par q.length i j = par j := fun j hj => updN_other _ _ _ (by omega)
  have dq : ∀ x, x ∈ q → updN dist t (dist v + 1) x = dist x := fun x hx => updN_other _ _ _ (hne x hx)
  have haq : a ∈ q := List.mem_of_getElem? hB.hd
  have hdle : ∀ x, x ∈ q → dist x ≤ dist v + 1 := fun x hx => by
    obtain ⟨j, hj⟩ := List.mem_iff_getElem?.1 hx
    by_cases e : 0 < j
    · obtain ⟨h1, h2, p, h3, h4, h5, h6⟩ := hB.parLt j x e hj
      have := hB.distMono (par j) i p v (by omega) h3 h.cur
      omega
    · have : j = 0 := by omega
      subst this; rw [hB.hd] at hj; cases hj; have := hB.dist0; omega
  refine ⟨⟨hgo hB.hd, ?_, fun x => ?_, fun x => ?_, ?_, ?_, fun j x hj hx => ?_, fun j k x y hj hjk hx hy => ?_, fun j k x y hjk hx hy => ?_, fun p x hp hx t' ht' => ?_⟩, hgo h.cur, fun x hx => h.sub x (List.mem_cons_of_mem _ hx), (List.pairwise_cons.1 h.sorted).2, fun x hx => ?_, fun j x hj hx hp y hy => ?_⟩
  · exact List.nodup_append.2 ⟨hB.nodup, by simp, fun x hx y hy => by cases List.mem_singleton.1 hy; exact hne x hx⟩
  · by_cases e : x = t
    · subst e; rw [updN_same]; simp
    · rw [updN_other _ _ _ e, hB.cameIff]; simp [e]
  · by_cases e : x = t
    · subst e; rw [updN_same]; omega
    · rw [updN_other _ _ _ e]; exact hB.low x
  · rw [updN_other _ _ _ (hne a haq)]; exact hB.root
  · rw [dq a haq]; exact hB.dist0
  · rcases hga j x hx with ⟨h1, h2, h3⟩ | ⟨rfl, rfl⟩
    · obtain ⟨p1, p2, p, p3, p4, p5, p6⟩ := hB.parLt j x hj h1
      rw [po j h2, updN_other _ _ _ h3, dq x (List.mem_of_getElem? h1)]
      exact ⟨p1, p2, p, hgo p3, p4, p5, by rw [dq p (List.mem_of_getElem? p3)]; exact p6⟩
    · rw [updN_same, updN_same, updN_same]
      exact ⟨by omega, hil, v, hgo h.cur, rfl, h.sub _ List.mem_cons_self, by rw [dq v (List.mem_of_getElem? h.cur)]⟩
  · rcases hga j x hx with ⟨h1, h2, h3⟩ | ⟨rfl, rfl⟩
    · rcases hga k y hy with ⟨k1, k2, k3⟩ | ⟨rfl, rfl⟩
      · rw [po j h2, po k k2]; exact hB.mono j k x y hj hjk h1 k1
      · rw [po j h2, updN_same]
        have := (hB.parLt j x hj h1).1
        exact ⟨by omega, fun e => by have := h.new j x hj h1 e y List.mem_cons_self; omega⟩
    · rcases hga k y hy with ⟨k1, k2, k3⟩ | ⟨rfl, rfl⟩ <;> omega
  · rcases hga k y hy with ⟨k1, k2, k3⟩ | ⟨rfl, rfl⟩
    · rcases hga j x hx with ⟨h1, h2, h3⟩ | ⟨rfl, rfl⟩
      · rw [dq x (List.mem_of_getElem? h1), dq y (List.mem_of_getElem? k1)]; exact hB.distMono j k x y hjk h1 k1
      · omega
    · rcases hga j x hx with ⟨h1, h2, h3⟩ | ⟨h1, rfl⟩
      · rw [dq x (List.mem_of_getElem? h1), updN_same]; exact hdle x (List.mem_of_getElem? h1)
      · exact Nat.le_refl _
  · rcases hga p x hx with ⟨h1, h2, h3⟩ | ⟨h1, rfl⟩
    · obtain ⟨j, j1, j2⟩ := hB.closed p x hp h1 t' ht'
      exact ⟨j, hgo j1, fun hj => by rw [po j (get_of j1)]; exact j2 hj⟩
    · omega
  · by_cases e : x = t
    · subst e; exact .inr ⟨q.length, by simp, fun _ => by rw [updN_same]; exact Nat.le_refl _⟩
    · rcases h.seen x hx with q1 | ⟨j, j1, j2⟩
      · exact .inl ((List.mem_cons.1 q1).resolve_left e)
      · exact .inr ⟨j, hgo j1, fun hj => by rw [po j (get_of j1)]; exact j2 hj⟩
  · rcases hga j x hx with ⟨h1, h2, h3⟩ | ⟨rfl, rfl⟩
    · rw [po j h2] at hp; exact h.new j x hj h1 hp y (List.mem_cons_of_mem _ hy)
    · exact (List.pairwise_cons.1 h.sorted).1 y hy
theorem BBase.init (adj : Nat → List Nat) (a : Nat) : BOut adj a (updN (fun _ => (-1 : Int)) a (a : Int)) [a] (fun _ => 0) (fun _ => 0) 0 := by
  have hg : ∀ j x, [a][j]? = some x → j = 0 ∧ x = a := fun j x hx => by
    cases j with
    | zero => simp at hx; exact ⟨rfl, hx.symm⟩
    | succ j => simp at hx
  refine ⟨rfl, by simp, fun x => ?_, fun x => ?_, updN_same _ _ _, rfl, fun j x hj hx => ?_, fun j k x y hj hjk hx hy => ?_, fun j k x y hjk hx hy => Nat.le_refl _, fun p x hp => by omega⟩
  · by_cases e : x = a
    · subst e; rw [updN_same]; simp
    · rw [updN_other _ _ _ e]; simp [e]
  · by_cases e : x = a
    · subst e; rw [updN_same]; omega
    · rw [updN_other _ _ _ e]; omega
  · have := (hg j x hx).1; omega
  · have := (hg j x hx).1; have := (hg k y hy).1; omega

/-- A way along which each vertex came from the one ahead of it. -/
inductive Tree (came : Nat → Int) (q : List Nat) (adj : Nat → List Nat) : Nat → Nat → List Nat → Prop
  | one (x : Nat) (hx : x ∈ q) : Tree came q adj x x [x]
  | cons {x t y : Nat} {w : List Nat} (jx jt : Nat) (hx : q[jx]? = some x) (ht : q[jt]? = some t) (h0 : 0 < jt) (hp : came t = (x : Int)) (h : Tree came q adj t y w) : Tree came q adj x y (x :: w)

theorem BBase.parent (h : BOut adj a came q par dist i) {jx jt x t : Nat} (hx : q[jx]? = some x) (ht : q[jt]? = some t) (h0 : 0 < jt) (hp : came t = (x : Int)) : par jt = jx ∧ jx < i ∧ jx < jt ∧ t ∈ adj x ∧ dist t = dist x + 1 := by
  obtain ⟨h1, h2, p, h3, h4, h5, h6⟩ := h.parLt jt t h0 ht
  have e : p = x := by rw [hp] at h4; omega
  subst e
  have := get_inj h.nodup h3 hx
  exact ⟨this, by omega, by omega, h5, h6⟩
theorem Tree.way (h : BOut adj a came q par dist i) {x y : Nat} {w : List Nat} (ht : Tree came q adj x y w) : Way adj x y w := by
  induction ht with
  | one => exact .one _
  | cons jx jt hx ht h0 hp _ ih => exact .cons (h.parent hx ht h0 hp).2.2.2.1 ih
theorem Tree.distEq (h : BOut adj a came q par dist i) {x y : Nat} {w : List Nat} (ht : Tree came q adj x y w) : dist y + 1 = dist x + w.length := by
  induction ht with
  | one => rfl
  | cons jx jt hx ht h0 hp _ ih => have := (h.parent hx ht h0 hp).2.2.2.2; simp only [List.length_cons]; omega
theorem Tree.last {x y : Nat} {w : List Nat} (ht : Tree came q adj x y w) : y ∈ q := by
  induction ht with
  | one _ hx => exact hx
  | cons _ _ _ _ _ _ _ ih => exact ih
theorem Tree.le (h : BOut adj a came q par dist i) {x y : Nat} {w : List Nat} (ht : Tree came q adj x y w) : ∀ {j k : Nat}, q[j]? = some x → q[k]? = some y → j ≤ k := by
  induction ht with
  | one => intro j k hj hk; exact Nat.le_of_eq (get_inj h.nodup hj hk)
  | cons jx jt hx ht h0 hp _ ih =>
    intro j k hj hk
    have h1 := (h.parent hx ht h0 hp).2.2.1
    have h2 := ih ht hk
    have := get_inj h.nodup hj hx
    omega
/-- No way to a vertex of the queue is shorter than how far it is. -/
theorem BBase.far (h : BOut adj a came q par dist i) {x y : Nat} {u : List Nat} (hu : Way adj x y u) (hx : x ∈ q) (hy : y ∈ q) : dist y + 1 ≤ dist x + u.length := by
  induction hu with
  | one => simp
  | @cons x t y w ht hu ih =>
    obtain ⟨jx, hjx⟩ := List.mem_iff_getElem?.1 hx
    have hl := hu.pos
    simp only [List.length_cons]
    by_cases hi : jx < i
    · obtain ⟨jt, h1, h2⟩ := h.closed jx x hi hjx t ht
      have := ih (List.mem_of_getElem? h1) hy
      have hd : dist t ≤ dist x + 1 := by
        by_cases h0 : 0 < jt
        · obtain ⟨_, _, p, p1, _, _, p2⟩ := h.parLt jt t h0 h1
          have := h.distMono _ _ _ _ (h2 h0) p1 hjx
          omega
        · have : jt = 0 := by omega
          subst this; rw [h.hd] at h1; cases h1; have := h.dist0; omega
      omega
    · obtain ⟨jy, hjy⟩ := List.mem_iff_getElem?.1 hy
      by_cases h0 : 0 < jy
      · obtain ⟨p0, _, p, p1, _, _, p2⟩ := h.parLt jy y h0 hjy
        have := h.distMono _ _ _ _ (show par jy ≤ jx by omega) p1 hjx
        omega
      · have : jy = 0 := by omega
        subst this; rw [h.hd] at hjy; cases hjy; have := h.dist0; omega
/-- From an earlier place a way is longer. -/
theorem BBase.longer (h : BOut adj a came q par dist i) {x y b : Nat} {u w : List Nat} (hu : Way adj x b u) (ht : Tree came q adj y b w) {jx jy : Nat} (hjx : q[jx]? = some x) (hjy : q[jy]? = some y) (hlt : jx < jy) : w.length < u.length := by
  induction hu generalizing y w jx jy with
  | one => have := ht.le h hjy hjx; omega
  | @cons x x' b u' hx' hu ih =>
    cases ht with
    | one => have := hu.pos; simp only [List.length_cons, List.length_nil]; omega
    | cons jy2 jt hy2 hjt h0 hp ht =>
      obtain ⟨e1, e2, e3, _, _⟩ := h.parent hy2 hjt h0 hp
      have e4 := get_inj h.nodup hjy hy2
      obtain ⟨jx', k1, k2⟩ := h.closed jx x (by omega) hjx x' hx'
      have : jx' < jt := by
        by_cases q1 : jx' < jt
        · exact q1
        · exfalso
          by_cases q2 : jx' = jt
          · rw [q2] at k2; have := k2 h0; omega
          · have := (h.mono jt jx' _ _ h0 (by omega) hjt k1).1
            have := k2 (by omega); omega
      have := ih ht k1 hjt this
      simp only [List.length_cons]; omega
/-- Of all ways of its length the tree's is the first. -/
theorem BBase.lex (h : BOut adj a came q par dist i) {x b : Nat} {u w : List Nat} (hu : Way adj x b u) (ht : Tree came q adj x b w) (hl : u.length = w.length) : lexLe w u := by
  induction hu generalizing w with
  | one =>
    cases ht with
    | one => exact lexLe_refl _
    | cons _ _ _ _ _ _ ht => cases ht <;> simp at hl
  | @cons x x' b u' hx' hu ih =>
    cases ht with
    | one => have := hu.pos; simp only [List.length_cons, List.length_nil] at hl; omega
    | @cons _ t _ w' jx jt hjx hjt h0 hp ht =>
      obtain ⟨e1, e2, e3, _, _⟩ := h.parent hjx hjt h0 hp
      have hl' : u'.length = w'.length := by simpa using hl
      by_cases e : x' = t
      · subst e; exact .inr ⟨rfl, ih ht hl'⟩
      · refine .inr ⟨rfl, ?_⟩
        obtain ⟨jx', k1, k2⟩ := h.closed jx x e2 hjx x' hx'
        have hne : jx' ≠ jt := fun q1 => by subst q1; rw [k1] at hjt; injection hjt with q2; exact e q2
        have hge : jt < jx' := by
          by_cases q1 : jx' < jt
          · have := h.longer hu ht k1 hjt q1; omega
          · omega
        have hm := h.mono jt jx' t x' h0 hge hjt k1
        have := k2 (by omega)
        have hlt := hm.2 (by omega)
        obtain ⟨_, rfl⟩ := hu.ne
        obtain ⟨_, rfl⟩ := (ht.way h).ne
        exact .inl hlt
theorem BBase.first (h : BOut adj a came q par dist i) {b : Nat} {w : List Nat} (ht : Tree came q adj a b w) : IsFirst adj a b w :=
  ⟨ht.way h, fun u hu => by
    have h1 := h.far hu (List.mem_of_getElem? h.hd) ht.last
    have h2 := ht.distEq h
    omega, fun u hu hl => h.lex hu ht hl⟩
/-- What isn't in the queue at the end can't be reached. -/
theorem BBase.none (h : BOut adj a came q par dist i) (hi : q.length ≤ i) {b : Nat} (hb : came b < 0) : ¬ Goes adj a b := fun hg => by
  have := Goes.closed (P := fun x => x ∈ q) (fun x hx t ht => by
    obtain ⟨j, hj⟩ := List.mem_iff_getElem?.1 hx
    obtain ⟨k, hk, _⟩ := h.closed j x (by have := get_of hj; omega) hj t ht
    exact List.mem_of_getElem? hk) hg (List.mem_of_getElem? h.hd)
  have := (h.cameIff b).2 this
  omega
end Go.Proofs.YtilpckngghffoaaGreatDoor

namespace Go.Proofs.YtilpckngghffoaaGreatDoor
open Go.RowKit

/-- v is a slice of slices that reads the lists G. -/
def ListsAt (w : World) (v : Value) (G : List (List Int)) : Prop :=
  ∃ vs : List Value, ValsAt w v vs ∧ vs.length = G.length ∧ ∀ i, i < G.length → IntsAt w (vAt vs i) (G.getD i [])
theorem ListsAt.below {w w' : World} {v : Value} {G : List (List Int)} (h : ListsAt w v G) (hb : Below w.heap.size w w') : ListsAt w' v G := by
  obtain ⟨vs, h1, h2, h3⟩ := h
  exact ⟨vs, h1.below hb, h2, fun i hi => (h3 i hi).below hb⟩
theorem ListsAt.drewN {w : World} {v : Value} {G : List (List Int)} (h : ListsAt w v G) (n : Nat) : ListsAt (w.drewN n) v G := h
theorem ListsAt.len {w : World} {v : Value} {G : List (List Int)} (h : ListsAt w v G) (ty : TypeId) (w' : World) :
    (Builtin.len_ #[67] ty #[v]).run Tryz.prog w' = .ok (.int .i64 G.length) w' := by
  obtain ⟨vs, h1, h2, h3⟩ := h
  rw [h1.len oneLists, h2]
theorem ListsAt.shape {w : World} {v : Value} {G : List (List Int)} (h : ListsAt w v G) : ∃ a c, v = .slice a G.length c := by
  obtain ⟨vs, ⟨a, c, e, _⟩, h2, _⟩ := h
  exact ⟨a, c, by rw [e, h2]⟩
theorem ListsAt.row {w : World} {v : Value} {G : List (List Int)} (h : ListsAt w v G) (x : Nat) (hx : x < G.length) :
    ∃ mv, (∀ w', (Instr.indexAt 67 v (.int .i64 x)).run Tryz.prog w' = .ok (.pointer (some (valAt v x))) w') ∧ w.cell? (valAt v x) = some mv ∧ IntsAt w mv (G.getD x []) := by
  obtain ⟨vs, h1, h2, h3⟩ := h
  exact ⟨vAt vs x, fun w' => h1.idx oneLists x (by omega) w', h1.cellV x (by omega), h3 x hx⟩
/-- Where an arrow leads. -/
def adjOf (G : List (List Int)) (v : Nat) : List Nat := (G.getD v []).map Int.toNat
/-- All arrows lead to vertices. -/
def GraphOk (G : List (List Int)) : Prop := ∀ v, v < G.length → ∀ t ∈ G.getD v [], 0 ≤ t ∧ t < G.length
theorem GraphOk.lt {G : List (List Int)} (h : GraphOk G) : ∀ v, v < G.length → ∀ t ∈ adjOf G v, t < G.length := by
  intro v hv t ht
  obtain ⟨i, hi, rfl⟩ := List.mem_map.1 ht
  have := h v hv i hi
  omega
theorem GraphOk.get {G : List (List Int)} (h : GraphOk G) {v : Nat} (hv : v < G.length) {i : Nat} (hi : i < (G.getD v []).length) : (G.getD v []).getD i 0 = ((adjOf G v).getD i 0 : Int) := by
  have hm : (G.getD v [])[i] ∈ G.getD v [] := List.getElem_mem hi
  have := h v hv _ hm
  simp only [adjOf, List.getD_eq_getElem?_getD (l := List.map _ _), List.getElem?_map, List.getElem?_eq_getElem hi, Option.map_some, Option.getD_some]
  rw [List.getD_eq_getElem?_getD, List.getElem?_eq_getElem hi, Option.getD_some]
  omega
end Go.Proofs.YtilpckngghffoaaGreatDoor

namespace Go.Proofs.YtilpckngghffoaaGreatDoor
open Go.RowKit
set_option maxRecDepth 100000

/-- The lists of a function. -/
def rowsOf (n : Nat) (F : Nat → List Int) : List (List Int) := (List.range n).map F
theorem rowsOf_len (n : Nat) (F : Nat → List Int) : (rowsOf n F).length = n := by simp [rowsOf]
theorem rowsOf_get (n : Nat) (F : Nat → List Int) (u : Nat) (hu : u < n) : (rowsOf n F).getD u [] = F u := by simp [rowsOf, List.getD, hu]
theorem vAt_set_same {l : List Value} {k : Nat} {g : Value} (h : k < l.length) : vAt (l.set k g) k = g := by simp [vAt, List.getD, h]
theorem vAt_set_ne {l : List Value} {k t : Nat} {g : Value} (h : t ≠ k) : vAt (l.set k g) t = vAt l t := by
  simp [vAt, List.getD, Ne.symm h]
/-- What the names name: the outer row, the lists. -/
structure WN (f : Names) (ov : Value) (vals : List Value) (n : Nat) (F : Nat → List Int) : Prop where
  outer : f (1, 0) = some (rowV 22 ov vals)
  len : vals.length = n
  rows : ∀ u, u < n → f (2, u) = some (rowI (vAt vals u) (F u))
section
variable {B : Nat} {w : World} {f : Names} {ov : Value} {vals : List Value} {n : Nat} {F : Nat → List Int}
theorem WN.lists (h : WN f ov vals n F) (hr : Rows B w f) : ListsAt w ov (rowsOf n F) :=
  ⟨vals, (hr.ownV h.outer).at, by rw [h.len, rowsOf_len], fun i hi => by
    rw [rowsOf_len] at hi
    rw [rowsOf_get n F i hi]
    exact (hr.ownI (h.rows i hi)).at⟩
/-- out[u] = a list: the list's row is there; now the outer row's cell. -/
theorem WN.put (h : WN f ov vals n F) {w1 : World} {u : Nat} (hu : u < n) {v' : Value} {xs : List Int} (hr1 : Rows B w1 (upd f (2, u) (some (rowI v' xs)))) :
    w1.cell? (valAt ov u) = some (vAt vals u) ∧ w1.frozen? (valAt ov u) = false ∧ B ≤ (valAt ov u).block ∧
    ∃ f', Rows B (w1.setCell (valAt ov u) v') f' ∧ WN f' ov (vals.set u v') n (updN F u xs) ∧ ∀ i, i ≠ (1, 0) → i ≠ (2, u) → f' i = f i := by
  have ho : upd f (2, u) (some (rowI v' xs)) (1, 0) = some (rowV 22 ov vals) := by rw [upd_ne _ _ (by simp)]; exact h.outer
  have hl : u < vals.length := by rw [h.len]; exact hu
  have hO := hr1.ownV ho
  refine ⟨hO.at.cellV u hl, hO.frz u hl, (hO.blkB u hl).2, _, hr1.setV ho u hl v', ⟨upd_same _ _ _, by simpa using h.len, fun t ht => ?_⟩, fun i h1 h2 => by rw [upd_ne _ _ h1, upd_ne _ _ h2]⟩
  rw [upd_ne _ _ (by simp)]
  by_cases e : t = u
  · subst e
    rw [upd_same, vAt_set_same hl, updN_same]
  · rw [upd_ne _ _ (by simpa using e), vAt_set_ne e, updN_other _ _ _ e]
    exact h.rows t ht
/-- A list that a call has made. -/
theorem WN.new (_h : WN f ov vals n F) (hr : Rows B w f) {w1 : World} (u : Nat) {v' : Value} {xs : List Int} (hb : Below w.heap.size w w1) (hB : B ≤ w.heap.size) (ho : OwnI w.heap.size w1 v' xs) : Rows B w1 (upd f (2, u) (some (rowI v' xs))) :=
  hr.add hb (ho.mono hB) (fun k hk => (ho.lt k hk).1)
/-- append(out[u], x). -/
theorem WN.app (h : WN f ov vals n F) (hr : Rows B w f) {w1 : World} {u : Nat} (hu : u < n) {v' : Value} (x : Int) (ho : OwnI B w1 v' (F u ++ [x]))
    (hal : (roomOf v' = roomOf (vAt vals u) ∧ w.grownBy w1 (vAt vals u).ownBlock) ∨ (∃ k, v'.ownBlock = some k ∧ w.heap.size ≤ k ∧ w.grownBy w1 none)) : Rows B w1 (upd f (2, u) (some (rowI v' (F u ++ [x])))) := by
  have hO := hr.ownI (h.rows u hu)
  refine hr.grown (r' := rowI v' (F u ++ [x])) (h.rows u hu) (grown_via (hal.imp (·.2) (fun ⟨_, _, _, q⟩ => q))) ho ?_
  rcases hal with ⟨q, _⟩ | ⟨k, h1, h2, _⟩
  · obtain ⟨a1, n1, c1, e1⟩ := hO.at.shape
    obtain ⟨a2, n2, c2, e2⟩ := ho.at.shape
    exact .inl (ownBlock_of_room e1 e2 q)
  · exact .inr ⟨k, h1, h2⟩
/-- out[u][i] = x. -/
theorem WN.elem (h : WN f ov vals n F) (hr : Rows B w f) (u : Nat) (hu : u < n) (i : Nat) (hi : i < (F u).length) (x : Int) :
    ∃ f', Rows B (w.setCell (valAt (vAt vals u) i) (.int .i64 x)) f' ∧ WN f' ov vals n (updN F u ((F u).set i x)) := by
  refine ⟨_, hr.setI (h.rows u hu) i hi x, ⟨by rw [upd_ne _ _ (by simp)]; exact h.outer, h.len, fun t ht => ?_⟩⟩
  by_cases e : t = u
  · subst e; rw [upd_same, updN_same]
  · rw [upd_ne _ _ (by simpa using e), updN_other _ _ _ e]; exact h.rows t ht
end
/-- make([]T, n) as an equation. -/
theorem run_makeW {T E : TypeId} {z : Value} {b : Nat} (oc : OneCell T E z b) (C : Int) (n : Nat) (w : World) (hC : C = n) (hn : n ≤ 4398046511104) :
    ∃ v w', (Instr.makeSlice T (.int .i64 C) (.int .i64 C)).run Tryz.prog w = .ok v w' ∧ OwnV E w.heap.size w' v (List.replicate n z) ∧ Below w.heap.size w w' := by
  subst hC
  obtain ⟨i, hi, hz0, hz1, hz2⟩ := info_parts oc.hi
  have hb := oc.hb
  obtain ⟨w', hrun, r1, r2⟩ := run_make_full (P := Tryz.prog) w w.heap.size T E i z 1 oc.ht hi hz0 hz1 .i64 .i64 n (by
    rw [hz2]
    calc b * n ≤ 32 * 4398046511104 := Nat.mul_le_mul hb (by omega)
      _ ≤ _ := by decide) (by unfold maxLen; omega) (Nat.le_refl _)
  refine ⟨_, w', hrun, ?_, (Below.refl _ _).grown r2 (Nat.le_refl _) (by intro k hk; cases hk)⟩
  rw [oc.hz, toList_madeCells_one] at r1
  simpa [OwnV] using r1
/-- Lists none of which is made yet. -/
def nils (n : Nat) : Names := fun i => if i.1 = 2 ∧ i.2 < n then some (rowI (.slice none 0 0) []) else none
theorem rows_nils (B : Nat) (w : World) (n : Nat) : Rows B w (nils n) := by
  refine ⟨fun i r hi => ?_, fun i j r s hi _ _ => ?_⟩
  · unfold nils at hi
    split at hi
    · injection hi with hi; subst hi; exact OwnI.nil B w
    · cases hi
  · left
    unfold nils at hi
    split at hi
    · injection hi with hi; subst hi; rfl
    · cases hi
/-- make([][]int, n). -/
theorem WN.made {B : Nat} {w w1 : World} {ov : Value} (n : Nat) (hb : Below w.heap.size w w1) (hB : B ≤ w.heap.size) (ho : OwnV 22 w.heap.size w1 ov (List.replicate n (.slice none 0 0))) :
    ∃ f, Rows B w1 f ∧ WN f ov (List.replicate n (.slice none 0 0)) n (fun _ => []) := by
  refine ⟨_, (rows_nils B w n).add (i := (1, 0)) (r' := rowV 22 ov (List.replicate n (.slice none 0 0))) hb (ho.mono hB) (fun k hk => (ho.lt k hk).1), ⟨upd_same _ _ _, by simp, fun u hu => ?_⟩⟩
  rw [upd_ne _ _ (by simp)]
  show nils n (2, u) = _
  unfold nils
  rw [if_pos ⟨rfl, hu⟩]
  simp [vAt, List.getD, hu]
end Go.Proofs.YtilpckngghffoaaGreatDoor
