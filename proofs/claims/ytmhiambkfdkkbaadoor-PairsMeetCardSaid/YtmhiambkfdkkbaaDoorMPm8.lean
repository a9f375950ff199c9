/-
  What Path and Loop answer, as plain lists.
  What Path, Loop and Live answer is told by the graph.
  Walk: the law edenlaw13.PairsTurn.
  Walks: forms.Widen at what is no rule, edenlaw13.working.
  Walk: rule.Step at all operands.
  Plain mathematics: the nodes along a word, symbol by symbol.
  Walk: overlap.Path.
  Walk: pairs.look.
  Walk: forms.made at a function that has captured one variable.
  Walks: forms.Mirror and the function that it hands to forms.made.
  Walks: slices.Index, forms.Rename and the function that it hands to forms.made.
  Walk: pairs.Way.
  Plain mathematics: the way of two words, read back.
  Walk: edenlaw13.PairsKeeps where it passes over: long rules and words, faults.
  Lists of their own in any order: what Apart asks, also behind an append to the list that holds them.
  append of one list of one-cell values to another.
  Apart over rows that are held under names.
  Walk: edenlaw13.PairsKeeps returns true.
-/
import Derived.Test.YtmhiambkfdkkbaaDoorMPm7
namespace Go.Proofs.YtmhiambkfdkkbaaDoor
open Go.RowKit
set_option maxRecDepth 100000

/-- What Path answers, as one list: the first of the shortest ways, or none. -/
def WayList (adj : Nat → List Nat) (a b : Nat) (u : List Nat) : Prop := (u ≠ [] ∧ IsFirst adj a b u) ∨ (u = [] ∧ ¬ Goes adj a b)
theorem FirstPost.list {w w' : World} {adj : Nat → List Nat} {a b : Nat} {x : Value} (h : FirstPost w adj a b x w') : ∃ u, WayList adj a b u ∧ OwnI w.heap.size w' x (castI u) := by
  rcases h with ⟨u, h1, h2⟩ | ⟨h1, rfl⟩
  · exact ⟨u, .inl ⟨by intro e; subst e; exact absurd h1.way.pos (by simp), h1⟩, h2⟩
  · exact ⟨[], .inr ⟨rfl, h1⟩, OwnI.nil _ _⟩
theorem WayList.goes {adj : Nat → List Nat} {a b : Nat} {u : List Nat} (h : WayList adj a b u) : u ≠ [] ↔ Goes adj a b := by
  rcases h with ⟨h1, h2⟩ | ⟨h1, h2⟩
  · exact ⟨fun _ => h2.way.goes, fun _ => h1⟩
  · exact ⟨fun q => absurd h1 q, fun q => absurd q h2⟩
theorem WayList.chain {G : List (List Int)} (hok : GraphOk G) {a b : Nat} {u : List Nat} (h : WayList (adjOf G) a b u) (ha : a < G.length) : ChainOk G u := by
  rcases h with ⟨_, h2⟩ | ⟨h1, _⟩
  · exact way_chain hok h2.way ha
  · subst h1; exact ChainOk.nil G
theorem WayList.len {G : List (List Int)} (hok : GraphOk G) {a b : Nat} {u : List Nat} (h : WayList (adjOf G) a b u) (ha : a < G.length) : u.length ≤ G.length := by
  have hc := h.chain hok ha
  rcases h with ⟨_, q⟩ | ⟨q, _⟩
  · exact nodup_len G.length u q.nodup (fun x hx => by
      obtain ⟨i, hi⟩ := List.mem_iff_getElem?.1 hx
      exact (hc i x hi).1)
  · subst q; simp
/-- The ends. -/
theorem way_ends {adj : Nat → List Nat} {x y : Nat} {w : List Nat} (h : Way adj x y w) : w[0]? = some x ∧ w[w.length - 1]? = some y := by
  induction h with
  | one x => exact ⟨rfl, rfl⟩
  | @cons x t y w ht h ih =>
    refine ⟨rfl, ?_⟩
    have := h.pos
    rw [List.length_cons, Nat.add_sub_cancel, ← ih.2]
    obtain ⟨n, hn⟩ : ∃ n, w.length = n + 1 := ⟨w.length - 1, by omega⟩
    rw [hn, Nat.add_sub_cancel]; rfl
/-- A way in the graph with the end doubled, its last vertex left away. -/
theorem wide_way {G : List (List Int)} (hok : GraphOk G) {v : Nat} {x e : Nat} {u : List Nat} (h : Way (adjOf (wideG G v)) x e u) (he : e = G.length) (hx : x < G.length) : ∃ y, y < G.length ∧ v ∈ adjOf G y ∧ Way (adjOf G) x y u.dropLast := by
  induction h with
  | one x => omega
  | @cons x t y w ht h ih =>
    rcases (wide_adj hok v hx t).1 ht with ⟨_, h1, h2⟩ | ⟨h1, h2⟩
    · obtain ⟨z, z1, z2, z3⟩ := ih he h2
      have := h.pos
      refine ⟨z, z1, z2, ?_⟩
      rw [List.dropLast_cons_of_ne_nil (by intro q; subst q; simp at this)]
      exact .cons h1 z3
    · subst h1
      refine ⟨x, hx, h2, ?_⟩
      cases h with
      | one => exact .one x
      | cons ht' _ => rw [wide_end] at ht'; cases ht'
/-- What Loop answers, as one list: a way from a to a vertex with an arrow back to a; or none. -/
def LoopList (G : List (List Int)) (a : Nat) (l : List Nat) : Prop := l = [] ∨ ∃ y, y < G.length ∧ a ∈ adjOf G y ∧ Way (adjOf G) a y l
theorem LoopWay.list {w w' : World} {G : List (List Int)} (hok : GraphOk G) {a : Nat} (ha : a < G.length) {x : Value} (h : LoopWay w G a x w') : ∃ l, LoopList G a l ∧ OwnI w.heap.size w' x (castI l) := by
  rcases h with ⟨u, h1, h2⟩ | ⟨_, rfl⟩
  · exact ⟨u.dropLast, .inr (wide_way hok h1.way rfl ha), h2⟩
  · exact ⟨[], .inl rfl, OwnI.nil _ _⟩
theorem LoopList.chain {G : List (List Int)} (hok : GraphOk G) {a : Nat} {l : List Nat} (h : LoopList G a l) (ha : a < G.length) : ChainOk G l := by
  rcases h with h | ⟨y, _, _, h⟩
  · subst h; exact ChainOk.nil G
  · exact way_chain hok h ha
end Go.Proofs.YtmhiambkfdkkbaaDoor

namespace Go.Proofs.YtmhiambkfdkkbaaDoor
open Go.RowKit
set_option maxRecDepth 100000

theorem WayList.unique {adj : Nat → List Nat} {a b : Nat} {u v : List Nat} (h : WayList adj a b u) (k : WayList adj a b v) : u = v := by
  rcases h with ⟨h1, h2⟩ | ⟨h1, h2⟩
  · rcases k with ⟨_, k2⟩ | ⟨_, k2⟩
    · exact h2.unique k2
    · exact absurd h2.way.goes k2
  · rcases k with ⟨_, k2⟩ | ⟨k1, _⟩
    · exact absurd k2.way.goes h2
    · rw [h1, k1]
theorem LiveList.len {n : Nat} {adj : Nat → List Nat} {L : List Nat} (h : LiveList n adj L) : L.length ≤ n :=
  nodup_len n L (h.sorted.imp (fun q => Nat.ne_of_lt q)) (fun x hx => ((h.mem x).1 hx).1)
theorem LoopWay.own {w w' : World} {G : List (List Int)} (hok : GraphOk G) {a : Nat} (ha : a < G.length) {x : Value} (h : LoopWay w G a x w') :
    ∃ l : List Nat, l.length ≤ G.length + 1 ∧ OwnI w.heap.size w' x (castI l) := by
  rcases h with ⟨u, h1, h2⟩ | ⟨h1, rfl⟩
  · refine ⟨u.dropLast, ?_, h2⟩
    have hc := way_chain (wideG_ok hok a) h1.way (by rw [wideG_len]; omega)
    have := nodup_len (G.length + 1) u h1.nodup (fun x hx => by
      obtain ⟨i, hi⟩ := List.mem_iff_getElem?.1 hx
      have := (hc i x hi).1
      rwa [wideG_len] at this)
    simp; omega
  · exact ⟨[], by simp, OwnI.nil _ _⟩

end Go.Proofs.YtmhiambkfdkkbaaDoor

namespace Go.Proofs.YtmhiambkfdkkbaaDoor
open Go.RowKit
set_option maxRecDepth 100000

theorem live_diags {N : Nat} {adj : Nat → List Nat} {L : List Nat} (h : LiveList (N * N) adj L) (hd : ∀ u, u < N → IsLive (N * N) adj (u * N + u)) : (L.filter fun p => decide (Diag N p)).length = N := by
  have : (L.filter fun p => decide (Diag N p)) = diags N := by
    refine sorted_eq (h.sorted.filter _) (diags_sorted N) fun v => ?_
    rw [List.mem_filter, h.mem, mem_diags]
    constructor
    · rintro ⟨⟨h1, _⟩, h3⟩
      have h3 : Diag N v := by simpa using h3
      exact ⟨v / N, div_lt_of h1, h3.eq⟩
    · rintro ⟨u, hu, rfl⟩
      exact ⟨⟨pair_lt hu hu, hd u hu⟩, by simpa using diag_mk hu⟩
  rw [this, diags_len]
theorem filter_take_succ (q : Nat → Bool) (L : List Nat) (i : Nat) (h : i < L.length) : (L.take (i + 1)).filter q = (L.take i).filter q ++ if q L[i] then [L[i]] else [] := by
  rw [List.take_add_one, List.getElem?_eq_getElem h, List.filter_append]
  simp [List.filter_cons]
theorem sq_exit {k N : Nat} (h : k ≤ N) (hn : ¬ k * k < N * N) : k = N := by
  apply Classical.byContradiction
  intro e
  exact hn (Nat.mul_lt_mul_of_lt_of_lt (by omega) (by omega))

end Go.Proofs.YtmhiambkfdkkbaaDoor

namespace Go.Proofs.YtmhiambkfdkkbaaDoor
open Go.RowKit
set_option maxRecDepth 100000

theorem fwiden_bad (r : Nat → Addr) (k R Ri : Int) (va : Option Addr) (vn vc : Nat) (T : List Int) (t : Int × List (ByteArray × Int)) (w : World) (hg : Glob r w) (h : IntsAt w (.slice va vn vc) T) (hc : checkP k R T = some t) :
    Calls Tryd.prog 41 #[.agg #[.int .i64 k, .int .i64 R, .slice va vn vc], .int .i64 Ri] w (Ret2 (fun x y _ => x = zR ∧ ∃ T' a, y = .iface T' (.pointer (some a))) w) := by
  have b0 := Below.step (belowAlloc w (.cells #[.int .i64 k, .int .i64 R, .slice va vn vc] 24)) (belowAlloc _ (.cells #[.int .i64 0, .int .i64 0, .slice none 0 0] 24))
  have q2 : Box3 ((w.alloc (.cells #[.int .i64 k, .int .i64 R, .slice va vn vc] 24)).alloc (.cells #[.int .i64 0, .int .i64 0, .slice none 0 0] 24)) (w.heap.size + 1) (.int .i64 0) (.int .i64 0) (.slice none 0 0) := by simp [Box3, go_sem]
  replace hg := Lib.hid (hg.below b0)
  replace h := Lib.hid (h.below b0)
  replace hc := Lib.hid hc
  replace q2 := Lib.hid q2
  go_enter Tryd.func41, Tryd.ntmps41
  go_wp2_with fail
  refine (forms_check r _ k R va vn vc T _ hg.out h.out).mono ?_
  rintro e w1 ⟨x, rfl, b1, he⟩
  rw [hc.out] at he
  obtain ⟨T2, a2, rfl⟩ : ∃ T a, x = .iface T (.pointer (some a)) := by
    first
    | exact he.some_shape
    | (unfold under at he; exact ErrIs.some_shape he)
  obtain ⟨⟨y0, y1, y2⟩, f0, f1, f2⟩ := q2.out.below b1
  clear he
  go_wp2
  rw [setCell_self3 y0 y1 y2]
  exact bodyPost_ret (v := .tuple #[zR, .iface T2 (.pointer (some a2))]) (by simp [results, Tryd.results41, go_sem, y0, y1, y2]) rfl ⟨_, _, rfl, Below.step b0 b1, rfl, T2, a2, rfl⟩

set_option maxHeartbeats 1000000 in
theorem working13_any (r : Nat → Addr) (k R : Int) (va : Option Addr) (vn vc : Nat) (T : List Int) (w : World) (hg : Glob r w) (h : IntsAt w (.slice va vn vc) T) :
    Calls Tryd.prog 15 #[.agg #[.int .i64 k, .int .i64 R, .slice va vn vc]] w (Ret1 (fun x w' => ∃ R2 a n c T2, x = .agg #[.int .i64 k, .int .i64 R2, .slice a n c] ∧ IntsAt w' (.slice a n c) T2 ∧ (checkP k R T = none → R2 = (wkR R.toNat : Nat) ∧ T2 = wkT k.toNat R.toNat T)) w) := by
  have b0 := Below.step (belowAlloc w (.cells #[.int .i64 k, .int .i64 R, .slice va vn vc] 24)) (belowAlloc _ (.cells #[.int .i64 0, .int .i64 0, .slice none 0 0] 24))
  have q2 : Box3 ((w.alloc (.cells #[.int .i64 k, .int .i64 R, .slice va vn vc] 24)).alloc (.cells #[.int .i64 0, .int .i64 0, .slice none 0 0] 24)) (w.heap.size + 1) (.int .i64 0) (.int .i64 0) (.slice none 0 0) := by simp [Box3, go_sem]
  have q1 : Box3 ((w.alloc (.cells #[.int .i64 k, .int .i64 R, .slice va vn vc] 24)).alloc (.cells #[.int .i64 0, .int .i64 0, .slice none 0 0] 24)) w.heap.size (.int .i64 k) (.int .i64 R) (.slice va vn vc) := by simp [Box3, go_sem]
  have h0 := Lib.hid h
  replace hg := Lib.hid (hg.below b0)
  replace h := Lib.hid (h.below b0)
  replace q1 := Lib.hid q1
  replace q2 := Lib.hid q2
  by_cases hR : R = 0
  · cases hc : checkP k R T with
    | some t =>
      have hRq : (R == 0) = true := by simp [hR]
      obtain ⟨⟨z0, z1, z2⟩, -, -, -⟩ := q1.out
      replace hc := Lib.hid hc
      replace hR := Lib.hid hR
      go_enter Tryd.func15, Tryd.ntmps15
      go_wp2_with fail
      refine (fwiden_bad r k R 1 va vn vc T t _ hg.out h.out hc.out).mono ?_
      rintro e w1 ⟨x, y, rfl, b1, rfl, T', a', rfl⟩
      clear z0 z1 z2
      have ba := belowAlloc w1 (.cells #[.int .i64 0, .int .i64 0, .slice none 0 0] 24)
      have b12 := Below.step b1 ba
      obtain ⟨⟨z0, z1, z2⟩, -, -, -⟩ := q1.out.below b12
      obtain ⟨⟨y0, y1, y2⟩, f0, f1, f2⟩ := q2.out.below b12
      have b02 := Below.step b0 b12
      have hTW := h0.out.below (below_set3 b02 (Nat.le_succ _) (.int .i64 k) (.int .i64 R) (.slice va vn vc))
      replace hTW := Lib.hid hTW
      go_wp2
      refine bodyPost_ret (v := .agg #[.int .i64 k, .int .i64 R, .slice va vn vc]) (by simp [results, Tryd.results15, go_sem, y0, y1, y2]) rfl ⟨_, rfl, below_set3 b02 (Nat.le_succ _) _ _ _, R, va, vn, vc, T, rfl, hTW.out, fun e => by cases e⟩
    | none =>
      obtain ⟨K, Q, rfl, rfl, hr⟩ := checkP_none hc
      obtain rfl : Q = 0 := by omega
      obtain ⟨⟨z0, z1, z2⟩, -, -, -⟩ := q1.out
      have hRq : (((0 : Nat) : Int) == 0) = true := by simp
      replace hr := Lib.hid hr
      clear hc hR
      go_enter Tryd.func15, Tryd.ntmps15
      go_wp2_with fail
      refine (fwiden_ok r K 0 1 va vn vc T _ hg.out h.out hr.out (by decide) 1 (by decide)).mono ?_
      rintro e w1 ⟨x, y, rfl, b1, rfl, a, n, c, rfl, ho⟩
      clear z0 z1 z2
      have ba := belowAlloc w1 (.cells #[.int .i64 K, .int .i64 1, .slice a n c] 24)
      have qw : Box3 (w1.alloc (.cells #[.int .i64 K, .int .i64 1, .slice a n c] 24)) w1.heap.size (.int .i64 K) (.int .i64 1) (.slice a n c) := by simp [Box3, go_sem]
      have b12 := Below.step b1 ba
      obtain ⟨⟨y0, y1, y2⟩, f0, f1, f2⟩ := q2.out.below b12
      obtain ⟨⟨z0, z1, z2⟩, -, -, -⟩ := qw
      have b02 := Below.step b0 b12
      have ho2 := ho.below ba
      have s1 := b1.size
      simp only [World.size_alloc] at s1
      have hTW := (((ho2.setBelowBase (a := ⟨w.heap.size + 1, 0, none⟩) (by simp) (.int .i64 K)).setBelowBase (a := ⟨w.heap.size + 1, 1, none⟩) (by simp) (.int .i64 1)).setBelowBase (a := ⟨w.heap.size + 1, 2, none⟩) (by simp) (.slice a n c)).at
      replace hTW := Lib.hid hTW
      replace ho := Lib.hid ho
      replace ho2 := Lib.hid ho2
      go_wp2
      refine bodyPost_ret (v := .agg #[.int .i64 K, .int .i64 1, .slice a n c]) (by simp [results, Tryd.results15, go_sem, y0, y1, y2]) rfl ⟨_, rfl, below_set3 b02 (Nat.le_succ _) _ _ _, _, a, n, c, _, rfl, hTW.out, fun _ => ⟨rfl, rfl⟩⟩
  · have hRq : (R == 0) = false := by rw [beq_eq_false_iff_ne]; exact hR
    obtain ⟨⟨z0, z1, z2⟩, -, -, -⟩ := q1.out
    have bb := Below.step (belowAlloc w (.cells #[.int .i64 k, .int .i64 R, .slice va vn vc] 24)) (belowAlloc _ (.cells #[.int .i64 k, .int .i64 R, .slice va vn vc] 24))
    have hTW := h0.out.below bb
    replace hTW := Lib.hid hTW
    have hR2 := Lib.hid hR
    go_enter Tryd.func15, Tryd.ntmps15
    go_wp2
    refine bodyPost_ret (v := .agg #[.int .i64 k, .int .i64 R, .slice va vn vc]) (by simp [results, Tryd.results15, go_sem]) rfl ⟨_, rfl, bb, R, va, vn, vc, T, rfl, hTW.out, fun e => ?_⟩
    obtain ⟨K, Q, rfl, rfl, hr⟩ := checkP_none e
    have hQ : ¬ Q = 0 := by have := hR2.out; omega
    simp only [Int.toNat_natCast]
    unfold wkR wkT
    rw [if_neg hQ, if_neg hQ]
    exact ⟨rfl, rfl⟩
end Go.Proofs.YtmhiambkfdkkbaaDoor

namespace Go.Proofs.YtmhiambkfdkkbaaDoor
open Go.RowKit
set_option maxRecDepth 100000

/-- rule.Step's error. -/
def stepE (k R : Int) (T ys : List Int) : PErr :=
  match checkP k R T with
  | some t => some t
  | none => if 4096 < ys.length then fresh sRule 0 4 else if idxOf (odd1 k) ys = -1 then none else fresh sRule (idxOf (odd1 k) ys) 2
theorem stepE_none {k R : Int} {T ys : List Int} (h : stepE k R T ys = none) : ∃ K Q : Nat, k = K ∧ R = Q ∧ RuleOk K Q T ∧ Syms K ys ∧ ys.length ≤ 4096 := by
  unfold stepE at h
  cases hc : checkP k R T with
  | some t => rw [hc] at h; cases h
  | none =>
    rw [hc] at h
    obtain ⟨K, Q, rfl, rfl, hr⟩ := checkP_none hc
    simp only [] at h
    split at h
    · simp [fresh] at h
    · rename_i hl
      refine ⟨K, Q, rfl, rfl, hr, ?_, by omega⟩
      rcases syms_or K ys with hs | ⟨i, hi, _⟩
      · exact hs
      · rw [if_neg (by omega)] at h; simp [fresh] at h
theorem stepE_ok {K R : Nat} {T ys : List Int} (h : RuleOk K R T) (hy : Syms K ys) (hl : ys.length ≤ 4096) : stepE K R T ys = none := by
  unfold stepE; rw [h.check]; simp only []; rw [if_neg (by omega), if_pos hy.odd]

set_option maxHeartbeats 1000000 in
theorem step_any (r : Nat → Addr) (k R : Int) (va : Option Addr) (vn vc : Nat) (T : List Int) (u : Value) (ys : List Int) (w : World) (hg : Glob r w) (h : IntsAt w (.slice va vn vc) T) (hu : IntsAt w u ys) :
    Calls Tryd.prog 16 #[.agg #[.int .i64 k, .int .i64 R, .slice va vn vc], u] w (Ret2 (fun x y w' => ErrIs r w' (stepE k R T ys) y ∧ (stepE k R T ys = none → OwnI w.heap.size w' x (imgP k.toNat R.toNat T ys)) ∧ (stepE k R T ys ≠ none → x = .slice none 0 0)) w) := by
  cases hst : stepE k R T ys with
  | none =>
    obtain ⟨K, Q, rfl, rfl, hr, hy, hl⟩ := stepE_none hst
    refine (step_ok K Q va vn vc T u ys w h hr hu hy hl).mono ?_
    rintro e w' ⟨x, y, rfl, hb, ho, rfl⟩
    exact ⟨x, _, rfl, hb, rfl, fun _ => by simpa using ho, fun h => absurd rfl h⟩
  | some t =>
    have b0 := belowAlloc w (.cells #[.int .i64 k, .int .i64 R, .slice va vn vc] 24)
    have q : Box3 (w.alloc (.cells #[.int .i64 k, .int .i64 R, .slice va vn vc] 24)) w.heap.size (.int .i64 k) (.int .i64 R) (.slice va vn vc) := by simp [Box3, go_sem]
    have l1 := hu.len
    obtain ⟨ua, un, uc, rfl⟩ := hu.shape
    replace hg := Lib.hid (hg.below b0)
    replace h := Lib.hid (h.below b0)
    replace hu := Lib.hid (hu.below b0)
    obtain ⟨e0, hst', he0⟩ : ∃ e0, (some t = match e0 with | some t => some t | none => if 4096 < ys.length then fresh sRule 0 4 else if idxOf (odd1 k) ys = -1 then none else fresh sRule (idxOf (odd1 k) ys) 2) ∧ checkP k R T = e0 := ⟨_, hst.symm, rfl⟩
    replace he0 := Lib.hid he0
    replace hst := Lib.hid hst
    go_enter Tryd.func16, Tryd.ntmps16
    go_wp2_with fail
    refine (check_any r k R _ T _ hg.out h.out).mono ?_
    rintro e w1 ⟨x, rfl, b1, he⟩
    rw [he0.out] at he
    cases e0 with
    | some t' =>
      simp only [] at hst'
      replace hst' := Lib.hid hst'
      obtain ⟨T1, a1, rfl⟩ := ErrIs.some_shape he
      replace he := Lib.hid he
      go_wp2
      go_ret2
      exact ⟨_, _, rfl, Below.step b0 b1, by rw [hst'.out]; exact he.out, fun h => by (first | cases h | (rw [hst'.out] at h; cases h)), fun _ => rfl⟩
    | none =>
      obtain rfl := he.none_eq
      simp only [] at hst'
      clear he
      obtain ⟨⟨z0, z1, z2⟩, -, -, -⟩ := q.below b1
      by_cases hl : 4096 < ys.length
      · rw [if_pos hl] at hst'
        replace hst' := Lib.hid hst'
        go_wp2_with fail
        refine (rule_wrong r _ _ _ (hg.out.below b1) (by decide) (by decide)).mono ?_
        rintro e w2 ⟨x, rfl, b2, he⟩
        replace he := Lib.hid he
        go_wp2
        go_ret2
        exact ⟨_, _, rfl, Below.step b0 (Below.step b1 b2), by rw [hst'.out]; exact he.out, (fun h => (by cases h)), fun _ => rfl⟩
      · rw [if_neg hl] at hst'
        rcases idxOf_cases (odd1 k) ys with ⟨hi, _⟩ | ⟨i, hi, hi', _⟩
        · rw [if_pos hi] at hst'; cases hst'
        · rw [if_neg (by omega), hi] at hst'
          replace hst' := Lib.hid hst'
          replace hi := Lib.hid hi
          go_wp2_with fail
          refine (rule_odd k _ ys _ (hu.out.below b1)).mono ?_
          rintro e w2 ⟨x, rfl, b2, rfl⟩
          rw [hi.out]
          clear z0 z1 z2
          go_wp2_with fail
          refine (rule_wrong r _ _ _ (hg.out.below (Below.step b1 b2)) (by decide) (by decide)).mono ?_
          rintro e w3 ⟨x, rfl, b3, he⟩
          replace he := Lib.hid he
          go_wp2
          go_ret2
          exact ⟨_, _, rfl, Below.step b0 (Below.step b1 (Below.step b2 b3)), by rw [hst'.out]; exact he.out, (fun h => (by cases h)), fun _ => rfl⟩
end Go.Proofs.YtmhiambkfdkkbaaDoor

namespace Go.Proofs.YtmhiambkfdkkbaaDoor

/-- The nodes told behind i symbols. -/
def pathN (K m : Nat) (x : List Int) (i : Nat) : List Nat := (List.range (i + 1 - m)).map (nodeAt K m x)
theorem pathN_zero {K m : Nat} {x : List Int} (hm : 1 ≤ m) : pathN K m x 0 = [] := by unfold pathN; rw [show 0 + 1 - m = 0 by omega]; rfl
theorem pathN_len (K m : Nat) (x : List Int) (i : Nat) : (pathN K m x i).length = i + 1 - m := by simp [pathN]
theorem take_next {x : List Int} {j : Nat} (h : j < x.length) : x.take (j + 1) = x.take j ++ [x.getD j 0] := by
  rw [List.take_add_one]; simp [List.getD, h]
theorem pathN_next {K m : Nat} {x : List Int} {j : Nat} (hx : Syms K x) (h : j < x.length) (hm : m ≤ j + 1) : pathN K m x (j + 1) = pathN K m x j ++ [numW K (x.take (j + 1)) % pw K m] := by
  unfold pathN
  rw [show j + 1 + 1 - m = (j + 1 - m) + 1 by omega, List.range_succ, List.map_append, List.map_cons, List.map_nil]
  congr 2
  have e : x.take (j + 1) = x.take (j + 1 - m) ++ (x.drop (j + 1 - m)).take m := by
    conv => lhs; rw [show j + 1 = (j + 1 - m) + m by omega]
    rw [List.take_add]
  have hl : ((x.drop (j + 1 - m)).take m).length = m := by simp; omega
  have hs : Syms K ((x.drop (j + 1 - m)).take m) := syms_take (syms_drop hx _) _
  have := numW_mod (K := K) (u := x.take (j + 1 - m)) hs
  rw [hl, ← e] at this
  exact this.symm
theorem pathN_skip {K m : Nat} {x : List Int} {j : Nat} (hm : ¬ m ≤ j + 1) : pathN K m x (j + 1) = pathN K m x j := by
  unfold pathN
  rw [show j + 1 + 1 - m = 0 by omega, show j + 1 - m = 0 by omega]
theorem node_step {K : Nat} {x : List Int} {j : Nat} (N : Nat) (h : j < x.length) : numW K (x.take (j + 1)) % N = (numW K (x.take j) % N * K + (x.getD j 0).toNat) % N := by
  rw [take_next h, numW_step]
theorem at_step {K N a s : Nat} (hN : 0 < N) (hs : s < K) : (a * K + s) % (N * K) = a % N * K + s := by
  have e : a * K + s = (a % N * K + s) + N * K * (a / N) := by
    have h1 := Nat.mod_add_div a N
    have h2 : a * K = (a % N + N * (a / N)) * K := by rw [h1]
    rw [Nat.add_mul] at h2
    have h3 : N * K * (a / N) = N * (a / N) * K := by rw [Nat.mul_assoc, Nat.mul_comm K, ← Nat.mul_assoc]
    omega
  rw [e, Nat.add_mul_mod_self_left]
  apply Nat.mod_eq_of_lt
  have h1 : a % N + 1 ≤ N := Nat.mod_lt _ hN
  have h2 : (a % N + 1) * K ≤ N * K := Nat.mul_le_mul_right _ h1
  rw [Nat.add_mul, Nat.one_mul] at h2
  omega
theorem img_next {K R : Nat} {T x : List Int} {j : Nat} (hK : 1 ≤ K) (hT : T.length = pw K (2 * R + 1)) (hx : Syms K x) (h : j < x.length) (hR : 2 * R ≤ j) :
    imgP K R T (x.take (j + 1)) = imgP K R T (x.take j) ++ [T.getD (numW K (x.take j) % pw K (2 * R) * K + (x.getD j 0).toNat) 0] := by
  have hs : Syms K (x.take j ++ [x.getD j 0]) := by rw [← take_next h]; exact syms_take hx _
  rw [take_next h, imgP_snoc hT hs, if_pos (by rw [List.length_take]; omega), numW_snoc, hT, pw_succ, at_step (pw_pos (K := K) (2 * R) hK) (syms_at hx h).2.2]
theorem img_skip {K R : Nat} {T x : List Int} {j : Nat} (hT : T.length = pw K (2 * R + 1)) (hx : Syms K x) (h : j < x.length) (hR : ¬ 2 * R ≤ j) :
    imgP K R T (x.take (j + 1)) = imgP K R T (x.take j) := by
  have hs : Syms K (x.take j ++ [x.getD j 0]) := by rw [← take_next h]; exact syms_take hx _
  rw [take_next h, imgP_snoc hT hs, if_neg (by rw [List.length_take]; omega)]
end Go.Proofs.YtmhiambkfdkkbaaDoor

namespace Go.Proofs.YtmhiambkfdkkbaaDoor
open Go.RowKit
set_option maxRecDepth 100000

theorem overP_none {K R : Nat} {T x : List Int} (hr : RuleOk K R T) (hl : T.length ≤ 256) (hx : Syms K x) (hxl : x.length ≤ 4096) : overP K R T x 4096 = none := by
  unfold overP
  rw [smallP_small hr hl]
  simp only
  rw [if_neg (by omega), if_pos hx.odd]

set_option maxHeartbeats 2000000 in
theorem over_path (r : Nat → Addr) (K R : Nat) (va : Option Addr) (vn vc : Nat) (T : List Int) (u : Value) (x : List Int) (w : World) (hg : Glob r w) (h : IntsAt w (.slice va vn vc) T) (hu : IntsAt w u x) (hr : RuleOk K R T) (hl : T.length ≤ 256) (hR : 1 ≤ R) (hx : Syms K x) (hxl : x.length ≤ 4096) :
    Calls Tryd.prog 51 #[.agg #[.int .i64 K, .int .i64 R, .slice va vn vc], u] w (Ret3 (fun a b e w' => e = .nilIface ∧ OwnI w.heap.size w' a (castI (pathN K (2 * R) x x.length)) ∧ OwnI w.heap.size w' b (imgP K R T x) ∧ (a.ownBlock = none ∨ a.ownBlock ≠ b.ownBlock)) w) := by
  have b0 := belowAlloc w (.cells #[.int .i64 K, .int .i64 R, .slice va vn vc] 24)
  have q : Box3 (w.alloc (.cells #[.int .i64 K, .int .i64 R, .slice va vn vc] 24)) w.heap.size (.int .i64 K) (.int .i64 R) (.slice va vn vc) := by simp [Box3, go_sem]
  have hk1 := hr.k1
  have hk4 := hr.k4
  have hR3 := hr.r3
  have hN81 := nodes_le hr hR hl
  have hN1 := pw_pos (K := K) (2 * R) hk1
  obtain ⟨hdiv, hlenT⟩ := hr.half
  have hTl := hr.len
  have hc := overP_none hr hl hx hxl
  have lx := hu.len
  obtain ⟨ua, un, uc, rfl⟩ := hu.shape
  have hp0 := pathN_zero (K := K) (x := x) (m := 2 * R) (by omega)
  have hpn := fun (j : Nat) (hj : j < x.length) (hm : 2 * R ≤ j + 1) => pathN_next (K := K) (m := 2 * R) (j := j) hx hj hm
  have hps := fun (j : Nat) (hm : ¬ 2 * R ≤ j + 1) => pathN_skip (K := K) (m := 2 * R) (x := x) (j := j) hm
  have hin := fun (j : Nat) (hj : j < x.length) (hm : 2 * R ≤ j) => img_next (K := K) (R := R) (T := T) (j := j) hk1 hTl hx hj hm
  have his := fun (j : Nat) (hj : j < x.length) (hm : ¬ 2 * R ≤ j) => img_skip (K := K) (R := R) (T := T) (j := j) hTl hx hj hm
  have hns := fun (j : Nat) (hj : j < x.length) => node_step (K := K) (x := x) (j := j) (pw K (2 * R)) hj
  have hsy := fun (j : Nat) (hj : j < x.length) => syms_at hx hj
  have hpl := fun (j : Nat) => pathN_len K (2 * R) x j
  obtain ⟨m, hm⟩ : ∃ m, 2 * R = m := ⟨_, rfl⟩
  have hm2 : 2 * (R : Int) = (m : Int) := by omega
  rw [hm] at hN81 hN1 hdiv hlenT hp0 hpn hps hin his hns hpl ⊢
  obtain ⟨N, hN⟩ : ∃ N, pw K m = N := ⟨_, rfl⟩
  rw [hN] at hN81 hN1 hdiv hlenT hpn hin hns
  replace hg := Lib.hid (hg.below b0)
  replace h := Lib.hid (h.below b0)
  replace hu := Lib.hid (hu.below b0)
  replace hr := Lib.hid hr
  replace hc := Lib.hid hc
  replace hdiv := Lib.hid hdiv
  replace hlenT := Lib.hid hlenT
  replace hp0 := Lib.hid hp0
  replace hpn := Lib.hid hpn
  replace hps := Lib.hid hps
  replace hin := Lib.hid hin
  replace his := Lib.hid his
  replace hns := Lib.hid hns
  replace hsy := Lib.hid hsy
  replace hpl := Lib.hid hpl
  replace hN := Lib.hid hN
  replace hTl := Lib.hid hTl
  replace hx := Lib.hid hx
  have hmm := Lib.hid hm
  clear hm
  go_enter Tryd.func51, Tryd.ntmps51
  go_wp2_with fail
  refine (over_check r K R va vn vc T (.slice ua un uc) x 4096 _ hg.out h.out hu.out).mono ?_
  rintro e w1 ⟨y, rfl, b1, he⟩
  rw [hc.out] at he
  obtain rfl := he.none_eq
  clear he
  obtain ⟨⟨z0, z1, z2⟩, -, -, -⟩ := q.below b1
  have b01 := Below.step b0 b1
  have hs1 := b01.size
  have r1 := (Rows.void w1.heap.size w1).add (i := (1, 0)) (r' := rowI (.slice none 0 0) []) (Below.refl _ _) (OwnI.nil _ _) (fun k hk => by cases hk)
  have r2 := r1.add (i := (2, 0)) (r' := rowI (.slice none 0 0) []) (Below.refl _ _) (OwnI.nil _ _) (fun k hk => by cases hk)
  obtain ⟨f, hf⟩ : ∃ f, f = upd (upd (fun _ => none) (1, 0) (some (rowI (.slice none 0 0) []))) (2, 0) (some (rowI (.slice none 0 0) [])) := ⟨_, rfl⟩
  have hfa : f (1, 0) = some (rowI (.slice none 0 0) (castI (pathN K m x 0))) := by rw [hf, upd_ne _ _ (by simp), upd_same, hp0.out]; rfl
  have hfb : f (2, 0) = some (rowI (.slice none 0 0) (imgP K R T (x.take 0))) := by
    rw [hf, upd_same]
    simp [imgP]
  rw [← hf] at r2
  clear hf r1
  have hR1 : ¬ (R : Int) = 0 := by omega
  have hR2 : ((m : Int) == 0) = false := by rw [beq_eq_false_iff_ne]; omega
  have hR4 : ¬ (m : Int) = 0 := by omega
  have hwm : IntKind.i64.wrap (m : Int) = m := wrapK (by omega) (by omega)
  replace r2 := Lib.hid r2
  replace hfa := Lib.hid hfa
  replace hfb := Lib.hid hfb
  go_wp2_with fail
  go_loopw [8, 9, 10, 29] (fun ta la nv jv wr => ∃ (j nd : Nat) (f : Names) (ta' la' : Value), j ≤ x.length ∧ jv = .int .i64 j ∧ ta' = ta ∧ la' = la ∧ numW K (x.take j) % N = nd ∧ nv = .int .i64 nd ∧ Rows w1.heap.size wr f ∧ Below w1.heap.size w1 wr ∧ f (1, 0) = some (rowI ta' (castI (pathN K m x j))) ∧ f (2, 0) = some (rowI la' (imgP K R T (x.take j)))) (fun _ _ _ jv _ => x.length - (intOf jv).toNat)
  case atStart => exact ⟨0, 0, f, _, _, by omega, rfl, rfl, rfl, by simp [numW], rfl, r2.out, Below.refl _ _, hfa.out, hfb.out⟩
  case round =>
    clear r2 hfa hfb
    obtain ⟨j, nd, f2, tv, lv, hj, rfl, rfl, rfl, hnd, rfl, hr2, bI, hfa, hfb⟩ := hrel
    obtain ⟨wo, rfl⟩ : ∃ wo : World, wo = wr := ⟨_, rfl⟩
    by_cases hjl : j < x.length
    · obtain ⟨h0, h1, h2⟩ := hsy.out j hjl
      obtain ⟨s, hs⟩ : ∃ s : Nat, x.getD j 0 = (s : Int) := ⟨(x.getD j 0).toNat, by omega⟩
      have hst : (x.getD j 0).toNat = s := by omega
      rw [hst] at h2
      have iX := fun w' => hu.out.idx j hjl w'
      have cX := hu.out.cellD j hjl
      rw [hs] at cX
      have b1I := Below.step b1 bI
      have cXo := (b1I.cell (World.block_lt_of_cell? _ _ cX)).trans cX
      have hndN : nd < N := by rw [← hnd]; exact Nat.mod_lt _ (by omega)
      obtain ⟨nk, hnk⟩ : ∃ z, nd * K = z := ⟨_, rfl⟩
      have hnk2 : (nd : Int) * (K : Int) = (nk : Int) := by rw [← hnk]; simp
      have hnkl : nk ≤ 324 := by rw [← hnk]; exact Nat.le_trans (Nat.mul_le_mul (show nd ≤ 81 by omega) hk4) (by decide)
      obtain ⟨at_, hat⟩ : ∃ z, nk + s = z := ⟨_, rfl⟩
      have hat2 : (nk : Int) + (s : Int) = (at_ : Int) := by omega
      have hatT : at_ < T.length := by
        rw [hlenT.out]
        have h3 : (nd + 1) * K ≤ N * K := Nat.mul_le_mul_right _ hndN
        rw [Nat.add_mul, Nat.one_mul] at h3
        omega
      have hwk : IntKind.i64.wrap (nk : Int) = nk := wrapK (by omega) (by omega)
      have hwa : IntKind.i64.wrap (at_ : Int) = at_ := wrapK (by omega) (by omega)
      have hnd2 := hns.out j hjl
      rw [hnd, hst, hnk, hat] at hnd2
      obtain ⟨d1, d2, d3, d4, d5, d6⟩ := dm at_ N (by omega)
      obtain ⟨nn, hnn⟩ : ∃ z, at_ % N = z := ⟨_, rfl⟩
      rw [hnn] at d2 d4 d6 hnd2
      have hTo := (h.out.below b1I)
      have hnodes := over_nodes K R va vn vc T wo hTo hk1 (by omega)
      rw [hdiv.out] at hnodes
      obtain ⟨⟨y0, y1, y2⟩, -, -, -⟩ := q.below b1I
      have hoa := hr2.ownI hfa
      have hob := hr2.ownI hfb
      have hjl2 := Lib.hid hjl
      have bn := belowAlloc wo (.cells #[.int .i64 K, .int .i64 R, .slice va vn vc] 24)
      have iT := fun w' => hTo.idx at_ hatT w'
      have cT := h.out.cellD at_ hatT
      generalize valAt (.slice ua un uc) j = xa at *
      generalize valAt (.slice va vn vc) at_ = taa at *
      obtain ⟨tz, htz⟩ : ∃ z, T.getD at_ 0 = z := ⟨_, rfl⟩
      rw [htz] at cT
      replace hnodes := Lib.hid hnodes
      replace hs := Lib.hid hs
      replace hst := Lib.hid hst
      replace hnk := Lib.hid hnk
      replace hat := Lib.hid hat
      replace hnn := Lib.hid hnn
      replace hnd := Lib.hid hnd
      replace hnd2 := Lib.hid hnd2
      replace htz := Lib.hid htz
      replace hoa := Lib.hid hoa
      replace hob := Lib.hid hob
      replace hr2 := Lib.hid hr2
      replace hfa := Lib.hid hfa
      replace hfb := Lib.hid hfb
      replace hTo := Lib.hid hTo
      replace cX := Lib.hid cX
      replace h2 := Lib.hid h2
      clear h0 h1
      go_wp2_with fail
      refine hnodes.out.mono ?_
      rintro e w4 ⟨rfl, hw4⟩
      have bo4 : Below wo.heap.size wo w4 := by rw [hw4]; exact bn
      have b14 := Below.step b1I bo4
      have bI4 := bI.trans (bo4.mono bI.size)
      clear hw4 hnodes y0 y1 y2 cXo
      obtain ⟨⟨y0, y1, y2⟩, -, -, -⟩ := q.below b14
      have hr4 := hr2.out.below bo4
      have hB4 := bI4.size
      have hpl2 := hpl.out j
      by_cases hmj : m ≤ j + 1
      · have hd1 : decide ((m : Int) ≤ (j : Int) + 1) = true := decide_eq_true (by omega)
        have hoa4 := hr4.ownI hfa.out
        have hpe := hpn.out j hjl2.out hmj
        rw [hnd2.out] at hpe
        have hmj2 := Lib.hid hmj
        replace hr4 := Lib.hid hr4
        replace hpe := Lib.hid hpe
        go_wp2_with (at_builtin; go_loud (refine wpl_append1 rfl _ _ rfl w1.heap.size tv _ (nn : Int) hoa4 rfl rfl (by rw [castI_len]; omega) hB4 ?_))
        intro tv' w5 ho5 b5 hg5 hal5
        have hr5 := hr4.out.push hfa.out (nn : Int) ho5 hg5 hal5
        have hca : castI (pathN K m x j) ++ [(nn : Int)] = castI (pathN K m x (j + 1)) := by rw [hpe.out]; simp [castI]
        rw [hca] at hr5 ho5
        obtain ⟨f5, hf5⟩ : ∃ f5, f5 = upd f2 (1, 0) (some (rowI tv' (castI (pathN K m x (j + 1))))) := ⟨_, rfl⟩
        rw [← hf5] at hr5
        have hfa5 : f5 (1, 0) = some (rowI tv' (castI (pathN K m x (j + 1)))) := by rw [hf5, upd_same]
        have hfb5 : f5 (2, 0) = some (rowI lv (imgP K R T (x.take j))) := by rw [hf5, upd_ne _ _ (by simp)]; exact hfb.out
        have b15 : Below w1.heap.size w1 w5 := bI4.trans b5
        have b16 := Below.step b1 b15
        clear y0 y1 y2 hf5 hca hg5 hal5 hoa4
        obtain ⟨⟨y0, y1, y2⟩, -, -, -⟩ := q.below b16
        have cT5 := (b16.cell (World.block_lt_of_cell? _ _ cT)).trans cT
        have hB5 := b15.size
        obtain ⟨t1, t2, t3, rfl⟩ := ho5.at.shape
        replace hfa5 := Lib.hid hfa5
        replace hfb5 := Lib.hid hfb5
        replace ho5 := Lib.hid ho5
        by_cases hmj3 : m ≤ j
        · have hd2 : decide ((m : Int) ≤ (j : Int)) = true := decide_eq_true (by omega)
          have hob5 := hr5.ownI hfb5.out
          have hie := hin.out j hjl2.out hmj3
          rw [hnd.out, hst.out, hnk.out, hat.out, htz.out] at hie
          replace hie := Lib.hid hie
          replace hr5 := Lib.hid hr5
          have hil : (imgP K R T (x.take j)).length ≤ 4096 := by rw [imgP_length, List.length_take]; omega
          go_wp2_with (at_builtin; go_loud (refine wpl_append1 rfl _ _ rfl w1.heap.size lv _ tz hob5 rfl rfl (by omega) hB5 ?_))
          intro lv' w7 ho7 b7 hg7 hal7
          have hr7 := hr5.out.push hfb5.out tz ho7 hg7 hal7
          rw [← hie.out] at hr7 ho7
          obtain ⟨f7, hf7⟩ : ∃ f7, f7 = upd f5 (2, 0) (some (rowI lv' (imgP K R T (x.take (j + 1))))) := ⟨_, rfl⟩
          rw [← hf7] at hr7
          have hfb7 : f7 (2, 0) = some (rowI lv' (imgP K R T (x.take (j + 1)))) := by rw [hf7, upd_same]
          have hfa7 : f7 (1, 0) = some (rowI (.slice t1 t2 t3) (castI (pathN K m x (j + 1)))) := by rw [hf7, upd_ne _ _ (by simp)]; exact hfa5.out
          have b17 : Below w1.heap.size w1 w7 := b15.trans b7
          obtain ⟨l1, l2, l3, rfl⟩ := ho7.at.shape
          replace hfa7 := Lib.hid hfa7
          replace hfb7 := Lib.hid hfb7
          replace hr7 := Lib.hid hr7
          replace ho7 := Lib.hid ho7
          clear hf7 hg7 hal7 hob5
          go_wp2
          go_roundw
          case measure => have := hjl2.out; simp [intOf]; omega
          case rel => exact ⟨j + 1, nn, f7, _, _, by have := hjl2.out; omega, by go_num, rfl, rfl, hnd2.out, rfl, hr7.out, b17, hfa7.out, hfb7.out⟩
        · have hd2 : decide ((m : Int) ≤ (j : Int)) = false := decide_eq_false (by omega)
          have hie := his.out j hjl2.out hmj3
          rw [← hie] at hfb5
          replace hr5 := Lib.hid hr5
          go_wp2
          go_roundw
          case measure => have := hjl2.out; simp [intOf]; omega
          case rel => exact ⟨j + 1, nn, f5, _, _, by have := hjl2.out; omega, by go_num, rfl, rfl, hnd2.out, rfl, hr5.out, b15, hfa5.out, hfb5.out⟩
      · have hd1 : decide ((m : Int) ≤ (j : Int) + 1) = false := decide_eq_false (by omega)
        have hd2 : decide ((m : Int) ≤ (j : Int)) = false := decide_eq_false (by omega)
        have hpe := hps.out j hmj
        have hie := his.out j hjl2.out (by omega)
        have hfa5 := hfa.out
        have hfb5 := hfb.out
        rw [← hpe] at hfa5
        rw [← hie] at hfb5
        replace hfa5 := Lib.hid hfa5
        replace hfb5 := Lib.hid hfb5
        replace hr4 := Lib.hid hr4
        go_wp2
        go_roundw
        case measure => have := hjl2.out; simp [intOf]; omega
        case rel => exact ⟨j + 1, nn, f2, _, _, by have := hjl2.out; omega, by go_num, rfl, rfl, hnd2.out, rfl, hr4.out, bI4, hfa5.out, hfb5.out⟩
    · obtain rfl : j = x.length := by omega
      rw [List.take_length] at hfb
      have hoa := hr2.ownI hfa
      have hob := hr2.ownI hfb
      have hd := hr2.2 (1, 0) (2, 0) _ _ hfa hfb (by simp)
      replace hoa := Lib.hid hoa
      replace hob := Lib.hid hob
      replace hd := Lib.hid hd
      obtain ⟨t1, t2, t3, rfl⟩ := hoa.out.at.shape
      obtain ⟨l1, l2, l3, rfl⟩ := hob.out.at.shape
      have bE := Lib.hid (b01.trans (bI.mono hs1))
      go_wp2
      go_ret3
      exact ⟨_, _, _, rfl, bE.out, rfl, hoa.out.mono hs1, hob.out.mono hs1, hd.out⟩
end Go.Proofs.YtmhiambkfdkkbaaDoor

namespace Go.Proofs.YtmhiambkfdkkbaaDoor
open Go.RowKit
set_option maxRecDepth 100000

theorem look1_any (x k : Int) (b : Nat) (w : World) (hb : w.cell? ⟨b, 0, none⟩ = some (.int .i64 k)) :
    Calls Tryd.prog 83 #[.int .i64 x, .pointer (some ⟨b, 0, none⟩)] w fun e w' => e = .returned (.bool (odd1 k x)) ∧ w = w' := by
  by_cases h : x < 0
  · have e : odd1 k x = true := by simp [odd1, h]
    rw [e]
    go_enter Tryd.func83, Tryd.ntmps83
    go_wp2
    go_ret
    exact ⟨rfl, rfl⟩
  · have e : odd1 k x = decide (k ≤ x) := by simp [odd1, h]
    rw [e]
    go_enter Tryd.func83, Tryd.ntmps83
    go_wp2
    go_ret
    exact ⟨ret_bool (by simp), rfl⟩
theorem eg_look1 (args : Array Value) (w : World) : (callFunc 83 args).run Tryd.prog w = .ok (.enter 83 args) w := by kernel_rfl

/-- pairs.look's answer. -/
def lookP (k : Int) (ws : List Int) (which from_ : Int) : PErr :=
  if 4096 < ws.length then fresh sPairs which 4 else if idxOf (odd1 k) ws = -1 then none else fresh sPairs (from_ + idxOf (odd1 k) ws) 2
theorem lookP_none {k : Int} {ws : List Int} {which from_ : Int} (h : lookP k ws which from_ = none) : ws.length ≤ 4096 ∧ Syms k ws := by
  unfold lookP at h
  by_cases hl : 4096 < ws.length
  · rw [if_pos hl] at h; cases h
  · rw [if_neg hl] at h
    refine ⟨by omega, ?_⟩
    rcases syms_or k ws with hs | ⟨i, hi, _⟩
    · exact hs
    · rw [if_neg (by omega)] at h; cases h
theorem lookP_ok {k : Int} {ws : List Int} (which from_ : Int) (hl : ws.length ≤ 4096) (h : Syms k ws) : lookP k ws which from_ = none := by
  unfold lookP
  rw [if_neg (by omega), if_pos h.odd]

set_option maxHeartbeats 1000000 in
theorem look_any (r : Nat → Addr) (k : Int) (u : Value) (ws : List Int) (which : Int) (from_ : Nat) (w : World) (hg : Glob r w) (hu : IntsAt w u ws) (hf : from_ ≤ 1000000) :
    Calls Tryd.prog 48 #[.int .i64 k, u, .int .i64 which, .int .i64 from_] w (Ret1 (fun x w' => ErrIs r w' (lookP k ws which from_) x) w) := by
  have b0 := belowAlloc w (.cells #[.int .i64 k] 3)
  have z0 : (w.alloc (.cells #[.int .i64 k] 3)).cell? ⟨w.heap.size, 0, none⟩ = some (.int .i64 k) := by simp [go_sem]
  have l1 := hu.len
  have lm := hu.len_le
  obtain ⟨a1, n1, c1, rfl⟩ := hu.shape
  replace hg := Lib.hid (hg.below b0)
  replace hu := Lib.hid (hu.below b0)
  obtain ⟨e0, he0⟩ : ∃ e0, lookP k ws which from_ = e0 := ⟨_, rfl⟩
  rw [he0]
  unfold lookP at he0
  by_cases hl : 4096 < ws.length
  · rw [if_pos hl] at he0
    replace he0 := Lib.hid he0
    have hd : decide ((4096 : Int) < (ws.length : Int)) = true := decide_eq_true (by omega)
    go_enter Tryd.func48, Tryd.ntmps48
    go_wp2_with fail
    refine (pairs_wrong r _ _ _ hg.out (by decide) (by decide)).mono ?_
    rintro e w2 ⟨x, rfl, b2, he⟩
    go_wp2
    go_ret
    exact ⟨_, rfl, Below.step b0 b2, by rw [← he0.out]; exact he⟩
  · rw [if_neg hl] at he0
    have hd : decide ((4096 : Int) < (ws.length : Int)) = false := decide_eq_false (by omega)
    have hf2 : (from_ : Int) ≤ 1000000 := by omega
    rcases idxOf_cases (odd1 k) ws with ⟨hi, _⟩ | ⟨i, hi, hi', _⟩
    · rw [if_pos hi] at he0
      replace hi := Lib.hid hi
      replace he0 := Lib.hid he0
      go_enter Tryd.func48, Tryd.ntmps48
      go_wp2_with fail
      refine (indexFunc_any _ _ 83 ws (odd1 k) _ hu.out eg_look1 (fun x _ => look1_any x k _ _ z0)).mono ?_
      rintro e w2 ⟨rfl, rfl⟩
      rw [hi.out]
      go_wp2
      go_ret
      exact ⟨_, rfl, b0, by rw [← he0.out]; rfl⟩
    · have hws : ws.length ≤ 4096 := by omega
      have hwr : IntKind.i64.wrap ((from_ : Int) + (i : Int)) = (from_ : Int) + (i : Int) := wrapK (by omega) (by omega)
      rw [if_neg (by omega), hi] at he0
      replace hi := Lib.hid hi
      replace he0 := Lib.hid he0
      go_enter Tryd.func48, Tryd.ntmps48
      go_wp2_with fail
      refine (indexFunc_any _ _ 83 ws (odd1 k) _ hu.out eg_look1 (fun x _ => look1_any x k _ _ z0)).mono ?_
      rintro e w2 ⟨rfl, rfl⟩
      rw [hi.out]
      go_wp2_with fail
      refine (pairs_wrong r _ _ _ hg.out (by decide) (by decide)).mono ?_
      rintro e w2 ⟨x, rfl, b2, he⟩
      go_wp2
      go_ret
      exact ⟨_, rfl, Below.step b0 b2, by rw [← he0.out]; exact he⟩
end Go.Proofs.YtmhiambkfdkkbaaDoor

namespace Go.Proofs.YtmhiambkfdkkbaaDoor
open Go.RowKit
set_option maxRecDepth 100000

set_option maxHeartbeats 800000 in
theorem made_one0 (K R F : Nat) (c1 : Value) (s : List Int → Int) (w : World) (hk1 : 1 ≤ K) (hk4 : K ≤ 4) (hR : R ≤ 3)
    (eg : ∀ args w, (callFunc F args).run Tryd.prog w = .ok (.enter F args) w)
    (hF : ∀ (v : Value) (ys : List Int) (w' : World), Below w.heap.size w w' → IntsAt w' v ys → Syms K ys → ys.length = 2 * R + 1 → Calls Tryd.prog F #[v, c1] w' (Ret1 (fun x _ => x = .int .i64 (s ys)) w')) :
    Calls Tryd.prog 60 #[.int .i64 K, .int .i64 R, .func (.func F) #[] #[c1]] w (Ret1 (fun x w' => ∃ a n c, x = .agg #[.int .i64 K, .int .i64 R, .slice a n c] ∧ OwnI w.heap.size w' (.slice a n c) (madeP K (2 * R + 1) s (pw K (2 * R + 1)))) w) := by
  have hpl := pw_le hk1 hk4 (i := 2 * R + 1) (by omega)
  replace hF := Lib.hid hF
  go_enter Tryd.func60, Tryd.ntmps60
  go_wp2_with fail
  refine (size_ok K R _ hk1 hk4 hR).mono ?_
  rintro e w' ⟨rfl, rfl⟩
  go_wp2_with fail
  have hb0 := belowAlloc w (.cells #[.int .i64 0, .int .i64 0, .slice none 0 0] 24)
  obtain ⟨tv, w1, hmk, ho1, hb1⟩ := run_makeI ((pw K (2 * R + 1) : Nat) : Int) (pw K (2 * R + 1)) (w.alloc (.cells #[.int .i64 0, .int .i64 0, .slice none 0 0] 24)) rfl (by omega)
  obtain ⟨ta, tn, tc, rfl⟩ := ho1.at.shape
  rw [hmk]
  simp only [Result.andThen]
  clear hmk
  generalize hN : 2 * R + 1 = N at *
  go_wp2_with fail
  obtain ⟨wv, w2, hmk2, ho2, hb2⟩ := run_makeI (2 * (R : Int) + 1) N (w1.alloc (.cells #[.int .i64 K, .int .i64 R, .slice ta tn tc] 24)) (by omega) (by omega)
  obtain ⟨wa, wn, wc, rfl⟩ := ho2.at.shape
  rw [hmk2]
  simp only [Result.andThen]
  clear hmk2
  obtain ⟨z0, z1, z2, -, -, -⟩ := cells3 hb2
  have lt := (ho1.at.len)
  rw [List.length_replicate] at lt
  have hN7 : N ≤ 7 := by omega
  replace hN := Lib.hid hN
  have ltb : ∀ k, (Value.slice ta tn tc).ownBlock = some k → k < w1.heap.size := fun k hk => (ho1.lt k hk).2
  have lwn := ho2.at.len
  rw [List.length_replicate] at lwn
  have ho1' := Lib.hid ((ho1.alloc (.cells #[.int .i64 K, .int .i64 R, .slice ta tn tc] 24)).below hb2)
  have zz := Lib.hid (And.intro z0 (And.intro z1 z2))
  have hbw := Lib.hid (hb1.trans ((Below.step (belowAlloc w1 (.cells #[.int .i64 K, .int .i64 R, .slice ta tn tc] 24)) hb2).mono hb1.size))
  replace ho2 := Lib.hid ho2
  replace ltb := Lib.hid ltb
  have hsz1 := hb1.size
  simp at hsz1
  have hM : pw K N = pw K N := rfl
  clear hM
  go_wp2
  go_loopw [32] (fun i wr => ∃ m : Nat, m ≤ pw K N ∧ i = .int .i64 m ∧ OwnI (w.heap.size + 1) wr (.slice ta tn tc) (madeP K N s m ++ List.replicate (pw K N - m) 0) ∧ (∃ p : List Int, p.length = N ∧ OwnI (w1.heap.size + 1) wr (.slice wa wn wc) p) ∧
      (wr.cell? ⟨w1.heap.size, 0, none⟩ = some (.int .i64 K) ∧ wr.cell? ⟨w1.heap.size, 1, none⟩ = some (.int .i64 R) ∧ wr.cell? ⟨w1.heap.size, 2, none⟩ = some (.slice ta tn tc)) ∧
      Below (w.heap.size + 1) (w.alloc (.cells #[.int .i64 0, .int .i64 0, .slice none 0 0] 24)) wr) (fun i _ => pw K N - (intOf i).toNat)
  case atStart => exact ⟨0, by omega, rfl, by simpa [madeP] using ho1'.out, ⟨List.replicate N 0, by simp, by simpa using ho2.out⟩, zz.out, by simpa using hbw.out⟩
  case round =>
    obtain ⟨m, hm, rfl, hT, ⟨p, hp, hP⟩, hz, hbO⟩ := hrel
    obtain ⟨wo, rfl⟩ : ∃ wo : World, wo = wr := ⟨_, rfl⟩
    replace hz := Lib.hid hz
    replace hT := Lib.hid hT
    by_cases hml : m < pw K N
    · have hsz2 : w1.heap.size < wo.heap.size := World.block_lt_of_cell? _ _ hz.out.1
      have hK0 : ((K : Int) == 0) = false := by rw [beq_eq_false_iff_ne]; omega
      have hK1 : ¬ (K : Int) = 0 := by omega
      have hK2 : (0 : Int) < K := by omega
      go_wp2
      go_loopw [12, 38] (fun x i wr => ∃ j : Nat, j ≤ N ∧ i = .int .i64 j ∧ x = .int .i64 (m / pw K j : Nat) ∧ OwnI (w1.heap.size + 1) wr (.slice wa wn wc) (p.take (N - j) ++ (digs K N m).drop (N - j)) ∧ Below (w1.heap.size + 1) wo wr) (fun _ i _ => N - (intOf i).toNat)
      case atStart => exact ⟨0, by omega, rfl, by simp [pw], by rw [Nat.sub_zero, List.drop_of_length_le (by rw [digs_length]; exact Nat.le_refl _), List.append_nil, List.take_of_length_le (by omega)]; exact hP, Below.refl _ _⟩
      case round =>
        obtain ⟨j, hj, rfl, rfl, hO, hbI⟩ := hrel
        obtain ⟨wi, rfl⟩ : ∃ wi : World, wi = wr := ⟨_, rfl⟩
        by_cases hjl : j < N
        · have hXl : (p.take (N - j) ++ (digs K N m).drop (N - j)).length = N := by simp [digs_length]; omega
          have i1 : ∀ w', (Instr.indexAt 22 (.slice wa wn wc) (.int .i64 ((N : Int) - 1 - (j : Int)))).run Tryd.prog w' = .ok (.pointer (some (valAt (.slice wa wn wc) (N - 1 - j)))) w' := by
            intro w'
            have := hO.at.idxI ((N : Int) - 1 - (j : Int)) (by omega) (by rw [hXl]; omega) w'
            rwa [show ((N : Int) - 1 - (j : Int)).toNat = N - 1 - j by omega] at this
          have c1 := hO.at.cellD (N - 1 - j) (by rw [hXl]; omega)
          have f1 := hO.frz (N - 1 - j) (by rw [hXl]; omega)
          have hS := hO.set (N - 1 - j) (by rw [hXl]; omega) ((m / pw K j % K : Nat) : Int)
          have hbS := hO.setBelow hbI (N - 1 - j) (by rw [hXl]; omega) (.int .i64 ((m / pw K j % K : Nat) : Int))
          rw [digs_fill K N m j hjl p hp] at hS
          replace hS := Lib.hid hS
          replace hbS := Lib.hid hbS
          have hqd : m / pw K j / K = m / pw K (j + 1) := by rw [Nat.div_div_eq_div_mul, ← pw_succ]
          replace hqd := Lib.hid hqd
          have hql : m / pw K j ≤ 16384 := Nat.le_trans (Nat.div_le_self _ _) (by omega)
          generalize (p.take (N - j) ++ (digs K N m).drop (N - j)).getD (N - 1 - j) 0 = y at c1
          clear hXl hO
          generalize m / pw K j = q at *
          rw [Int.natCast_emod] at hS hbS
          have hd0 : 0 ≤ (q : Int) / (K : Int) := Int.ediv_nonneg (by omega) (by omega)
          have hd1 : (q : Int) / (K : Int) ≤ 16384 := by
            have h1 : q / K ≤ q := Nat.div_le_self _ _
            have h2 : q / K ≤ 16384 := by omega
            exact_mod_cast h2
          have hdw : IntKind.i64.wrap ((q : Int) / (K : Int)) = (q : Int) / (K : Int) := wrapK (by omega) (by omega)
          go_wp2
          go_roundw
          case rel => exact ⟨j + 1, by omega, by go_num, by rw [← hqd.out]; simp, hS.out, hbS.out⟩
          case measure => simp [intOf]; omega
        · have hjN : j = N := by omega
          subst hjN
          rw [Nat.sub_self, List.take_zero, List.drop_zero, List.nil_append] at hO
          have hbW : Below w.heap.size w wi := ((belowAlloc w _).trans (hbO.mono (by omega))).trans (hbI.mono (by omega))
          have hz2 := hbI.cell (p := ⟨w1.heap.size, 2, none⟩) (by simp)
          have hTl : m < (madeP K j s m ++ List.replicate (pw K j - m) (0 : Int)).length := by simp [madeP_length]; omega
          have hTi := hT.out.belowB hbI (fun k hk => by have := ltb.out k hk; omega)
          have i2 := hTi.at.idx m hTl
          have c2 := hTi.at.cellD m hTl
          have f2 := hTi.frz m hTl
          have b2 := hTi.at.blk m hTl
          have z2i := hz2.trans hz.out.2.2
          have zbi : (⟨w1.heap.size, 2, none⟩ : Addr).block < wi.heap.size := World.block_lt_of_cell? _ _ z2i
          generalize (madeP K j s m ++ List.replicate (pw K j - m) (0 : Int)).getD m 0 = o at c2
          replace hTi := Lib.hid hTi
          replace hO := Lib.hid hO
          replace hbW := Lib.hid hbW
          replace hTl := Lib.hid hTl
          clear hz2
          have hvb : (valAt (.slice ta tn tc) m).block ≠ w1.heap.size := by
            have := ltb.out _ (hT.out.toV.blkB m (by simpa using hTl.out)).1
            omega
          have hdl : m + 1 ≤ pw K j := hml
          go_wp2
          go_region_held3 (fun w' => w'.cell? ⟨w1.heap.size, 2, none⟩ = some (.slice ta tn tc)) (go_keep)
            (first | (refine (hF.out _ (digs K j m) _ (by first | exact hbW.out.drew | exact hbW.out) (by first | exact hO.out.at.drew | exact hO.out.at) (digs_syms hk1 _ _) (by rw [digs_length])).mono ?_; rintro e w5 ⟨x5, rfl, hb5, rfl⟩; have y1 := (hb5.cell zbi).trans z2i; have y2 := (hb5.cell b2).trans c2; have y3 := (hb5.frozen b2).trans f2; have bb : Below wi.heap.size wi w5 := ((Below.refl _ _).drew).trans hb5))
          have hT5 := (hTi.out.drew.below hb5).set m hTl.out (s (digs K j m))
          rw [madeP_set K j s m _ hml] at hT5
          have hO5 := (hO.out.drew.below hb5).setOther (hTi.out.drew.below hb5) (by
            intro e
            have e1 := (hT.out.toV.blkB m (by simpa using hTl.out)).1
            have e2 := (hO.out.lt _ (e.trans e1)).1
            have e3 := ltb.out _ e1
            omega) m hTl.out (.int .i64 (s (digs K j m)))
          have hB5 := ((hbO.trans (hbI.mono (by omega))).trans (bb.mono (by omega))).setCell ((hTi.out.blkB m hTl.out)) (.int .i64 (s (digs K j m)))
          have x0 := (World.cell?_setCell_far w5 (valAt (.slice ta tn tc) m) ⟨w1.heap.size, 0, none⟩ (.int .i64 (s (digs K j m))) hvb).trans (((bb.cell (p := ⟨w1.heap.size, 0, none⟩) zbi)).trans ((hbI.cell (p := ⟨w1.heap.size, 0, none⟩) (by simp)).trans hz.out.1))
          have x1 := (World.cell?_setCell_far w5 (valAt (.slice ta tn tc) m) ⟨w1.heap.size, 1, none⟩ (.int .i64 (s (digs K j m))) hvb).trans (((bb.cell (p := ⟨w1.heap.size, 1, none⟩) zbi)).trans ((hbI.cell (p := ⟨w1.heap.size, 1, none⟩) (by simp)).trans hz.out.2.1))
          have x2 := (World.cell?_setCell_far w5 (valAt (.slice ta tn tc) m) ⟨w1.heap.size, 2, none⟩ (.int .i64 (s (digs K j m))) hvb).trans y1
          have xx := Lib.hid (And.intro x0 (And.intro x1 x2))
          clear x0 x1 x2
          replace hT5 := Lib.hid hT5
          replace hO5 := Lib.hid hO5
          replace hB5 := Lib.hid hB5
          go_wp2
          go_roundw
          case rel => exact ⟨m + 1, by omega, by go_num, hT5.out, ⟨digs K j m, digs_length .., hO5.out⟩, xx.out, hB5.out⟩
          case measure => simp [intOf]; omega
    · obtain rfl : m = pw K N := by omega
      rw [Nat.sub_self, List.replicate_zero, List.append_nil] at hT
      obtain ⟨z0, z1, z2⟩ := hz.out
      obtain ⟨y0, y1, y2, f0, f1, f2⟩ := cells3 (w := w) (show Below (w.alloc (.cells #[.int .i64 0, .int .i64 0, .slice none 0 0] 24)).heap.size _ wo by simpa using hbO)
      replace hbO := Lib.hid hbO
      go_wp2
      refine bodyPost_ret (v := .agg #[.int .i64 K, .int .i64 R, .slice ta tn tc]) (by simp [results, Tryd.results60, go_sem, y0, y1, y2]) rfl ⟨_, rfl, ?_, ta, tn, tc, rfl, ?_⟩
      · exact (((belowAlloc w _).trans (hbO.out.mono (by omega))).setCell (by simp) _).setCell (by simp) _ |>.setCell (by simp) _
      · rw [hN.out]; exact (((hT.out.setBelowBase (a := ⟨w.heap.size, 0, none⟩) (by simp) _).setBelowBase (a := ⟨w.heap.size, 1, none⟩) (by simp) _).setBelowBase (a := ⟨w.heap.size, 2, none⟩) (by simp) _).mono (Nat.le_succ _)

theorem made_one (K R F : Nat) (c1 : Value) (s : List Int → Int) (w : World) (hk1 : 1 ≤ K) (hk4 : K ≤ 4) (hR : R ≤ 3) (Ri : Int) (hRi : Ri = R)
    (eg : ∀ args w, (callFunc F args).run Tryd.prog w = .ok (.enter F args) w)
    (hF : ∀ (v : Value) (ys : List Int) (w' : World), Below w.heap.size w w' → IntsAt w' v ys → Syms K ys → ys.length = 2 * R + 1 → Calls Tryd.prog F #[v, c1] w' (Ret1 (fun x _ => x = .int .i64 (s ys)) w')) :
    Calls Tryd.prog 60 #[.int .i64 K, .int .i64 Ri, .func (.func F) #[] #[c1]] w (Ret1 (fun x w' => ∃ a n c, x = .agg #[.int .i64 K, .int .i64 R, .slice a n c] ∧ OwnI w.heap.size w' (.slice a n c) (madeP K (2 * R + 1) s (pw K (2 * R + 1)))) w) := by
  subst hRi
  exact made_one0 K R F c1 s w hk1 hk4 hR eg hF
end Go.Proofs.YtmhiambkfdkkbaaDoor

namespace Go.Proofs.YtmhiambkfdkkbaaDoor
open Go.RowKit
set_option maxRecDepth 100000

theorem fmirror1_any (K R : Nat) (va : Option Addr) (vn vc : Nat) (T : List Int) (p : Nat) (v : Value) (ys : List Int) (w : World)
    (h : IntsAt w (.slice va vn vc) T) (hr : RuleOk K R T) (hv : IntsAt w v ys) (hy : Syms K ys) (hyl : ys.length = 2 * R + 1)
    (x0 : w.cell? ⟨p, 0, none⟩ = some (.int .i64 K)) (x1 : w.cell? ⟨p, 1, none⟩ = some (.int .i64 R)) (x2 : w.cell? ⟨p, 2, none⟩ = some (.slice va vn vc)) :
    Calls Tryd.prog 61 #[v, .pointer (some ⟨p, 0, none⟩)] w (Ret1 (fun x _ => x = .int .i64 (T.getD (numW K ys.reverse) 0)) w) := by
  have hR := hr.r3
  have hle : ys.length ≤ 7 := by omega
  replace h := Lib.hid h
  replace hv := Lib.hid hv
  replace hy := Lib.hid hy
  replace hyl := Lib.hid hyl
  replace hr := Lib.hid hr
  have yy := Lib.hid (And.intro x0 (And.intro x1 x2))
  clear x0 x1 x2
  generalize hY : T.getD (numW K ys.reverse) 0 = Y
  replace hY := Lib.hid hY
  go_enter Tryd.func61, Tryd.ntmps61
  go_wp2_with fail
  refine (clone_any v ys _ hv.out (by omega)).mono ?_
  rintro e w1 ⟨x, rfl, b1, ho⟩
  have s1 := b1.size
  go_wp2_with fail
  refine (reverse_own _ x ys _ ho (by omega)).mono ?_
  rintro e w2 ⟨rfl, ho2, b2⟩
  have b12 := b1.trans b2
  obtain ⟨y0, y1, y2⟩ := keep3 b12 yy.out
  replace ho2 := Lib.hid ho2
  go_wp2_with fail
  refine (symbol_any K R va vn vc T x _ _ (h.out.below b12) hr.out ho2.out.at (fun z hz => hy.out z (List.mem_reverse.1 hz)) (by rw [List.length_reverse]; exact hyl.out)).mono ?_
  rintro e w3 ⟨x, rfl, b3, rfl⟩
  rw [hY.out]
  go_wp2
  go_ret
  exact ⟨_, rfl, Below.step b12 b3, rfl⟩

theorem eg_fmirror1 (args : Array Value) (w : World) : (callFunc 61 args).run Tryd.prog w = .ok (.enter 61 args) w := by kernel_rfl

theorem madeP_mir {K n : Nat} {T : List Int} (h : T.length = pw K n) : madeP K n (fun ys => T.getD (numW K ys.reverse) 0) (pw K n) = mirT K n T := by
  rw [madeP, mirT, h]

theorem fmirror_bad (r : Nat → Addr) (k R : Int) (va : Option Addr) (vn vc : Nat) (T : List Int) (t : Int × List (ByteArray × Int)) (w : World) (hg : Glob r w) (h : IntsAt w (.slice va vn vc) T) (hc : checkP k R T = some t) :
    Calls Tryd.prog 24 #[.agg #[.int .i64 k, .int .i64 R, .slice va vn vc]] w (Ret2 (fun x y w' => x = zR ∧ ErrIs r w' (under sForms 0 (some t)) y) w) := by
  have b0 := Below.step (belowAlloc w (.cells #[.int .i64 k, .int .i64 R, .slice va vn vc] 24)) (belowAlloc _ (.cells #[.int .i64 0, .int .i64 0, .slice none 0 0] 24))
  have q2 : Box3 ((w.alloc (.cells #[.int .i64 k, .int .i64 R, .slice va vn vc] 24)).alloc (.cells #[.int .i64 0, .int .i64 0, .slice none 0 0] 24)) (w.heap.size + 1) (.int .i64 0) (.int .i64 0) (.slice none 0 0) := by simp [Box3, go_sem]
  replace hg := Lib.hid (hg.below b0)
  replace h := Lib.hid (h.below b0)
  replace hc := Lib.hid hc
  go_enter Tryd.func24, Tryd.ntmps24
  go_wp2_with fail
  refine (forms_check r _ k R va vn vc T _ hg.out h.out).mono ?_
  rintro e w1 ⟨x, rfl, hb, he⟩
  rw [hc.out] at he
  obtain ⟨T1, a1, rfl⟩ := ErrIs.some_shape he
  replace he := Lib.hid he
  obtain ⟨⟨y0, y1, y2⟩, f0, f1, f2⟩ := q2.below hb
  go_wp2
  rw [setCell_self3 y0 y1 y2]
  exact bodyPost_ret (v := .tuple #[zR, .iface T1 (.pointer (some a1))]) (by simp [results, Tryd.results24, go_sem, y0, y1, y2]) rfl ⟨_, _, rfl, Below.step b0 hb, rfl, he.out⟩

set_option maxHeartbeats 800000 in
theorem fmirror_ok (r : Nat → Addr) (K R : Nat) (va : Option Addr) (vn vc : Nat) (T : List Int) (w : World) (hg : Glob r w) (h : IntsAt w (.slice va vn vc) T) (hr : RuleOk K R T) :
    Calls Tryd.prog 24 #[.agg #[.int .i64 K, .int .i64 R, .slice va vn vc]] w (Ret2 (fun x y w' => y = .nilIface ∧ ∃ a n c, x = .agg #[.int .i64 K, .int .i64 R, .slice a n c] ∧ OwnI w.heap.size w' (.slice a n c) (mirT K (2 * R + 1) T)) w) := by
  have b0 := Below.step (belowAlloc w (.cells #[.int .i64 K, .int .i64 R, .slice va vn vc] 24)) (belowAlloc _ (.cells #[.int .i64 0, .int .i64 0, .slice none 0 0] 24))
  have q2 : Box3 ((w.alloc (.cells #[.int .i64 K, .int .i64 R, .slice va vn vc] 24)).alloc (.cells #[.int .i64 0, .int .i64 0, .slice none 0 0] 24)) (w.heap.size + 1) (.int .i64 0) (.int .i64 0) (.slice none 0 0) := by simp [Box3, go_sem]
  have q1 : Box3 ((w.alloc (.cells #[.int .i64 K, .int .i64 R, .slice va vn vc] 24)).alloc (.cells #[.int .i64 0, .int .i64 0, .slice none 0 0] 24)) w.heap.size (.int .i64 K) (.int .i64 R) (.slice va vn vc) := by simp [Box3, go_sem]
  have hk1 := hr.k1
  have hk4 := hr.k4
  have hR3 := hr.r3
  have hck := Lib.hid hr.check
  replace hg := Lib.hid (hg.below b0)
  replace h := Lib.hid (h.below b0)
  replace hr := Lib.hid hr
  go_enter Tryd.func24, Tryd.ntmps24
  go_wp2_with fail
  refine (forms_check r _ K R va vn vc T _ hg.out h.out).mono ?_
  rintro e w1 ⟨x, rfl, hb, he⟩
  rw [hck.out] at he
  obtain rfl := ErrIs.none_eq he
  have q11 := q1.below hb
  have q11x := q11
  obtain ⟨⟨z0, z1, z2⟩, -, -, -⟩ := q11x
  have s1 := hb.size
  simp only [World.size_alloc] at s1
  go_wp2_with fail
  refine (made_one K R _ _ (fun ys => T.getD (numW K ys.reverse) 0) _ hk1 hk4 hR3 _ rfl eg_fmirror1 (fun v ys w' hB hv hy hyl => by
    have := q11.below hB
    exact fmirror1_any K R va vn vc T _ v ys w' ((h.out.below hb).below hB) hr.out hv hy hyl this.1.1 this.1.2.1 this.1.2.2)).mono ?_
  rintro e w2 ⟨x, rfl, b2, a, n, c, rfl, ho⟩
  rw [madeP_mir hr.out.len] at ho
  obtain ⟨⟨y0, y1, y2⟩, f0, f1, f2⟩ := q2.below (Below.step hb b2)
  replace ho := Lib.hid ho
  clear z0 z1 z2
  go_wp2
  refine bodyPost_ret (v := .tuple #[.agg #[.int .i64 K, .int .i64 R, .slice a n c], .nilIface]) (by simp [results, Tryd.results24, go_sem, y0, y1, y2]) rfl ⟨_, _, rfl, below_set3 (Below.step b0 (Below.step hb b2)) (Nat.le_succ _) _ _ _, rfl, a, n, c, rfl, ?_⟩
  exact (((ho.out.setBelowBase (a := ⟨w.heap.size + 1, 0, none⟩) (by simp; omega) _).setBelowBase (a := ⟨w.heap.size + 1, 1, none⟩) (by simp; omega) _).setBelowBase (a := ⟨w.heap.size + 1, 2, none⟩) (by simp; omega) _).mono (by omega)
end Go.Proofs.YtmhiambkfdkkbaaDoor

namespace Go.Proofs.YtmhiambkfdkkbaaDoor
open Go.RowKit
set_option maxRecDepth 100000

/-- The first place of x. -/
def invP (p : List Int) (x : Int) : Int := idxOf (fun y => x == y) p

theorem index_any (v : Value) (xs : List Int) (x : Int) (w : World) (h : IntsAt w v xs) :
    Calls Tryd.prog 69 #[v, .int .i64 x] w fun e w' => e = .returned (.int .i64 (invP xs x)) ∧ w = w' := by
  have hlen := h.len
  have hm := h.len_le
  replace h := Lib.hid h
  go_enter Tryd.func69, Tryd.ntmps69
  go_wp2
  go_loop [8] (fun i => ∃ j : Nat, j ≤ xs.length ∧ i = .int .i64 j ∧ ∀ t (ht : t < xs.length), t < j → (x == xs[t]) = false) (fun i => xs.length - (intOf i).toNat)
  case atStart => exact ⟨0, by omega, rfl, fun t ht h => by omega⟩
  case round =>
    obtain ⟨j, hj, rfl, hne⟩ := hrel
    by_cases hjl : j < xs.length
    · have i1 := h.out.idx j hjl
      have c1 := h.out.cell j hjl
      by_cases he : (x == xs[j]) = true
      · have hr : Hid (invP xs x = j) := Lib.hid (idxOf_at j hjl he (fun t ht htj => hne t ht htj))
        have he' : x = xs[j] := by simpa using he
        rw [← he'] at c1
        clear he he'
        replace hne := Lib.hid hne
        go_wp2
        go_ret
        exact ⟨ret_int hr.out.symm, rfl⟩
      · have hn : Hid (∀ t (ht : t < xs.length), t < j + 1 → (x == xs[t]) = false) := Lib.hid (fun t ht htj => by
          by_cases e : t = j
          · subst e; simpa using he
          · exact hne t ht (by omega))
        have he' : (x == xs[j]) = false := by simpa using he
        obtain ⟨y, hy⟩ : ∃ y, y = xs[j] := ⟨_, rfl⟩
        rw [← hy] at c1 he'
        clear he hne hy
        go_wp2
        go_round
        case rel => exact ⟨j + 1, by omega, by go_num, hn.out⟩
        case measure => simp [intOf]; omega
    · have hr : Hid (invP xs x = -1) := Lib.hid (idxOf_neg (fun y hy => by
        obtain ⟨t, ht, rfl⟩ := List.mem_iff_getElem.1 hy
        exact hne t ht (by omega)))
      replace hne := Lib.hid hne
      go_wp2
      go_ret
      exact ⟨ret_int hr.out.symm, rfl⟩

/-- The names' list is one: each symbol once. -/
def permOk (K : Nat) (p : List Int) : Bool := decide (p.length = K) && decide (srt p = (List.range K).map (fun i : Nat => (i : Int)))
theorem srt_perm (p : List Int) : (srt p).Perm p := List.mergeSort_perm ..
theorem permOk_mem {K : Nat} {p : List Int} (h : permOk K p = true) (x : Int) : x ∈ p ↔ 0 ≤ x ∧ x < K := by
  simp only [permOk, Bool.and_eq_true, decide_eq_true_eq] at h
  rw [← (srt_perm p).mem_iff, h.2, List.mem_map]
  constructor
  · rintro ⟨i, hi, rfl⟩; have := List.mem_range.1 hi; omega
  · intro hx; exact ⟨x.toNat, List.mem_range.2 (by omega), by omega⟩
theorem permOk_syms {K : Nat} {p : List Int} (h : permOk K p = true) : Syms K p := fun x hx => (permOk_mem h x).1 hx
theorem permOk_len {K : Nat} {p : List Int} (h : permOk K p = true) : p.length = K := by
  simp only [permOk, Bool.and_eq_true, decide_eq_true_eq] at h; exact h.1
theorem invP_spec {K : Nat} {p : List Int} (h : permOk K p = true) {x : Int} (h0 : 0 ≤ x) (h1 : x < K) : ∃ i : Nat, invP p x = i ∧ i < K ∧ p.getD i 0 = x := by
  have hm := (permOk_mem h x).2 ⟨h0, h1⟩
  obtain ⟨j, hj, hje⟩ := List.mem_iff_getElem.1 hm
  rcases idxOf_cases (fun y => x == y) p with ⟨_, hn⟩ | ⟨k, hk, hkl, hp, _⟩
  · have := hn _ (List.getElem_mem hj); rw [hje] at this; simp at this
  · refine ⟨k, hk, by rw [← permOk_len h]; exact hkl, ?_⟩
    simp only [List.getD, List.getElem?_eq_getElem hkl, Option.getD_some]
    exact (show x = p[k] by simpa using hp).symm

/-- The symbol of a window by the other names. -/
def renF (K : Nat) (T p ys : List Int) : Int := p.getD (T.getD (numW K (ys.map (invP p))) 0).toNat 0
def renT (K n : Nat) (T p : List Int) : List Int := madeP K n (renF K T p) (pw K n)
theorem invP_syms {K : Nat} {p ys : List Int} (h : permOk K p = true) (hy : Syms K ys) : Syms K (ys.map (invP p)) := by
  intro z hz
  obtain ⟨y, hyy, rfl⟩ := List.mem_map.1 hz
  obtain ⟨i, e, hi, _⟩ := invP_spec h (hy y hyy).1 (hy y hyy).2
  rw [e]; omega

theorem fill_front' (A B : List Int) (j : Nat) (hj : j < A.length) (hl : B.length = A.length) : (A.take j ++ B.drop j).set j A[j] = A.take (j + 1) ++ B.drop (j + 1) := by
  have e : (A.take j).length = j := by simp; omega
  rw [List.set_append_right _ _ (by omega), e, Nat.sub_self, List.drop_eq_getElem_cons (show j < B.length by omega), List.set_cons_zero, take_snoc A j hj, List.append_assoc, List.singleton_append]
theorem map_fill (f : Int → Int) (A B : List Int) (j : Nat) (hj : j < A.length) (hl : B.length = A.length) : ((A.map f).take j ++ B.drop j).set j (f A[j]) = (A.map f).take (j + 1) ++ B.drop (j + 1) := by
  have := fill_front' (A.map f) B j (by simpa using hj) (by simpa using hl)
  simpa using this

set_option maxHeartbeats 1000000 in
theorem frename1_any (K R : Nat) (va : Option Addr) (vn vc : Nat) (T : List Int) (pa : Option Addr) (pn pc : Nat) (p : List Int) (b q : Nat) (v : Value) (ys : List Int) (w : World)
    (h : IntsAt w (.slice va vn vc) T) (hr : RuleOk K R T) (hp : IntsAt w (.slice pa pn pc) p) (hpo : permOk K p = true) (hv : IntsAt w v ys) (hy : Syms K ys) (hyl : ys.length = 2 * R + 1)
    (c0 : w.cell? ⟨b, 0, none⟩ = some (.slice pa pn pc)) (x0 : w.cell? ⟨q, 0, none⟩ = some (.int .i64 K)) (x1 : w.cell? ⟨q, 1, none⟩ = some (.int .i64 R)) (x2 : w.cell? ⟨q, 2, none⟩ = some (.slice va vn vc)) :
    Calls Tryd.prog 68 #[v, .pointer (some ⟨b, 0, none⟩), .pointer (some ⟨q, 0, none⟩)] w (Ret1 (fun x _ => x = .int .i64 (renF K T p ys)) w) := by
  have hk1 := hr.k1
  have hR := hr.r3
  have hyl7 : ys.length ≤ 7 := by omega
  have hlen := hv.len
  have hsy := invP_syms hpo hy
  have hyv : T.getD (numW K (ys.map (invP p))) 0 < K ∧ 0 ≤ T.getD (numW K (ys.map (invP p))) 0 := by
    have := hr.syms.getD (by omega) (numW K (ys.map (invP p))); omega
  have hpl := permOk_len hpo
  replace h := Lib.hid h
  replace hp := Lib.hid hp
  replace hpo := Lib.hid hpo
  replace hv := Lib.hid hv
  replace hy := Lib.hid hy
  replace hyl := Lib.hid hyl
  replace hr := Lib.hid hr
  replace hsy := Lib.hid hsy
  replace hpl := Lib.hid hpl
  replace x0 := Lib.hid x0
  replace x1 := Lib.hid x1
  replace x2 := Lib.hid x2
  go_enter Tryd.func68, Tryd.ntmps68
  go_wp2_with (at_make; refine wpl_make rfl _ _ rfl _ rfl rfl (by omega) (by omega) ?_)
  intro ov w1 ho b1
  replace ho := Lib.hid ho
  go_wp2
  go_loopw [13] (fun i wr => ∃ j : Nat, j ≤ ys.length ∧ i = .int .i64 j ∧ OwnI w.heap.size wr ov ((ys.map (invP p)).take j ++ (List.replicate ys.length (0 : Int)).drop j) ∧ Below w.heap.size w wr) (fun i _ => ys.length - (intOf i).toNat)
  case atStart => exact ⟨0, by omega, rfl, by simpa using ho.out, b1⟩
  case round =>
    obtain ⟨j, hj, rfl, hO, hB⟩ := hrel
    obtain ⟨wi, rfl⟩ : ∃ wi : World, wi = wr := ⟨_, rfl⟩
    have cb := cell_keep hB c0
    by_cases hjl : j < ys.length
    · have hXl : ((ys.map (invP p)).take j ++ (List.replicate ys.length (0 : Int)).drop j).length = ys.length := by simp; omega
      have i1 := (hv.out.below hB).idx j hjl
      have c1 := (hv.out.below hB).cell j hjl
      have i2 := hO.at.idx j (by rw [hXl]; exact hjl)
      have c2 := hO.at.cellD j (by rw [hXl]; exact hjl)
      have f2 := hO.frz j (by rw [hXl]; exact hjl)
      have hS := hO.set j (by rw [hXl]; exact hjl) (invP p ys[j])
      have hbS := hO.setBelow hB j (by rw [hXl]; exact hjl) (.int .i64 (invP p ys[j]))
      rw [map_fill (invP p) ys _ j hjl (by simp)] at hS
      have hIx := index_any (.slice pa pn pc) p ys[j] wi (hp.out.below hB)
      obtain ⟨y, hy'⟩ : ∃ y, y = ys[j] := ⟨_, rfl⟩
      rw [← hy'] at c1 hS hbS hIx
      obtain ⟨z, hz⟩ : ∃ z, z = invP p y := ⟨_, rfl⟩
      rw [← hz] at hS hbS hIx
      obtain ⟨z', hz'⟩ : ∃ z', z' = ((ys.map (invP p)).take j ++ (List.replicate ys.length (0 : Int)).drop j).getD j 0 := ⟨_, rfl⟩
      rw [← hz'] at c2
      replace hS := Lib.hid hS
      replace hbS := Lib.hid hbS
      clear hXl hO hy' hz hz'
      replace hIx := Lib.hid hIx
      go_wp2_with (go_at_call 69; refine hIx.out.mono ?_; rintro e w' ⟨rfl, rfl⟩)
      go_roundw
      case rel => exact ⟨j + 1, by omega, by go_num, hS.out, hbS.out⟩
      case measure => simp [intOf]; omega
    · obtain rfl : ys.length = j := by omega
      rw [List.take_of_length_le (by simp), List.drop_of_length_le (by simp), List.append_nil] at hO
      go_wp2
      have hTi := h.out.below hB
      have hPi := hp.out.below hB
      obtain ⟨yi, hyi⟩ : ∃ yi : Nat, T.getD (numW K (ys.map (invP p))) 0 = yi := ⟨(T.getD (numW K (ys.map (invP p))) 0).toNat, by omega⟩
      have i3 := hPi.idx yi (by rw [hpl.out]; omega)
      have c3 := hPi.cellD yi (by rw [hpl.out]; omega)
      have hres : Hid (renF K T p ys = p.getD yi 0) := Lib.hid (by rw [renF, hyi]; rfl)
      have hyi' := Lib.hid hyi
      obtain ⟨W, hW⟩ : ∃ W : World, W = wi.drew := ⟨_, rfl⟩
      have hol : Hid ((ys.map (invP p)).length = 2 * R + 1) := Lib.hid (by rw [List.length_map]; exact hyl.out)
      have hS : W.cell? ⟨b, 0, none⟩ = some (.slice pa pn pc) ∧ W.cell? ⟨q, 0, none⟩ = some (.int .i64 K) ∧ W.cell? ⟨q, 1, none⟩ = some (.int .i64 R) ∧ W.cell? ⟨q, 2, none⟩ = some (.slice va vn vc) ∧ W.cell? (valAt (.slice pa pn pc) yi) = some (.int .i64 (p.getD yi 0)) := by
        have k0 := cell_keep hB x0.out
        have k1 := cell_keep hB x1.out
        have k2 := cell_keep hB x2.out
        rw [hW]; exact ⟨cb, k0, k1, k2, c3⟩
      have hTW := Lib.hid (show IntsAt W _ _ by rw [hW]; exact hTi.drew)
      have hOW := Lib.hid (show OwnI w.heap.size W _ _ by rw [hW]; exact hO.drew)
      have hBW := Lib.hid (show Below w.heap.size w W by rw [hW]; exact hB.drew)
      obtain ⟨ya, hya⟩ : ∃ ya, ya = valAt (.slice pa pn pc) yi := ⟨_, rfl⟩
      obtain ⟨yv, hyv'⟩ : ∃ yv, yv = p.getD yi 0 := ⟨_, rfl⟩
      rw [← hya, ← hyv'] at hS
      rw [← hya] at i3
      rw [← hyv'] at hres
      refine wp_region_plan (fun w' => w'.cell? ⟨b, 0, none⟩ = some (.slice pa pn pc) ∧ w'.cell? ⟨q, 0, none⟩ = some (.int .i64 K) ∧ w'.cell? ⟨q, 1, none⟩ = some (.int .i64 R) ∧ w'.cell? ⟨q, 2, none⟩ = some (.slice va vn vc) ∧ w'.cell? ya = some (.int .i64 yv)) 6 [(0, true), (1, true), (2, true), (3, false), (4, true), (5, true)] (by kernel_rfl) (by kernel_rfl) ?_
      rw [← hW]
      replace hW := Lib.hid hW
      clear c3 hya hyv' cb hyi
      refine headY (v := ?_) (some 25) rfl rfl (Or.inl ⟨by rfl, ?_⟩) hS ?_
      rotate_left
      · rintro W' ⟨s0, s1, s2, s3, s4⟩; go_simp; try with_reducible rfl
      simp only [Act.put, List.setIfInBounds_toArray, List.set_cons_zero, List.set_cons_succ]
      refine headY (v := ?_) (some 26) rfl rfl (Or.inl ⟨by rfl, ?_⟩) hS ?_
      rotate_left
      · rintro W' ⟨s0, s1, s2, s3, s4⟩; go_simp; try with_reducible rfl
      simp only [Act.put, List.setIfInBounds_toArray, List.set_cons_zero, List.set_cons_succ]
      refine headY (v := ?_) (some 27) rfl rfl (Or.inl ⟨by rfl, ?_⟩) hS ?_
      rotate_left
      · rintro W' ⟨s0, s1, s2, s3, s4⟩; go_simp; try with_reducible rfl
      simp only [Act.put, List.setIfInBounds_toArray, List.set_cons_zero, List.set_cons_succ]
      refine headC rfl (fun KK hK => ?_)
      go_simp
      refine (symbol_any K R va vn vc T ov _ _ hTW.out hr.out hOW.out.at hsy.out hol.out).mono ?_
      rintro e w7 ⟨x, rfl, b7, rfl⟩
      rw [hyi'.out]
      have hS7 : w7.cell? ⟨b, 0, none⟩ = some (.slice pa pn pc) ∧ w7.cell? ⟨q, 0, none⟩ = some (.int .i64 K) ∧ w7.cell? ⟨q, 1, none⟩ = some (.int .i64 R) ∧ w7.cell? ⟨q, 2, none⟩ = some (.slice va vn vc) ∧ w7.cell? ya = some (.int .i64 yv) :=
        ⟨cell_keep b7 hS.1, cell_keep b7 hS.2.1, cell_keep b7 hS.2.2.1, cell_keep b7 hS.2.2.2.1, (b7.cell (World.block_lt_of_cell? _ _ hS.2.2.2.2)).trans hS.2.2.2.2⟩
      refine hK _ _ hS7 ?_
      clear hK KK
      refine headY (v := ?_) (some 29) rfl rfl (Or.inl ⟨by rfl, ?_⟩) hS7 ?_
      rotate_left
      · rintro W' ⟨s0, s1, s2, s3, s4⟩; go_simp; try with_reducible rfl
      simp only [Act.put, List.setIfInBounds_toArray, List.set_cons_zero, List.set_cons_succ]
      refine headY (v := ?_) (some 30) rfl rfl (Or.inl ⟨by rfl, ?_⟩) hS7 ?_
      rotate_left
      · rintro W' ⟨s0, s1, s2, s3, s4⟩; go_simp; try with_reducible rfl
      simp only [Act.put, List.setIfInBounds_toArray, List.set_cons_zero, List.set_cons_succ]

      refine head0 ?_
      simp only [List.drop_succ_cons, List.drop_zero]
      have hBe := Lib.hid (Below.step hBW.out b7)
      clear hS hS7
      go_wp2
      refine NoPanic.normal ?_
      go_wp2
      go_ret
      exact ⟨_, rfl, hBe.out, by rw [hres.out]; rfl⟩
end Go.Proofs.YtmhiambkfdkkbaaDoor

namespace Go.Proofs.YtmhiambkfdkkbaaDoor
open Go.RowKit
set_option maxRecDepth 100000

theorem pway_bad (r : Nat → Addr) (k R : Int) (va : Option Addr) (vn vc : Nat) (T : List Int) (u v : Value) (t : Int × List (ByteArray × Int)) (w : World) (hg : Glob r w) (h : IntsAt w (.slice va vn vc) T) (hc : smallP k R T = some t) :
    Calls Tryd.prog 18 #[.agg #[.int .i64 k, .int .i64 R, .slice va vn vc], u, v] w (Ret2 (fun x y w' => x = .slice none 0 0 ∧ ErrIs r w' (under sPairs 0 (some t)) y) w) := by
  have b0 := belowAlloc w (.cells #[.int .i64 k, .int .i64 R, .slice va vn vc] 24)
  replace hg := Lib.hid (hg.below b0)
  replace h := Lib.hid (h.below b0)
  replace hc := Lib.hid hc
  go_enter Tryd.func18, Tryd.ntmps18
  go_wp2_with fail
  refine (working_bad r k R va vn vc T t _ hg.out h.out hc.out).mono ?_
  rintro e w1 ⟨x, y, rfl, b1, rfl, hy⟩
  obtain ⟨T2, a2, rfl⟩ : ∃ T a, y = .iface T (.pointer (some a)) := by
    unfold under at hy
    exact ErrIs.some_shape hy
  have ba := belowAlloc w1 (.cells #[.int .i64 0, .int .i64 0, .slice none 0 0] 24)
  have hy2 := hy.below ba
  replace hy := Lib.hid hy
  replace hy2 := Lib.hid hy2
  go_wp2
  go_ret2
  exact ⟨_, _, rfl, Below.step b0 (Below.step b1 ba), rfl, hy2.out⟩

/-- Way's answer at a small rule. -/
def wayP (K R : Nat) (T x y : List Int) : PErr :=
  match lookP K x 1 0 with
  | some t => some t
  | none => match lookP K y 2 x.length with
    | some t => some t
    | none => if x.length ≠ y.length ∨ x.length < 2 * R then fresh sPairs 1 3 else if imgP K R T x = imgP K R T y then none else fresh sPairs 2 3
theorem wayP_none {K R : Nat} {T x y : List Int} (h : wayP K R T x y = none) : Syms K x ∧ Syms K y ∧ x.length ≤ 4096 ∧ x.length = y.length ∧ 2 * R ≤ x.length ∧ imgP K R T x = imgP K R T y := by
  unfold wayP at h
  cases h1 : lookP K x 1 0 with
  | some t => rw [h1] at h; cases h
  | none =>
    rw [h1] at h
    cases h2 : lookP K y 2 x.length with
    | some t => simp only [h2] at h; cases h
    | none =>
      simp only [h2] at h
      by_cases h3 : x.length ≠ y.length ∨ x.length < 2 * R
      · rw [if_pos h3] at h; cases h
      · rw [if_neg h3] at h
        by_cases h4 : imgP K R T x = imgP K R T y
        · exact ⟨(lookP_none h1).2, (lookP_none h2).2, (lookP_none h1).1, by omega, by omega, h4⟩
        · rw [if_neg h4] at h; cases h

theorem pathN_all {K m : Nat} {x : List Int} {j : Nat} (hj : j < (pathN K m x x.length).length) : (castI (pathN K m x x.length)).getD j 0 = ((nodeAt K m x j : Nat) : Int) := by
  rw [pathN_len] at hj
  simp [castI, pathN, List.getD, hj]
theorem wayW_all {K m : Nat} {x y : List Int} {j : Nat} (hj : j < x.length - m + 1) : (castI (wayW K m x y)).getD j 0 = ((nodeAt K m x j * pw K m + nodeAt K m y j : Nat) : Int) := by
  simp [castI, wayW, List.getD, hj]

set_option maxHeartbeats 4000000 in
theorem pway_ok (r : Nat → Addr) (K R : Nat) (va : Option Addr) (vn vc : Nat) (T : List Int) (u v : Value) (x y : List Int) (w : World) (hg : Glob r w) (h : IntsAt w (.slice va vn vc) T) (hu : IntsAt w u x) (hv : IntsAt w v y) (hr : RuleOk K R T) (hl : T.length ≤ 256) :
    Calls Tryd.prog 18 #[.agg #[.int .i64 K, .int .i64 R, .slice va vn vc], u, v] w (Ret2 (fun z e w' => ErrIs r w' (wayP K (wkR R) (wkT K R T) x y) e ∧ (wayP K (wkR R) (wkT K R T) x y ≠ none → z = .slice none 0 0) ∧ (wayP K (wkR R) (wkT K R T) x y = none → OwnI w.heap.size w' z (castI (wayW K (2 * wkR R) x y)))) w) := by
  have b0 := belowAlloc w (.cells #[.int .i64 K, .int .i64 R, .slice va vn vc] 24)
  have q : Box3 (w.alloc (.cells #[.int .i64 K, .int .i64 R, .slice va vn vc] 24)) w.heap.size (.int .i64 K) (.int .i64 R) (.slice va vn vc) := by simp [Box3, go_sem]
  have hk1 := hr.k1
  have hk4 := hr.k4
  have hokW := wk_ok hr
  have hlW := wk_small hr hl
  have hRW := wk_pos R
  have hN81 := nodes_le hokW hRW hlW
  obtain ⟨hdiv, hlen⟩ := hokW.half
  have hR3 := hokW.r3
  have hN1 := pw_pos (K := K) (2 * wkR R) hk1
  have hwork := fun (w' : World) (hgl : Glob r w') (hT : IntsAt w' (.slice va vn vc) T) => working_ok r K R va vn vc T w' hgl hT hr hl
  have hNodes := fun (a : Option Addr) (n c : Nat) (w' : World) (hgl : Glob r w') (hT : IntsAt w' (.slice a n c) (wkT K R T)) => over_Nodes r K (wkR R) a n c (wkT K R T) w' hgl hT hokW hlW
  have hPath := fun (a : Option Addr) (n c : Nat) (u : Value) (x : List Int) (w' : World) (hgl : Glob r w') (hT : IntsAt w' (.slice a n c) (wkT K R T)) (hu : IntsAt w' u x) (hx : Syms K x) (hxl : x.length ≤ 4096) => over_path r K (wkR R) a n c (wkT K R T) u x w' hgl hT hu hokW hlW hRW hx hxl
  rw [hdiv] at hNodes
  generalize wkT K R T = T' at *
  generalize wkR R = R' at *
  have lu := hu.len
  have lv := hv.len
  have lum := hu.len_le
  have lvm := hv.len_le
  obtain ⟨ua, un, uc, rfl⟩ := hu.shape
  obtain ⟨wa, wn, wc, rfl⟩ := hv.shape
  obtain ⟨E, hE⟩ : ∃ E, wayP K R' T' x y = E := ⟨_, rfl⟩
  have hEn := @wayP_none K R' T' x y
  rw [hE] at hEn ⊢
  unfold wayP at hE
  obtain ⟨m, hm⟩ : ∃ m, 2 * R' = m := ⟨_, rfl⟩
  have hm2 : 2 * (R' : Int) = (m : Int) := by omega
  have hm6 : m ≤ 6 := by omega
  rw [hm] at hNodes hPath hN81 hN1 hdiv hlen hE hEn ⊢
  obtain ⟨N, hN⟩ : ∃ N, pw K m = N := ⟨_, rfl⟩
  rw [hN] at hNodes hN81 hN1 hdiv hlen
  have hwm : IntKind.i64.wrap (m : Int) = m := wrapK (by omega) (by omega)
  replace hwork := Lib.hid hwork
  replace hNodes := Lib.hid hNodes
  replace hPath := Lib.hid hPath
  replace hg := Lib.hid (hg.below b0)
  replace h := Lib.hid (h.below b0)
  replace hu := Lib.hid (hu.below b0)
  replace hv := Lib.hid (hv.below b0)
  replace hokW := Lib.hid hokW
  replace hr := Lib.hid hr
  replace hdiv := Lib.hid hdiv
  replace hlen := Lib.hid hlen
  replace hEn := Lib.hid hEn
  replace hE := Lib.hid hE
  replace hm := Lib.hid hm
  replace hN := Lib.hid hN
  go_enter Tryd.func18, Tryd.ntmps18
  go_wp2_with fail
  refine (hwork.out _ hg.out h.out).mono ?_
  rintro e w1 ⟨z, e1, rfl, b1, rfl, a, n, c, rfl, hT1⟩
  have b01 := Below.step b0 b1
  have ba := belowAlloc w1 (.cells #[.int .i64 K, .int .i64 R', .slice a n c] 24)
  have qw : Box3 (w1.alloc (.cells #[.int .i64 K, .int .i64 R', .slice a n c] 24)) w1.heap.size (.int .i64 K) (.int .i64 R') (.slice a n c) := by simp [Box3, go_sem]
  obtain ⟨W2, hW2⟩ : ∃ W2 : World, W2 = w1.alloc (.cells #[.int .i64 K, .int .i64 R', .slice a n c] 24) := ⟨_, rfl⟩
  rw [← hW2] at ba qw
  have b12 := Below.step b1 ba
  have b02 := Below.step b01 ba
  have hT2 := hT1.below ba
  obtain ⟨⟨z0, z1, z2⟩, -, -, -⟩ := q.below b12
  replace hT1 := Lib.hid hT1
  replace hT2 := Lib.hid hT2
  replace qw := Lib.hid qw
  go_upto_region 2 with fail
  rw [← hW2]
  replace hW2 := Lib.hid hW2
  go_wp2_with fail
  refine (look_any r K (.slice ua un uc) x 1 0 W2 (hg.out.below b12) (hu.out.below b12) (by omega)).mono ?_
  rintro e w3 ⟨e3, rfl, b3, he3⟩
  have he3' : ErrIs r w3 (lookP K x 1 0) e3 := he3
  have b03 := Below.step b02 b3
  have b13 := Below.step b12 b3
  clear z0 z1 z2 he3
  cases hk : lookP K x 1 0 with
  | some t =>
    rw [hk] at he3'
    have hEe : E = some t := by have := hE.out; rw [hk] at this; exact this.symm
    obtain ⟨T3, a3, rfl⟩ := he3'.some_shape
    replace he3' := Lib.hid he3'
    replace hEe := Lib.hid hEe
    go_wp2
    go_ret2
    exact ⟨_, _, rfl, b03, by rw [hEe.out]; exact he3'.out, fun _ => rfl, fun e => by rw [hEe.out] at e; cases e⟩
  | none =>
    rw [hk] at he3'
    obtain rfl := he3'.none_eq
    have hE2 := hE.out
    rw [hk] at hE2
    simp only at hE2
    obtain ⟨hxl, hxs⟩ := lookP_none hk
    obtain ⟨⟨z0, z1, z2⟩, -, -, -⟩ := q.below b13
    have hl2 := look_any r K (.slice wa wn wc) y 2 x.length w3 (hg.out.below b13) (hv.out.below b13) (by omega)
    replace hl2 := Lib.hid hl2
    replace hE2 := Lib.hid hE2
    replace hxs := Lib.hid hxs
    clear he3' hk hE
    go_wp2_with fail
    refine hl2.out.mono ?_
    rintro e w4 ⟨e4, rfl, b4, he4⟩
    have b04 := Below.step b03 b4
    have b14 := Below.step b13 b4
    have b24 := Below.step b3 b4
    clear z0 z1 z2 hl2
    cases hk : lookP K y 2 x.length with
    | some t =>
      rw [hk] at he4
      have hEe : E = some t := by have := hE2.out; rw [hk] at this; exact this.symm
      obtain ⟨T3, a3, rfl⟩ := he4.some_shape
      replace he4 := Lib.hid he4
      replace hEe := Lib.hid hEe
      go_wp2
      go_ret2
      exact ⟨_, _, rfl, b04, by rw [hEe.out]; exact he4.out, fun _ => rfl, fun e => by rw [hEe.out] at e; cases e⟩
    | none =>
      rw [hk] at he4
      obtain rfl := he4.none_eq
      have hE3 := hE2.out
      rw [hk] at hE3
      simp only at hE3
      obtain ⟨hyl, hys⟩ := lookP_none hk
      obtain ⟨⟨y0, y1, y2⟩, -, -, -⟩ := qw.out.below b24
      replace hys := Lib.hid hys
      clear he4 hk hE2
      by_cases hlen2 : x.length = y.length
      · have hne : ((x.length : Int) != (y.length : Int)) = false := by rw [bne_eq_false_iff_eq]; omega
        have hne2 : (x.length != y.length) = false := by rw [bne_eq_false_iff_eq]; omega
        have hle2 := Lib.hid hlen2
        by_cases hxm : x.length < m
        · have hd : decide ((x.length : Int) < (m : Int)) = true := decide_eq_true (by omega)
          rw [if_pos (.inr hxm)] at hE3
          replace hE3 := Lib.hid hE3
          clear hlen2
          go_wp2_with fail
          refine (pairs_wrong r 1 3 _ (hg.out.below b14) (by decide) (by decide)).mono ?_
          rintro e w5 ⟨e5, rfl, b5, he5⟩
          replace he5 := Lib.hid he5
          go_wp2
          go_ret2
          exact ⟨_, _, rfl, Below.step b04 b5, by rw [← hE3.out]; exact he5.out, fun _ => rfl, fun e => by rw [← hE3.out] at e; cases e⟩
        · have hd : decide ((x.length : Int) < (m : Int)) = false := decide_eq_false (by omega)
          rw [if_neg (by omega)] at hE3
          replace hE3 := Lib.hid hE3
          have hxm2 := Lib.hid hxm
          clear hlen2
          go_wp2_with fail
          refine (hNodes.out a n c w4 (hg.out.below b14) (hT2.out.below b24)).mono ?_
          rintro e w5 ⟨z, e5, rfl, b5, rfl, rfl⟩
          have b15 := Below.step b14 b5
          have b25 := Below.step b24 b5
          have b05 := Below.step b04 b5
          clear y0 y1 y2
          obtain ⟨⟨y0, y1, y2⟩, -, -, -⟩ := qw.out.below b25
          go_wp2_with fail
          refine (hPath.out a n c _ x w5 (hg.out.below b15) (hT2.out.below b25) (hu.out.below b15) hxs.out hxl).mono ?_
          rintro e w6 ⟨pv, ov, e6, rfl, b6, rfl, hop, hoo, _⟩
          have b16 := Below.step b15 b6
          have b26 := Below.step b25 b6
          have b06 := Below.step b05 b6
          clear y0 y1 y2
          obtain ⟨⟨y0, y1, y2⟩, -, -, -⟩ := qw.out.below b26
          replace hop := Lib.hid hop
          replace hoo := Lib.hid hoo
          go_wp2_with fail
          refine (hPath.out a n c _ y w6 (hg.out.below b16) (hT2.out.below b26) (hv.out.below b16) hys.out hyl).mono ?_
          rintro e w7 ⟨qv, tv, e7, rfl, b7, rfl, hoq, hot, _⟩
          have b17 := Below.step b16 b7
          have b07 := Below.step b06 b7
          clear y0 y1 y2
          replace hoq := Lib.hid hoq
          replace hot := Lib.hid hot
          go_wp2_with fail
          refine (equal_any ov tv _ _ w7 (hoo.out.below b7).at hot.out.at).mono ?_
          rintro e w8 h8
          obtain ⟨rfl, b8⟩ := h8.below
          clear h8
          have b08 := Below.step b07 b8
          have b18 := Below.step b17 b8
          by_cases himg : imgP K R' T' x = imgP K R' T' y
          · rw [if_pos himg] at hE3
            rw [decide_eq_true himg]
            replace hE3 := Lib.hid hE3
            have hmx : m ≤ x.length := by have := hxm2.out; omega
            have hPl : (pathN K m x x.length).length = x.length + 1 - m := pathN_len _ _ _ _
            have hQl : (pathN K m y y.length).length = x.length + 1 - m := by rw [pathN_len, hle2.out]
            have hWl : (wayW K m x y).length = x.length + 1 - m := by rw [wayW_len]; omega
            have hPg : ∀ j, j < x.length + 1 - m → (castI (pathN K m x x.length)).getD j 0 = ((nodeAt K m x j : Nat) : Int) := fun j hj => pathN_all (by rw [hPl]; exact hj)
            have hQg : ∀ j, j < x.length + 1 - m → (castI (pathN K m y y.length)).getD j 0 = ((nodeAt K m y j : Nat) : Int) := fun j hj => pathN_all (by rw [hQl]; exact hj)
            have hWg : ∀ j, j < x.length + 1 - m → (castI (wayW K m x y)).getD j 0 = ((nodeAt K m x j * N + nodeAt K m y j : Nat) : Int) := fun j hj => by rw [wayW_all (by omega), hN.out]
            have hPn : ∀ j, j < x.length + 1 - m → nodeAt K m x j < N := fun j hj => by rw [← hN.out]; exact node_lt hxs.out (by omega)
            have hQn : ∀ j, j < x.length + 1 - m → nodeAt K m y j < N := fun j hj => by rw [← hN.out]; exact node_lt hys.out (by have := hle2.out; omega)
            have r1 := (Rows.void w5.heap.size w5).add (i := (1, 0)) (r' := rowI pv (castI (pathN K m x x.length))) b6 hop.out (fun k hk => (hop.out.lt k hk).1)
            have r2 := r1.add (i := (2, 0)) (r' := rowI qv (castI (pathN K m y y.length))) b7 (hoq.out.mono b6.size) (fun k hk => (hoq.out.lt k hk).1)
            obtain ⟨f, hf⟩ : ∃ f, f = upd (upd (fun _ => none) (1, 0) (some (rowI pv (castI (pathN K m x x.length))))) (2, 0) (some (rowI qv (castI (pathN K m y y.length)))) := ⟨_, rfl⟩
            have hfa : f (1, 0) = some (rowI pv (castI (pathN K m x x.length))) := by rw [hf, upd_ne _ _ (by simp), upd_same]
            have hfb : f (2, 0) = some (rowI qv (castI (pathN K m y y.length))) := by rw [hf, upd_same]
            rw [← hf] at r2
            have r3 := r2.below b8
            have b58 : Below w5.heap.size w5 w8 := Below.step b6 (Below.step b7 b8)
            have hs5 := b05.size
            have lq := (r3.ownI hfb).at.len
            have hcQ : (castI (pathN K m y y.length)).length = x.length + 1 - m := by rw [castI_len, hQl]
            have hcP : (castI (pathN K m x x.length)).length = x.length + 1 - m := by rw [castI_len, hPl]
            have hcW : (castI (wayW K m x y)).length = x.length + 1 - m := by rw [castI_len, hWl]
            rw [hcQ] at lq
            obtain ⟨L, hL⟩ : ∃ L, x.length + 1 - m = L := ⟨_, rfl⟩
            have hLb : L ≤ 4097 := by omega
            rw [hL] at hPg hQg hWg hPn hQn hcQ hcP hcW lq
            obtain ⟨p1, p2, p3, rfl⟩ := hop.out.at.shape
            obtain ⟨q1, q2, q3, rfl⟩ := hoq.out.at.shape
            generalize castI (pathN K m x x.length) = P at *
            generalize castI (pathN K m y y.length) = Q at *
            obtain ⟨Z, hZ⟩ : ∃ Z, castI (wayW K m x y) = Z := ⟨_, rfl⟩
            rw [hZ] at hcW hWg
            replace hZ := Lib.hid hZ
            replace r3 := Lib.hid r3
            replace hfa := Lib.hid hfa
            replace hfb := Lib.hid hfb
            replace hPg := Lib.hid hPg
            replace hQg := Lib.hid hQg
            replace hWg := Lib.hid hWg
            replace hPn := Lib.hid hPn
            replace hQn := Lib.hid hQn
            replace hcQ := Lib.hid hcQ
            replace hcP := Lib.hid hcP
            replace hcW := Lib.hid hcW
            replace hL := Lib.hid hL
            clear r1 r2 hf hop hoq hoo hot hPl hQl hWl
            go_wp2_with fail
            go_loopw [86] (fun jv wr => ∃ (j : Nat) (f : Names), j ≤ L ∧ jv = .int .i64 j ∧ Rows w5.heap.size wr f ∧ Below w5.heap.size w5 wr ∧ f (1, 0) = some (rowI (.slice p1 p2 p3) (Z.take j ++ P.drop j)) ∧ f (2, 0) = some (rowI (.slice q1 q2 q3) Q)) (fun jv _ => L - (intOf jv).toNat)
            case atStart => exact ⟨0, f, by omega, rfl, r3.out, b58, by simpa using hfa.out, hfb.out⟩
            case round =>
              clear r3 hfa hfb b58
              obtain ⟨j, f2, hj, rfl, hr2, bI, hfa, hfb⟩ := hrel
              obtain ⟨wo, rfl⟩ : ∃ wo : World, wo = wr := ⟨_, rfl⟩
              have hst : (Z.take j ++ P.drop j).length = L := by
                rw [List.length_append, List.length_take, List.length_drop, hcW.out, hcP.out]; omega
              have hoa := hr2.ownI hfa
              have hob := hr2.ownI hfb
              by_cases hjl : j < L
              · obtain ⟨pj, hpj⟩ : ∃ z, nodeAt K m x j = z := ⟨_, rfl⟩
                obtain ⟨qj, hqj⟩ : ∃ z, nodeAt K m y j = z := ⟨_, rfl⟩
                have hpl := hPn.out j hjl
                have hql := hQn.out j hjl
                have hP1 := hPg.out j hjl
                have hQ1 := hQg.out j hjl
                have hW1 := hWg.out j hjl
                rw [hpj] at hpl hP1 hW1
                rw [hqj] at hql hQ1 hW1
                obtain ⟨pn, hpn⟩ : ∃ z, pj * N = z := ⟨_, rfl⟩
                have hpn2 : (pj : Int) * (N : Int) = (pn : Int) := by rw [← hpn]; simp
                have hpnl : pn ≤ 6561 := by rw [← hpn]; exact Nat.le_trans (Nat.mul_le_mul (show pj ≤ 81 by omega) hN81) (by decide)
                obtain ⟨s, hs⟩ : ∃ z, pn + qj = z := ⟨_, rfl⟩
                have hs2 : (pn : Int) + (qj : Int) = (s : Int) := by omega
                have hw1 : IntKind.i64.wrap (pn : Int) = pn := wrapK (by omega) (by omega)
                have hw2 : IntKind.i64.wrap (s : Int) = s := wrapK (by omega) (by omega)
                rw [hpn, hs] at hW1
                have iP := fun w' => hoa.at.idx j (by rw [hst]; exact hjl) w'
                have cP := hoa.at.cellD j (by rw [hst]; exact hjl)
                have eP : (Z.take j ++ P.drop j).getD j 0 = (pj : Int) := by
                  rw [← hP1, List.getD_eq_getElem?_getD, List.getElem?_append_right (by rw [List.length_take]; omega), List.length_take, List.getElem?_drop, hcW.out, show j + (j - min j L) = j by omega, ← List.getD_eq_getElem?_getD]
                rw [eP] at cP
                have fP := hoa.frz j (by rw [hst]; exact hjl)
                have kP := (hoa.toV.blkB j (by rw [List.length_map, hst]; exact hjl)).2
                have iQ := fun w' => hob.at.idx j (by rw [hcQ.out]; exact hjl) w'
                have cQ := hob.at.cellD j (by rw [hcQ.out]; exact hjl)
                rw [hQ1] at cQ
                have hr8 := hr2.setI hfa j (by rw [hst]; exact hjl) (s : Int)
                have eZ : (Z.take j ++ P.drop j).set j (s : Int) = Z.take (j + 1) ++ P.drop (j + 1) := by
                  have hjZ : j < Z.length := by rw [hcW.out]; exact hjl
                  have := fill_front' Z P j hjZ (by rw [hcP.out, hcW.out])
                  rw [← this]
                  congr 1
                  rw [← hW1]; simp [List.getD, hjZ]
                rw [eZ] at hr8
                obtain ⟨f8, hf8⟩ : ∃ f8, f8 = upd f2 (1, 0) (some (rowI (.slice p1 p2 p3) (Z.take (j + 1) ++ P.drop (j + 1)))) := ⟨_, rfl⟩
                rw [← hf8] at hr8
                have hfa8 : f8 (1, 0) = some (rowI (.slice p1 p2 p3) (Z.take (j + 1) ++ P.drop (j + 1))) := by rw [hf8, upd_same]
                have hfb8 : f8 (2, 0) = some (rowI (.slice q1 q2 q3) Q) := by rw [hf8, upd_ne _ _ (by simp)]; exact hfb
                have b8' := bI.setCell kP (.int .i64 (s : Int))
                have hjl2 := Lib.hid hjl
                generalize valAt (.slice p1 p2 p3) j = pa at *
                generalize valAt (.slice q1 q2 q3) j = qa at *
                replace hpj := Lib.hid hpj
                replace hqj := Lib.hid hqj
                replace hpn := Lib.hid hpn
                replace hs := Lib.hid hs
                replace hr8 := Lib.hid hr8
                replace hfa8 := Lib.hid hfa8
                replace hfb8 := Lib.hid hfb8
                replace b8' := Lib.hid b8'
                clear hf8 eP eZ hoa hob hr2 hfa hfb hP1 hQ1 hW1 hst
                go_wp2
                go_roundw
                case measure => have := hjl2.out; simp [intOf]; omega
                case rel => exact ⟨j + 1, f8, by have := hjl2.out; omega, by go_num, hr8.out, by first | exact b8'.out | exact b8'.out.drew, hfa8.out, hfb8.out⟩
              · obtain rfl : j = L := by omega
                rw [List.take_of_length_le (by rw [hcW.out]; omega), List.drop_of_length_le (by rw [hcP.out]; omega), List.append_nil] at hoa
                have bE := Lib.hid (b05.trans (bI.mono hs5))
                have hoE := Lib.hid (hoa.mono hs5)
                clear hr2 hfa hfb hoa hob
                go_wp2
                go_ret2
                exact ⟨_, _, rfl, bE.out, by rw [← hE3.out]; rfl, fun e => absurd hE3.out.symm e, fun _ => by rw [hZ.out]; exact hoE.out⟩
          · rw [if_neg himg] at hE3
            rw [decide_eq_false himg]
            replace hE3 := Lib.hid hE3
            go_wp2_with fail
            refine (pairs_wrong r 2 3 _ (hg.out.below b18) (by decide) (by decide)).mono ?_
            rintro e w9 ⟨e9, rfl, b9, he9⟩
            replace he9 := Lib.hid he9
            go_wp2
            go_ret2
            exact ⟨_, _, rfl, Below.step b08 b9, by rw [← hE3.out]; exact he9.out, fun _ => rfl, fun e => by rw [← hE3.out] at e; cases e⟩
      · have hne : ((x.length : Int) != (y.length : Int)) = true := by rw [bne_iff_ne]; omega
        have hne2 : (x.length != y.length) = true := by rw [bne_iff_ne]; omega
        rw [if_pos (.inl hlen2)] at hE3
        replace hE3 := Lib.hid hE3
        go_wp2_with fail
        refine (pairs_wrong r 1 3 _ (hg.out.below b14) (by decide) (by decide)).mono ?_
        rintro e w5 ⟨e5, rfl, b5, he5⟩
        replace he5 := Lib.hid he5
        go_wp2
        go_ret2
        exact ⟨_, _, rfl, Below.step b04 b5, by rw [← hE3.out]; exact he5.out, fun _ => rfl, fun e => by rw [← hE3.out] at e; cases e⟩
end Go.Proofs.YtmhiambkfdkkbaaDoor

namespace Go.Proofs.YtmhiambkfdkkbaaDoor

theorem wayW_low {K R : Nat} {x y : List Int} (hx : Syms K x) (hy : Syms K y) (hl : x.length = y.length) (hm : 2 * R ≤ x.length) : ∀ p ∈ wayW K (2 * R) x y, p < pw K (2 * R) * pw K (2 * R) := by
  intro p hp
  obtain ⟨i, hi, rfl⟩ := List.mem_map.1 hp
  have := List.mem_range.1 hi
  exact pair_lt (node_lt hx (by omega)) (node_lt hy (by omega))
theorem wayW_fit {K R : Nat} {T x y : List Int} (hK : 1 ≤ K) (hR : 1 ≤ R) (hx : Syms K x) (hy : Syms K y) (hl : x.length = y.length) (hm : 2 * R ≤ x.length) (he : imgP K R T x = imgP K R T y) :
    AllFit K (pw K (2 * R)) T (wayW K (2 * R) x y) := by
  intro i hi
  rw [wayW_len] at hi
  have n2 := node_lt (K := K) (m := 2 * R) hy (i := i) (by omega)
  rw [wayW_get (by omega), wayW_get (by omega)]
  refine (fits_iff hK hR (pair_lt (node_lt hx (by omega)) (node_lt hy (by omega)))).2 ?_
  rw [pair_div n2, pair_mod n2]
  exact wayW_arr hx hy hl he (by omega)
theorem wayW_back {K R : Nat} {x y : List Int} (hK : 1 ≤ K) (hR : 1 ≤ R) (hx : Syms K x) (hy : Syms K y) (hl : x.length = y.length) (hm : 2 * R ≤ x.length) :
    alongW K (2 * R) (· / pw K (2 * R)) (wayW K (2 * R) x y) = x ∧ alongW K (2 * R) (· % pw K (2 * R)) (wayW K (2 * R) x y) = y := by
  constructor
  · refine along_word hK hR hx hm (wayW_len _ _ _ _) fun i hi => ?_
    rw [wayW_len] at hi
    show (wayW K (2 * R) x y).getD i 0 / pw K (2 * R) = _
    rw [wayW_get (by omega), pair_div (node_lt hy (by omega))]
  · refine along_word hK hR hy (by omega) (by rw [wayW_len, hl]) fun i hi => ?_
    rw [wayW_len] at hi
    show (wayW K (2 * R) x y).getD i 0 % pw K (2 * R) = _
    rw [wayW_get (by omega), pair_mod (node_lt hy (by omega))]
end Go.Proofs.YtmhiambkfdkkbaaDoor

namespace Go.Proofs.YtmhiambkfdkkbaaDoor
open Go.RowKit
set_option maxRecDepth 100000

end Go.Proofs.YtmhiambkfdkkbaaDoor

namespace Go.Proofs.YtmhiambkfdkkbaaDoor
open Go.RowKit
set_option maxRecDepth 100000

/-- Each owned, no two in one block. -/
structure Kin (w : World) (lo : Nat) (vs : List Value) (xs : List (List Int)) : Prop where
  len : vs.length = xs.length
  own : ∀ t, t < vs.length → OwnI lo w (vAt vs t) (xs.getD t [])
  two : ∀ s t, s < vs.length → t < vs.length → s ≠ t → (vAt vs s).ownBlock = none ∨ (vAt vs s).ownBlock ≠ (vAt vs t).ownBlock

theorem Owns.kin {w : World} {lo : Nat} {vs : List Value} {xs : List (List Int)} (h : Owns w lo vs xs) : Kin w lo vs xs :=
  ⟨h.get.1, h.get.2, h.two⟩

/-- The last two of four change places. -/
theorem Kin.swap {w : World} {lo : Nat} {a b c d : Value} {x y z u : List Int} (h : Kin w lo [a, b, c, d] [x, y, z, u]) : Kin w lo [a, b, d, c] [x, y, u, z] := by
  refine ⟨rfl, fun t ht => ?_, fun s t hs ht hne => ?_⟩
  · have : t = 0 ∨ t = 1 ∨ t = 2 ∨ t = 3 := by simp at ht; omega
    rcases this with rfl | rfl | rfl | rfl
    · exact h.own 0 (by simp)
    · exact h.own 1 (by simp)
    · exact h.own 3 (by simp)
    · exact h.own 2 (by simp)
  · have h1 : s = 0 ∨ s = 1 ∨ s = 2 ∨ s = 3 := by simp at hs; omega
    have h2 : t = 0 ∨ t = 1 ∨ t = 2 ∨ t = 3 := by simp at ht; omega
    rcases h1 with rfl | rfl | rfl | rfl <;> rcases h2 with rfl | rfl | rfl | rfl
    · exact absurd rfl hne
    · exact h.two 0 1 (by simp) (by simp) (by decide)
    · exact h.two 0 3 (by simp) (by simp) (by decide)
    · exact h.two 0 2 (by simp) (by simp) (by decide)
    · exact h.two 1 0 (by simp) (by simp) (by decide)
    · exact absurd rfl hne
    · exact h.two 1 3 (by simp) (by simp) (by decide)
    · exact h.two 1 2 (by simp) (by simp) (by decide)
    · exact h.two 3 0 (by simp) (by simp) (by decide)
    · exact h.two 3 1 (by simp) (by simp) (by decide)
    · exact absurd rfl hne
    · exact h.two 3 2 (by simp) (by simp) (by decide)
    · exact h.two 2 0 (by simp) (by simp) (by decide)
    · exact h.two 2 1 (by simp) (by simp) (by decide)
    · exact h.two 2 3 (by simp) (by simp) (by decide)
    · exact absurd rfl hne

theorem Kin.of_kept {w w' : World} {lo : Nat} {vs : List Value} {xs : List (List Int)} (h : Kin w lo vs xs) (hk : ∀ t, t < vs.length → OwnI lo w (vAt vs t) (xs.getD t []) → OwnI lo w' (vAt vs t) (xs.getD t [])) : Kin w' lo vs xs :=
  ⟨h.len, fun t ht => hk t ht (h.own t ht), h.two⟩

/-- append, its run known. -/
theorem wpl_app_run {w : World} {ops : Array Oper} {rest : List Oper} {o : Oper} {a : Act} {Q : Exit → Act → World → Prop} (hgd : o.guard = none) (s x : Operand) (T : TypeId)
    (ho : o.op = .call { callee := .builtin .append, args := #[s, x], argTypes := #[T, T] })
    (v u : Value) (hs : a.eval s = v) (hx : a.eval x = u) {v' : Value} {w' : World} (hr : (Builtin.append_ #[T, T] o.type #[v, u]).run Tryd.prog w = .ok v' w')
    (h : wpList Tryd.prog ops Q rest (a.put o.dst v') w') :
    wpList Tryd.prog ops Q (o :: rest) a w := by
  refine wpList_plain hgd fun K hK => ?_
  unfold Oper.wp execOp
  simp only [ho, resolve, invoke, builtin, Sem.run_bind, Sem.run_pure, Result.andThen_ok, List.map_toArray, List.map_cons, List.map_nil, hs, hx]
  rw [hr]
  exact hK _ _ h

/-- append(all, o), all a literal list just laid. -/
theorem app_kin (w : World) (lo : Nat) (vs : List Value) (o : Value) (xs : List (List Int)) (h : Kin w lo (vs ++ [o]) xs) (hn : vs.length ≤ 90) (cs : Array Value) (hcs : cs.toList = vs) (n : Nat) (hnn : n = vs.length) (ho : o.oneCell' = true)
    (b : Nat) (hb : b = w.heap.size + 1) :
    ∃ v' w', (Builtin.append_ #[43, 43] 43 #[.slice (some ⟨w.heap.size, 0, none⟩) n n, .slice (some ⟨b, 0, none⟩) 1 1]).run Tryd.prog ((w.alloc (.cells cs 22)).alloc (.cells #[o] 22)) = .ok v' w' ∧
      ValsAt w' v' (vs ++ [o]) ∧ Kin w' lo (vs ++ [o]) xs ∧ Below w.heap.size w w' ∧ ∀ i t, i < (vs ++ [o]).length → t < (vs ++ [o]).length → (vAt (vs ++ [o]) t).ownBlock ≠ some (valAt v' i).block := by
  subst hnn hb
  have hs : cs.size = vs.length * 1 := by rw [← Array.length_toList, hcs]; simp
  have hm : vs.length ≤ maxLen := by unfold maxLen; omega
  have hv : OwnV 22 w.heap.size (w.alloc (.cells cs 22)) (.slice (some ⟨w.heap.size, 0, none⟩) vs.length vs.length) vs := by
    have := World.ownsRow_lit (base := w.heap.size) (e := 22) (size := 1) w cs vs.length (Nat.le_refl _) hm hs
    rw [hcs] at this
    exact this
  have hsz : (w.alloc (.cells cs 22)).heap.size = w.heap.size + 1 := by simp
  have hc1 := cell_one_new (w.alloc (.cells cs 22)) o 22
  rw [hsz] at hc1
  obtain ⟨v', w', hr, h2, h3⟩ := run_app oneLists ((w.alloc (.cells cs 22)).alloc (.cells #[o] 22)) w.heap.size 43 _ vs (hv.alloc _) ⟨w.heap.size + 1, 0, none⟩ 1 [o] (by simp) hc1 (by simpa using ho) (by simp; omega) (by simp; omega)
  have hal : Below w.heap.size w ((w.alloc (.cells cs 22)).alloc (.cells #[o] 22)) := ((Below.refl _ _).alloc (Nat.le_refl _) _).alloc (by simp) _
  have hne : ∀ t, t < (vs ++ [o]).length → (vAt (vs ++ [o]) t).ownBlock = none ∨ (vAt (vs ++ [o]) t).ownBlock ≠ some w.heap.size := fun t ht => by
    cases hk : (vAt (vs ++ [o]) t).ownBlock with
    | none => exact .inl rfl
    | some q =>
      right
      intro e
      have := ((h.own t ht).lt q hk).2
      simp at e
      omega
  refine ⟨v', w', hr, h2.at, h.of_kept fun t ht h0 => ?_, ?_, fun i t hi ht e => ?_⟩
  · have h1 := (h0.alloc (.cells cs 22)).alloc (.cells #[o] 22)
    rcases h3 with ⟨_, hg⟩ | ⟨_, hg⟩
    · exact h1.kept hg (hne t ht)
    · refine h1.kept hg ?_
      cases (vAt (vs ++ [o]) t).ownBlock <;> simp
  · rcases h3 with ⟨_, hg⟩ | ⟨_, hg⟩
    · exact hal.grown hg hal.size (by intro k hk; simp [Value.ownBlock] at hk; omega)
    · exact hal.grown hg hal.size (by intro k hk; cases hk)
  · have h5 := (h2.blkB i hi).2
    have := ((h.own t ht).lt _ e).2
    omega
end Go.Proofs.YtmhiambkfdkkbaaDoor

namespace Go.Proofs.YtmhiambkfdkkbaaDoor
open Go.RowKit
set_option maxRecDepth 100000

theorem wpl_appV {T E : TypeId} {z : Value} {b : Nat} (oc : OneCell T E z b) {w : World} {ops : Array Oper} {rest : List Oper} {o : Oper} {a : Act} {Q : Exit → Act → World → Prop} (hgd : o.guard = none) (s x : Operand)
    (ho : o.op = .call { callee := .builtin .append, args := #[s, x], argTypes := #[T, T] })
    (B : Nat) (v : Value) (p : Addr) (c : Nat) (xs ys : List Value) (hown : OwnV E B w v xs) (hu : ValsAt w (.slice (some p) ys.length c) ys) (hys : ∀ u ∈ ys, u.oneCell' = true) (hs : a.eval s = v) (hx : a.eval x = .slice (some p) ys.length c)
    (hlen : xs.length + ys.length ≤ 1000000) (hy1 : 1 ≤ ys.length) (hB : B ≤ w.heap.size)
    (h : ∀ v' w', OwnV E B w' v' (xs ++ ys) → Below B w w' → ((roomOf v' = roomOf v ∧ w.grownBy w' v.ownBlock) ∨ (∃ k, v'.ownBlock = some k ∧ w.heap.size ≤ k ∧ w.grownBy w' none)) → wpList Tryd.prog ops Q rest (a.put o.dst v') w') :
    wpList Tryd.prog ops Q (o :: rest) a w := by
  refine wpList_plain hgd fun K hK => ?_
  have hcell : ∀ j u, ys[j]? = some u → w.cell? (p.add j) = some u := fun j u hj => by
    obtain ⟨hjl, rfl⟩ := List.getElem?_eq_some_iff.1 hj
    obtain ⟨p', cap, e, _, _, _, h4⟩ := hu
    cases e
    have := h4 j hjl
    simpa [valAt] using this
  obtain ⟨v', w', hr, h2, h3⟩ := run_app oc w B o.type v _ hown p c ys (by omega) hcell hys (by omega) hB
  unfold Oper.wp execOp
  simp only [ho, resolve, invoke, builtin, Sem.run_bind, Sem.run_pure, Result.andThen_ok, List.map_toArray, List.map_cons, List.map_nil, hs, hx]
  rw [hr]
  rcases h3 with ⟨hroom, hg⟩ | ⟨hk, hg⟩
  · exact hK _ _ (h v' w' h2 ((Below.refl _ _).grown hg hB (fun k hk => (hown.lt k hk).1)) (.inl ⟨hroom, hg⟩))
  · exact hK _ _ (h v' w' h2 ((Below.refl _ _).grown hg hB (by intro k hk; cases hk)) (.inr ⟨_, hk, Nat.le_refl _, hg⟩))
end Go.Proofs.YtmhiambkfdkkbaaDoor

namespace Go.Proofs.YtmhiambkfdkkbaaDoor
open Go.RowKit
set_option maxRecDepth 100000

end Go.Proofs.YtmhiambkfdkkbaaDoor

namespace Go.Proofs.YtmhiambkfdkkbaaDoor
open Go.RowKit
set_option maxRecDepth 100000

theorem sorted_short : ∀ {L : List Nat} {lo n : Nat}, L.Pairwise (· < ·) → (∀ v ∈ L, lo ≤ v ∧ v < n) → L.length ≤ n - lo
  | [], _, _, _, _ => by simp
  | a :: L, lo, n, h, k => by
    have h1 := k a (by simp)
    have h2 := List.pairwise_cons.1 h
    have := sorted_short (lo := a + 1) (n := n) h2.2 (fun v hv => ⟨h2.1 v hv, (k v (by simp [hv])).2⟩)
    simp; omega
theorem live_short {n : Nat} {adj : Nat → List Nat} {L : List Nat} (h : LiveList n adj L) : L.length ≤ n :=
  Nat.le_trans (sorted_short (lo := 0) (n := n) h.sorted (fun v hv => ⟨Nat.zero_le _, ((h.mem v).1 hv).1⟩)) (by omega)
/-- Two new rows, made by one call. -/
theorem Rows.add2 {B : Nat} {w w' : World} {f : Names} {i j : Nat × Nat} {r' s' : Row} (h : Rows B w f) (hb : Below w.heap.size w w') (ho : r'.own B w') (hn : ∀ k, r'.v.ownBlock = some k → w.heap.size ≤ k) (ho2 : s'.own B w') (hn2 : ∀ k, s'.v.ownBlock = some k → w.heap.size ≤ k)
    (hne : r'.v.ownBlock = Option.none ∨ r'.v.ownBlock ≠ s'.v.ownBlock) (hij : i ≠ j) : Rows B w' (upd (upd f i (some r')) j (some s')) := by
  have h1 := h.add (i := i) hb ho hn
  have far : ∀ k t, upd f i (some r') k = some t → k ≠ j → t.v.ownBlock = Option.none ∨ t.v.ownBlock ≠ s'.v.ownBlock := fun k t hk hkj => by
    by_cases e : k = i
    · subst e
      rw [upd_same] at hk; cases hk
      exact hne
    · rw [upd_ne _ _ e] at hk
      cases hs : t.v.ownBlock with
      | none => exact .inl rfl
      | some m =>
        right; intro e2
        have := hn2 m e2.symm
        have := (h.lt hk m hs).2
        omega
  refine ⟨fun k t hk => ?_, fun k l s t hk hl hkl => ?_⟩
  · by_cases e : k = j
    · subst e; rw [upd_same] at hk; cases hk; exact ho2
    · rw [upd_ne _ _ e] at hk
      exact h1.1 k t hk
  · by_cases e : k = j
    · subst e
      rw [upd_same] at hk; cases hk
      rw [upd_ne _ _ (Ne.symm hkl)] at hl
      rcases far l t hl (Ne.symm hkl) with e2 | e2
      · cases hr : s'.v.ownBlock with
        | none => exact .inl rfl
        | some m => right; rw [e2]; simp
      · exact .inr (Ne.symm e2)
    · rw [upd_ne _ _ e] at hk
      by_cases e' : l = j
      · subst e'; rw [upd_same] at hl; cases hl
        exact far k s hk e
      · rw [upd_ne _ _ e'] at hl
        exact h1.2 k l s t hk hl hkl
theorem Rows.appV {B : Nat} {w w' : World} {f : Names} {i : Nat × Nat} {E : TypeId} {v v' : Value} {xs ys : List Value} (h : Rows B w f) (hi : f i = some (rowV E v xs)) (ho : OwnV E B w' v' ys)
    (hal : (roomOf v' = roomOf v ∧ w.grownBy w' v.ownBlock) ∨ (∃ k, v'.ownBlock = some k ∧ w.heap.size ≤ k ∧ w.grownBy w' Option.none)) : Rows B w' (upd f i (some (rowV E v' ys))) := by
  have hO := h.ownV hi
  rcases hal with ⟨hr, hg⟩ | ⟨k, hk, hks, hg⟩
  · refine h.grown (r' := rowV E v' ys) hi hg ho (.inl ?_)
    obtain ⟨a, c, e, _⟩ := hO.at
    obtain ⟨a', c', e', _⟩ := ho.at
    exact ownBlock_of_room e e' hr
  · exact h.grown (r' := rowV E v' ys) hi (grown_any hg _) ho (.inr ⟨k, hk, hks⟩)

/-- The rows of the graph, under names, with what lies beside them. -/
def nmPK (M : Nat) (t : Nat) : Nat × Nat := if t < 2 then (3, t) else if t < M + 2 then (2, t - 2) else (4, t - (M + 2))
theorem nmPK_inj {M s t : Nat} (h : nmPK M s = nmPK M t) : s = t := by
  unfold nmPK at h
  split at h <;> split at h <;> (try split at h) <;> (try split at h) <;> simp at h <;> omega
theorem nmPK_top (M t : Nat) : nmPK M t ≠ (5, 0) := by
  unfold nmPK
  split
  · simp
  · split <;> simp
theorem pk_nodes {K R : Nat} {T : List Int} (h : RuleOk K R T) (hl : T.length ≤ 32) : pw K (2 * wkR R) * pw K (2 * wkR R) ≤ 256 := by
  have h1 := h.k1
  have h4 := h.k4
  have h3 := h.r3
  rw [h.len] at hl
  have hK : K = 1 ∨ K = 2 ∨ K = 3 ∨ K = 4 := by omega
  have hR' : R = 0 ∨ R = 1 ∨ R = 2 ∨ R = 3 := by omega
  rcases hK with rfl | rfl | rfl | rfl <;> rcases hR' with rfl | rfl | rfl | rfl <;> revert hl <;> decide
theorem wn_some {B : Nat} {w : World} {f : Names} {ov : Value} {vals : List Value} {n : Nat} {F : Nat → List Int} (h : WN f ov vals n F) (hr : Rows B w f) (hn : 1 ≤ n) : ∃ p c, ov = .slice (some p) vals.length c := by
  have hO := hr.ownV h.outer
  obtain ⟨a, c, e, _⟩ := hO.at
  have hb := (hO.blkB 0 (by rw [h.len]; omega)).1
  rw [e] at hb
  cases a with
  | none => simp [Value.ownBlock] at hb
  | some p => exact ⟨p, c, e⟩
theorem wn_one {B : Nat} {w : World} {f : Names} {ov : Value} {vals : List Value} {n : Nat} {F : Nat → List Int} (h : WN f ov vals n F) (hr : Rows B w f) : ∀ u ∈ vals, u.oneCell' = true := fun u hu => by
  obtain ⟨i, hi, rfl⟩ := List.mem_iff_getElem.1 hu
  have ho := hr.ownI (h.rows i (by rw [← h.len]; exact hi))
  obtain ⟨a, n, c, e⟩ := ho.at.shape
  have e2 : vAt vals i = vals[i] := by simp [vAt, List.getD, hi]
  rw [← e2, e]; rfl

theorem pk_names {f : Names} {M : Nat} {b c : Value} {vals more : List Value} {X1 X2 : List Int} {F Y : Nat → List Int} (hl : vals.length = M) (g30 : f (3, 0) = some (rowI b X1)) (g31 : f (3, 1) = some (rowI c X2))
    (g2 : ∀ u, u < M → f (2, u) = some (rowI (vAt vals u) (F u))) (g4 : ∀ t, t < more.length → f (4, t) = some (rowI (vAt more t) (Y t))) :
    ∀ t, t < (([b, c] ++ vals) ++ more).length → f (nmPK M t) = some (rowI (vAt (([b, c] ++ vals) ++ more) t) (if t < 2 then (if t = 0 then X1 else X2) else if t < M + 2 then F (t - 2) else Y (t - (M + 2)))) := by
  intro t ht
  simp at ht
  match t, ht with
  | 0, _ => exact g30
  | 1, _ => exact g31
  | t + 2, ht =>
    rw [if_neg (show ¬ t + 2 < 2 by omega)]
    by_cases h : t + 2 < M + 2
    · have e : nmPK M (t + 2) = (2, t) := by unfold nmPK; rw [if_neg (by omega), if_pos h]; rfl
      rw [if_pos h, e, g2 t (by omega)]
      congr 2
      unfold vAt
      simp [List.getD, List.getElem?_append, show t < vals.length by omega]
    · obtain ⟨s, rfl⟩ : ∃ s, t = M + s := ⟨t - M, by omega⟩
      have e : nmPK M (M + s + 2) = (4, s) := by unfold nmPK; rw [if_neg (by omega), if_neg h, show M + s + 2 - (M + 2) = s by omega]
      rw [if_neg h, e, show M + s + 2 - (M + 2) = s by omega, g4 s (by omega)]
      congr 2
      unfold vAt
      simp [List.getD, List.getElem?_append, show ¬ M + s < vals.length by omega, show M + s - vals.length = s by omega]
theorem pk_short {n M : Nat} {X1 X2 : List Int} {F Y : Nat → List Int} (h1 : X1.length ≤ 256) (h2 : X2.length ≤ 256) (hF : ∀ t, (F t).length ≤ 100) (hY : ∀ t, (Y t).length ≤ 1099511627776) :
    ∀ t, t < n → (if t < 2 then (if t = 0 then X1 else X2) else if t < M + 2 then F (t - 2) else Y (t - (M + 2))).length ≤ 1099511627776 := by
  intro t _
  have := hF (t - 2)
  split
  · split <;> omega
  · split
    · omega
    · exact hY _

end Go.Proofs.YtmhiambkfdkkbaaDoor
