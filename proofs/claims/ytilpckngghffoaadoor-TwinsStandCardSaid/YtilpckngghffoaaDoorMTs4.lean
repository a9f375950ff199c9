/-
  Walk: pairs.Graph.
  Walk: pairs.Words.
  Walk: pairs.look.
  Walks: twins.symbols, twins.image.
  Walk: row.Step at right rows and rules.
  Walk: twins.Check at a small rule.
  Plain mathematics: breadth first from the pairs of equal nodes through the pairs that are apart; the first that is met again is met by a shortest way.
  Plain mathematics: the search of twins.meet as a function: what it meets is determined.
  Walk: forms.made at a function that has captured one variable.
  Walks: forms.Mirror and the function that it hands to forms.made.
  Walks: slices.Index, forms.Rename and the function that it hands to forms.made.
  Plain mathematics: twins of a rule with the radius 0, how short twins are at least, and the determined result of twins.Finite.
  Walk: twins.single.
  Walks: slices.DeleteFunc (its contract off the shelf) at the function that pairs.Apart hands it.
  Plain mathematics: among the pairs of equal nodes there is a way from each to each.
  Walk: graph's search begins a vertex.
  Walk: graph's search ends a vertex.
  Walk: graph's search goes through all that a vertex reaches.
  Plain mathematics: numbers given one after another, as new ones come.
  A map from ints to ints that the call made: what is looked up, stored; how many keys it has (the kit's laws on maps, at these types).
  Walk: graph.Parts.
  Walk: graph.reach: what can be reached from the marked vertices.
  Walk: graph.Live.
  Walk: edenref12.Check.
  Walks: pairs.Graph at what is no small rule; pairs.Apart.
  Walk: graph.Path.
  Walk: graph.Loop.
  The chapter's graph: its parts, its live vertices, its way from 0 to 4, as plain mathematics; the walk that makes it.
  Walks: the helpers of edenlaw12: awake, heavy, vertex, leads, goes.
  Walk: edenlaw12.goes at a way.
-/
import Derived.Test.YtilpckngghffoaaDoorMTs3
import Derived.Deep.DeepCutAuto
import Derived.Ground.SlgfProg
import Derived.Shelf.Lay
import Derived.Shelf.SlGeneric
import Derived.Shelf.SlicesE.DeleteFunc
import Derived.Lib.SliceRun
import Derived.Deep.LoopGhost
import Derived.Maps.OwnSet
import Derived.WalkArith
namespace Go.Proofs.YtilpckngghffoaaDoor
open Go.RowKit
set_option maxRecDepth 100000

theorem lenArr (g K c : Nat) (w : World) : (Builtin.len_ #[63] 3 #[.slice (some ⟨g, 0, none⟩) K c]).run Tryd.prog w = .ok (.int .i64 K) w := by
  rw [run_len_slice _ _ _ _ _ _ (by kernel_rfl)]; rfl
theorem idxArr (g K c s : Nat) (hs : s < K) (w : World) : (Instr.indexAt 63 (.slice (some ⟨g, 0, none⟩) K c) (.int .i64 s)).run Tryd.prog w = .ok (.pointer (some ⟨g, s * 2, none⟩)) w := by
  have e : Tryd.prog.elem 63 = 65 := by kernel_rfl
  have hz : ∀ w : World, (sizeOf 65).run Tryd.prog w = .ok 2 w := fun w => by kernel_rfl
  rw [run_indexAt_slice _ _ _ _ _ _ _ (by rw [e]; kernel_rfl), if_pos (by omega), e, hz]
  simp only [Result.andThen, Addr.add, Int.toNat_natCast]
  by_cases e : s * 2 = 0
  · rw [if_pos e]
    simp only [e]
  · rw [if_neg e]
    simp
/-- While the lists are written. -/
def pairTo (K N : Nat) (T : List Int) (k p : Nat) : List Int := if p < k then castI (pairL K N T p) else []
theorem pairTo_zero (K N : Nat) (T : List Int) : pairTo K N T 0 = fun _ => [] := by funext p; unfold pairTo; rw [if_neg (by omega)]
theorem pairTo_step (K N : Nat) (T : List Int) (k : Nat) : updN (pairTo K N T k) k (castI (pairL K N T k)) = pairTo K N T (k + 1) := by
  funext p
  unfold pairTo
  by_cases e : p = k
  · subst e; rw [updN_same, if_pos (by omega)]
  · rw [updN_other _ _ _ e]
    by_cases h : p < k
    · rw [if_pos h, if_pos (by omega)]
    · rw [if_neg h, if_neg (by omega)]
/-- The graph of pairs. -/
def pairG (K N : Nat) (T : List Int) : List (List Int) := rowsOf (N * N) fun p => castI (pairL K N T p)
theorem cell_grown {w w' : World} {row : Option Nat} {p : Addr} {v : Value} (hg : w.grownBy w' row) (h : w.cell? p = some v) (hne : row ≠ some p.block) : w'.cell? p = some v :=
  (World.cell?_of_block (hg.block _ (World.block_lt_of_cell? _ _ h) (fun e => hne e.symm))).trans h
theorem Rows.monoB {B B' : Nat} {w : World} {f : Names} (h : Rows B w f) (hB : B' ≤ B) : Rows B' w f :=
  ⟨fun i r hi => by
    have ho := h.1 i r hi
    refine ⟨ho.1, ?_⟩
    rcases ho.2 with h2 | ⟨g, cap, cur, e, hb, r⟩
    · exact .inl h2
    · exact .inr ⟨g, cap, cur, e, Nat.le_trans hB hb, r⟩, h.2⟩

set_option maxHeartbeats 1000000 in
theorem pgraph_ok (r : Nat → Addr) (K R : Nat) (va : Option Addr) (vn vc : Nat) (T : List Int) (w : World) (hg : Glob r w) (h : IntsAt w (.slice va vn vc) T) (hr : RuleOk K R T) (hl : T.length ≤ 256) :
    Calls Tryd.prog 11 #[.agg #[.int .i64 K, .int .i64 R, .slice va vn vc]] w (Ret2 (fun x y w' => y = .nilIface ∧ ∃ f vals, Rows w.heap.size w' f ∧ WN f x vals (pw K (2 * wkR R) * pw K (2 * wkR R)) (fun p => castI (pairL K (pw K (2 * wkR R)) (wkT K R T) p))) w) := by
  have b0 := belowAlloc w (.cells #[.int .i64 K, .int .i64 R, .slice va vn vc] 24)
  have q : Box3 (w.alloc (.cells #[.int .i64 K, .int .i64 R, .slice va vn vc] 24)) w.heap.size (.int .i64 K) (.int .i64 R) (.slice va vn vc) := by simp [Box3, go_sem]
  have hk1 := hr.k1
  have hk4 := hr.k4
  have hokW := wk_ok hr
  have hlW := wk_small hr hl
  have hRW := wk_pos R
  have hN81 := nodes_le hokW hRW hlW
  obtain ⟨hdiv, hlen⟩ := hokW.half
  have hN1 := pw_pos (K := K) (2 * wkR R) hk1
  have hwork := fun (w' : World) (hgl : Glob r w') (hT : IntsAt w' (.slice va vn vc) T) => working_ok r K R va vn vc T w' hgl hT hr hl
  have harr := fun (a : Option Addr) (n c : Nat) (w' : World) (hgl : Glob r w') (hT : IntsAt w' (.slice a n c) (wkT K R T)) => arrows_any r K (wkR R) a n c (wkT K R T) w' hgl hT hokW hlW
  rw [hdiv] at harr
  generalize pw K (2 * wkR R) = N at *
  generalize wkT K R T = T' at *
  generalize wkR R = R' at *
  replace hwork := Lib.hid hwork
  replace harr := Lib.hid harr
  replace hg := Lib.hid (hg.below b0)
  replace h := Lib.hid (h.below b0)
  replace hokW := Lib.hid hokW
  replace hr := Lib.hid hr
  replace hdiv := Lib.hid hdiv
  replace hlen := Lib.hid hlen
  go_enter Tryd.func11, Tryd.ntmps11
  go_wp2_with fail
  refine (hwork.out _ hg.out h.out).mono ?_
  rintro e w1 ⟨x, y, rfl, b1, rfl, a, n, c, rfl, hT1⟩
  have b01 := Below.step b0 b1
  have ba := belowAlloc w1 (.cells #[.int .i64 K, .int .i64 R', .slice a n c] 24)
  have q1 : Box3 (w1.alloc (.cells #[.int .i64 K, .int .i64 R', .slice a n c] 24)) w1.heap.size (.int .i64 K) (.int .i64 R') (.slice a n c) := by simp [Box3, go_sem]
  have b02 := Below.step b01 ba
  have b12 := Below.step b1 ba
  have hT2 := hT1.below ba
  clear q
  replace hT1 := Lib.hid hT1
  replace hT2 := Lib.hid hT2
  go_wp2_with fail
  refine (harr.out a n c _ (hg.out.below b12) hT2.out).mono ?_
  rintro e w3 ⟨lv, rfl, b3, hA⟩
  have b03 := Below.step b02 b3
  clear q1
  obtain ⟨vs, hvs, hvl, hrows⟩ := hA
  obtain ⟨la, ln, lc, rfl⟩ := hvs.shape
  have ll := fun w' => hvs.len oneArrows 3 w'
  rw [hvl] at ll
  have hNN : (N : Int) * (N : Int) = ((N * N : Nat) : Int) := by simp
  have hM6 : N * N ≤ 6561 := Nat.mul_le_mul hN81 hN81
  have hNz1 : ¬ (N : Int) = 0 := by omega
  have hNz2 : ((N : Int) == 0) = false := by rw [beq_eq_false_iff_ne]; omega
  have hNz3 : (0 : Int) < N := by omega
  have hNz4 : ¬ N = 0 := by omega
  obtain ⟨M, hM⟩ : ∃ M, N * N = M := ⟨_, rfl⟩
  rw [hM] at hNN hM6
  have hwM : IntKind.i64.wrap (M : Int) = M := wrapK (by omega) (by omega)
  obtain ⟨ov, w4, mk, ho, hb4⟩ := run_makeW oneLists (M : Int) M w3 rfl (by omega)
  obtain ⟨f1, hr1, h1⟩ := WN.made M hb4 (Nat.le_refl _) ho
  obtain ⟨oa, on, oc, rfl⟩ := ho.shape
  have lo := fun w' => (ho.at).len oneLists 3 w'
  rw [List.length_replicate] at lo
  rw [← pairTo_zero K N T'] at h1
  replace hvs := Lib.hid hvs
  replace hrows := Lib.hid hrows
  replace hr1 := Lib.hid hr1
  replace ho := Lib.hid ho
  replace hM := Lib.hid hM
  go_wp2_with fail
  clear mk lo ll
  go_loopw [33] (fun kv wr => ∃ (k : Nat) (f : Names) (vals : List Value), k ≤ M ∧ kv = .int .i64 k ∧ Rows w3.heap.size wr f ∧ Below w3.heap.size w3 wr ∧ WN f (.slice oa on oc) vals M (pairTo K N T' k)) (fun kv _ => M - (intOf kv).toNat)
  case atStart => exact ⟨0, f1, _, by omega, rfl, hr1.out, hb4, h1⟩
  case round =>
    clear h1 ho hr1 hb4
    obtain ⟨k, f2, vals, hk, rfl, hr2, b2, h2⟩ := hrel
    obtain ⟨wo, rfl⟩ : ∃ wo : World, wo = wr := ⟨_, rfl⟩
    by_cases hlt : k < M
    · obtain ⟨u, hu⟩ : ∃ u, k / N = u := ⟨_, rfl⟩
      obtain ⟨v, hv⟩ : ∃ v, k % N = v := ⟨_, rfl⟩
      have hun : u < N := by rw [← hu]; exact div_lt_of (by rw [hM.out]; exact hlt)
      have hvn : v < N := by rw [← hv]; exact Nat.mod_lt _ (by omega)
      have hqu : (k : Int) / (N : Int) = (u : Int) := by rw [← hu]; simp
      have hqv : (k : Int) % (N : Int) = (v : Int) := by rw [← hv]; simp
      have hqu2 : (k : Int).tdiv (N : Int) = (u : Int) := by rw [Int.tdiv_eq_ediv_of_nonneg (by omega)]; exact hqu
      have hqv2 : (k : Int).tmod (N : Int) = (v : Int) := by rw [Int.tmod_eq_emod_of_nonneg (by omega)]; exact hqv
      have hwu : IntKind.i64.wrap (u : Int) = u := wrapK (by omega) (by omega)
      have hwv : IntKind.i64.wrap (v : Int) = v := wrapK (by omega) (by omega)
      obtain ⟨gu, cu, eu, hcu, hcellU⟩ := hrows.out u hun
      obtain ⟨gv, cv, ev, hcv, hcellV⟩ := hrows.out v hvn
      have iU := fun w' => hvs.out.idx oneArrows u (by omega) w'
      have iV := fun w' => hvs.out.idx oneArrows v (by omega) w'
      have cU3 := hvs.out.cellV u (by omega)
      have cV3 := hvs.out.cellV v (by omega)
      rw [eu] at cU3
      rw [ev] at cV3
      have cU := (b2.cell (World.block_lt_of_cell? _ _ cU3)).trans cU3
      generalize valAt (.slice la ln lc) u = ua at *
      have lenU := lenArr gu K cu
      have lenV := lenArr gv K cv
      have idxU := fun s (hs : s < K) w' => idxArr gu K cu s hs w'
      have idxV := fun s (hs : s < K) w' => idxArr gv K cv s hs w'
      have hcU := fun (w' : World) (hb : Below w3.heap.size w3 w') s (hs : s < K) => (⟨cell_keep hb (hcellU s hs).1, cell_keep hb (hcellU s hs).2⟩ : w'.cell? ⟨gu, s * 2, none⟩ = some (.int .i64 (toN K N u s)) ∧ w'.cell? ⟨gu, s * 2 + 1, none⟩ = some (.int .i64 (labN K T' u s)))
      have hcV := fun (w' : World) (hb : Below w3.heap.size w3 w') s (hs : s < K) => (⟨cell_keep hb (hcellV s hs).1, cell_keep hb (hcellV s hs).2⟩ : w'.cell? ⟨gv, s * 2, none⟩ = some (.int .i64 (toN K N v s)) ∧ w'.cell? ⟨gv, s * 2 + 1, none⟩ = some (.int .i64 (labN K T' v s)))
      have cVk := fun (w' : World) (hb : Below w3.heap.size w3 w') => (hb.cell (World.block_lt_of_cell? _ _ cV3)).trans cV3
      generalize valAt (.slice la ln lc) v = va' at *
      replace hcU := Lib.hid hcU
      replace hcV := Lib.hid hcV
      replace cVk := Lib.hid cVk
      replace idxU := Lib.hid idxU
      replace idxV := Lib.hid idxV
      replace hcellU := Lib.hid hcellU
      replace hcellV := Lib.hid hcellV
      replace hr2 := Lib.hid hr2
      replace hu := Lib.hid hu
      replace hv := Lib.hid hv
      replace eu := Lib.hid eu
      replace ev := Lib.hid ev
      clear cU3 cV3
      go_wp2_with fail
      clear cU iU
      go_loopw [10, 43] (fun tv sv wr => ∃ (s : Nat) (tw : Value), s ≤ K ∧ sv = .int .i64 s ∧ tw = tv ∧ OwnI wo.heap.size wr tw (castI (rawP K N T' u v s)) ∧ Below wo.heap.size wo wr) (fun _ sv _ => K - (intOf sv).toNat)
      case atStart => exact ⟨0, _, by omega, rfl, rfl, OwnI.nil _ _, Below.refl _ _⟩
      case round =>
        obtain ⟨s, tv, hs, rfl, rfl, hoT, bT⟩ := hrel
        obtain ⟨wt, rfl⟩ : ∃ wt : World, wt = wr := ⟨_, rfl⟩
        by_cases hsl : s < K
        · have b3t := b2.trans (bT.mono b2.size)
          have iS := fun w' => idxU.out s hsl w'
          obtain ⟨cS0, cS1⟩ := hcU.out wt b3t s hsl
          obtain ⟨X, hX⟩ : ∃ X, toN K N u s = X := ⟨_, rfl⟩
          obtain ⟨Y, hY⟩ : ∃ Y, labN K T' u s = Y := ⟨_, rfl⟩
          rw [hX] at cS0
          rw [hY] at cS1
          have hXN : X < N := by rw [← hX]; exact toN_lt (by omega)
          have bA := belowAlloc wt (.cells #[.int .i64 X, .int .i64 Y] 65)
          have bTA := bT.trans (bA.mono bT.size)
          have b3A := b3t.trans (bA.mono b3t.size)
          have cA0 : (wt.alloc (.cells #[.int .i64 X, .int .i64 Y] 65)).cell? ⟨wt.heap.size, 0, none⟩ = some (.int .i64 X) := by simp [go_sem]
          have cA1 : (wt.alloc (.cells #[.int .i64 X, .int .i64 Y] 65)).cell? ⟨wt.heap.size, 1, none⟩ = some (.int .i64 Y) := by simp [go_sem]
          have cV := cVk.out _ b3A
          have hoA := hoT.below bA
          have hneT : tv.ownBlock ≠ some wt.heap.size := fun e => by have := (hoT.lt _ e).2; omega
          replace hoT := Lib.hid hoT
          replace hoA := Lib.hid hoA
          replace hX := Lib.hid hX
          replace hY := Lib.hid hY
          replace cA0 := Lib.hid cA0
          replace cA1 := Lib.hid cA1
          go_wp2_with fail
          obtain ⟨wa, hwa⟩ : ∃ wa : World, wa = wt.alloc (.cells #[.int .i64 X, .int .i64 Y] 65) := ⟨_, rfl⟩
          rw [← hwa] at bA bTA b3A cA0 cA1 cV hoA ⊢
          replace hwa := Lib.hid hwa
          go_loopw [10, 54] (fun tv' jv wr => ∃ (j : Nat) (tw : Value), j ≤ K ∧ jv = .int .i64 j ∧ tw = tv' ∧ OwnI wo.heap.size wr tw (castI (rawP K N T' u v s ++ rawS K N T' u v s j)) ∧ Below wo.heap.size wo wr ∧ tw.ownBlock ≠ some wt.heap.size ∧ wr.cell? ⟨wt.heap.size, 0, none⟩ = some (.int .i64 X) ∧ wr.cell? ⟨wt.heap.size, 1, none⟩ = some (.int .i64 Y)) (fun _ jv _ => K - (intOf jv).toNat)
          case atStart => exact ⟨0, _, by omega, rfl, rfl, by simpa [rawS] using hoA.out, bTA, hneT, cA0.out, cA1.out⟩
          case round =>
            obtain ⟨j, tj, hj, rfl, rfl, hoJ, bJ, hne, y0, y1⟩ := hrel
            obtain ⟨wj, rfl⟩ : ∃ wj : World, wj = wr := ⟨_, rfl⟩
            by_cases hjl : j < K
            · have b3j := b2.trans (bJ.mono b2.size)
              have iJ := fun w' => idxV.out j hjl w'
              obtain ⟨cJ0, cJ1⟩ := hcV.out wj b3j j hjl
              obtain ⟨X2, hX2⟩ : ∃ X, toN K N v j = X := ⟨_, rfl⟩
              obtain ⟨Y2, hY2⟩ : ∃ Y, labN K T' v j = Y := ⟨_, rfl⟩
              rw [hX2] at cJ0
              rw [hY2] at cJ1
              have hXN2 : X2 < N := by rw [← hX2]; exact toN_lt (by omega)
              have bA2 := belowAlloc wj (.cells #[.int .i64 X2, .int .i64 Y2] 65)
              have y0' := cell_keep bA2 y0
              have y1' := cell_keep bA2 y1
              have bJA := bJ.trans (bA2.mono bJ.size)
              have hoJA := hoJ.below bA2
              have hsz := bJA.size
              have hwt : wt.heap.size < wj.heap.size := World.block_lt_of_cell? _ _ y0
              have hlenJ : (castI (rawP K N T' u v s ++ rawS K N T' u v s j)).length ≤ 100 := by
                rw [castI_len, List.length_append]
                have e1 := rawP_len K N T' u v s
                have e2 := rawS_len K N T' u v s j
                have e3 := Nat.mul_le_mul hs hk4
                omega
              replace hoJ := Lib.hid hoJ
              replace hX2 := Lib.hid hX2
              replace hY2 := Lib.hid hY2
              have cB0 : (wj.alloc (.cells #[.int .i64 X2, .int .i64 Y2] 65)).cell? ⟨wj.heap.size, 0, none⟩ = some (.int .i64 X2) := by simp [go_sem]
              have cB1 : (wj.alloc (.cells #[.int .i64 X2, .int .i64 Y2] 65)).cell? ⟨wj.heap.size, 1, none⟩ = some (.int .i64 Y2) := by simp [go_sem]
              go_upto_region 17 with fail
              obtain ⟨wb, hwb⟩ : ∃ wb : World, wb = wj.alloc (.cells #[.int .i64 X2, .int .i64 Y2] 65) := ⟨_, rfl⟩
              rw [← hwb] at bA2 y0' y1' bJA hoJA hsz cB0 cB1 ⊢
              have hszb : wj.heap.size < wb.heap.size := World.block_lt_of_cell? _ _ cB0
              replace hszb := Lib.hid hszb
              replace hwb := Lib.hid hwb
              by_cases hYY : Y = Y2
              · have hYq : (Y == Y2) = true := by rw [beq_iff_eq]; exact hYY
                have hraw : rawS K N T' u v s (j + 1) = rawS K N T' u v s j ++ [X * N + X2] := by
                  rw [rawS_succ]; unfold rawT
                  rw [hY.out, hY2.out, hX.out, hX2.out, if_pos hYY]
                obtain ⟨m, hm⟩ : ∃ m, X * N = m := ⟨_, rfl⟩
                have hm1 : (X : Int) * (N : Int) = (m : Int) := by rw [← hm]; simp
                have hml : m ≤ 6561 := by rw [← hm]; exact Nat.le_trans (Nat.mul_le_mul (show X ≤ 81 by omega) hN81) (by decide)
                have hwm : IntKind.i64.wrap (m : Int) = m := wrapK (by omega) (by omega)
                have hsum : (m : Int) + (X2 : Int) = ((m + X2 : Nat) : Int) := by simp
                rw [hm] at hraw
                obtain ⟨z, hz⟩ : ∃ z, m + X2 = z := ⟨_, rfl⟩
                rw [hz] at hsum hraw
                have hzl : z ≤ 7000 := by omega
                have hwz : IntKind.i64.wrap (z : Int) = z := wrapK (by omega) (by omega)
                replace hraw := Lib.hid hraw
                replace hm := Lib.hid hm
                replace hz := Lib.hid hz
                replace hYY := Lib.hid hYY
                go_wp2_with (at_builtin; go_loud (refine wpl_app1 rfl _ _ rfl wo.heap.size tj _ z hoJA rfl rfl (by omega) hsz ?_))
                intro v' w7 ho7 b7 hal
                have hne' : v'.ownBlock ≠ some wt.heap.size := by
                  rcases hal with ⟨q1, _⟩ | ⟨m, q1, q2, _⟩
                  · rw [ownBlock_eq hoJA ho7 q1]; exact hne
                  · rw [q1]; intro e; injection e with e; have := hszb.out; omega
                have y07 : w7.cell? ⟨wt.heap.size, 0, none⟩ = some (.int .i64 X) ∧ w7.cell? ⟨wt.heap.size, 1, none⟩ = some (.int .i64 Y) := by
                  rcases hal with ⟨_, q2⟩ | ⟨_, _, _, q2⟩
                  · exact ⟨cell_grown q2 y0' hne, cell_grown q2 y1' hne⟩
                  · exact ⟨cell_grown q2 y0' (by simp), cell_grown q2 y1' (by simp)⟩
                obtain ⟨ta, tn, tc, rfl⟩ := ho7.at.shape
                replace ho7 := Lib.hid ho7
                replace y07 := Lib.hid y07
                clear hal
                go_wp2
                go_roundw
                case measure => simp [intOf]; omega
                case rel => exact ⟨j + 1, _, by omega, by go_num, rfl, by rw [hraw.out, ← List.append_assoc, castI_snoc]; exact ho7.out, bJA.trans b7, hne', y07.out.1, y07.out.2⟩
              · have hYq : (Y == Y2) = false := by rw [beq_eq_false_iff_ne]; exact hYY
                have hraw : rawS K N T' u v s (j + 1) = rawS K N T' u v s j := by
                  rw [rawS_succ]; unfold rawT
                  rw [hY.out, hY2.out, if_neg hYY, List.append_nil]
                replace hraw := Lib.hid hraw
                replace hoJA := Lib.hid hoJA
                replace hYY := Lib.hid hYY
                go_wp2
                go_roundw
                case measure => simp [intOf]; omega
                case rel => exact ⟨j + 1, _, by omega, by go_num, rfl, by rw [hraw.out]; exact hoJA.out, bJA, hne, y0', y1'⟩
            · obtain rfl : j = K := by omega
              rw [← rawP_succ] at hoJ
              replace hoJ := Lib.hid hoJ
              go_wp2
              go_roundw
              case measure => simp [intOf]; omega
              case rel => exact ⟨s + 1, _, by omega, by go_num, rfl, hoJ.out, bJ⟩
        · obtain rfl : s = K := by omega
          have hlT : (castI (rawP s N T' u v s)).length ≤ 17592186044416 := by
            rw [castI_len]
            have e1 := rawP_len s N T' u v s
            have e3 := Nat.mul_le_mul hk4 hk4
            omega
          have hsz := bT.size
          replace hoT := Lib.hid hoT
          go_wp2_with fail
          refine (sort_own wo.heap.size tv _ wt hoT.out hlT hsz).mono ?_
          rintro e w8 ⟨rfl, ho8, b8⟩
          have bT8 := bT.trans b8
          replace ho8 := Lib.hid ho8
          go_wp2_with fail
          refine (compact_own wo.heap.size tv _ w8 ho8.out (by rw [srt_length]; omega)).mono ?_
          rintro e w9 ⟨x, rfl, _, ho9, b9⟩
          have bT9 := bT8.trans b9
          have hded : ded (srt (castI (rawP s N T' u v s))) (srt (castI (rawP s N T' u v s))).length = castI (pairL s N T' k) := by
            refine ded_pair (by omega) (srt_sorted _) (fun x => ?_)
            rw [srt_mem, hu.out, hv.out]; rfl
          rw [hded] at ho9
          have hnew := h2.new hr2.out k bT9 b2.size ho9
          obtain ⟨y1, y2, y3, f8, hr8, h8, _⟩ := h2.put hlt hnew
          rw [pairTo_step] at h8
          have iO := fun w' => ((hr2.out.ownV h2.outer).at).idx oneLists k (by rw [h2.len]; exact hlt) w'
          generalize valAt (.slice oa on oc) k = ka at *
          obtain ⟨xa, xn, xc, rfl⟩ := ho9.at.shape
          have b39 := b2.trans (bT9.mono b2.size)
          replace hr8 := Lib.hid hr8
          replace ho9 := Lib.hid ho9
          replace hded := Lib.hid hded
          replace hnew := Lib.hid hnew
          go_wp2
          go_roundw
          case measure => simp [intOf]; omega
          case rel => exact ⟨k + 1, f8, _, by omega, by go_num, hr8.out, b39.setCell y3 _, h8⟩
    · obtain rfl : k = M := by omega
      have hR := hr2.monoB (Nat.le_trans b03.size (Nat.le_refl _))
      have hW : WN f2 (.slice oa on oc) vals (N * N) (fun p => castI (pairL K N T' p)) := by
        rw [hM.out]
        exact ⟨h2.outer, h2.len, fun u hu => by rw [h2.rows u hu]; unfold pairTo; rw [if_pos hu]⟩
      have bE := Below.step b03 b2
      replace hR := Lib.hid hR
      replace hr2 := Lib.hid hr2
      go_wp2
      go_ret2
      exact ⟨_, _, rfl, bE, rfl, _, _, hR.out, hW⟩
end Go.Proofs.YtilpckngghffoaaDoor

namespace Go.Proofs.YtilpckngghffoaaDoor
open Go.RowKit
set_option maxRecDepth 100000

theorem Rows.void (B : Nat) (w : World) : Rows B w (fun _ => Option.none) := by
  refine ⟨?_, ?_⟩
  · intro i r h; cases h
  · intro i j r s h; cases h
theorem Rows.push {B : Nat} {w w1 : World} {f : Names} {i : Nat × Nat} {v v' : Value} {xs : List Int} (h : Rows B w f) (hi : f i = some (rowI v xs)) (x : Int) (ho : OwnI B w1 v' (xs ++ [x]))
    (hg : w.grownBy w1 v.ownBlock) (hal : v'.ownBlock = v.ownBlock ∨ ∃ k, v'.ownBlock = some k ∧ w.heap.size ≤ k) : Rows B w1 (upd f i (some (rowI v' (xs ++ [x])))) :=
  h.grown (r' := rowI v' (xs ++ [x])) hi hg ho hal
theorem alongW_snoc (K m : Nat) (F : Nat → Nat) (l : List Nat) (p : Nat) (hl : l ≠ []) : alongW K m F (l ++ [p]) = alongW K m F l ++ [((F p % K : Nat) : Int)] := by
  cases l with
  | nil => exact absurd rfl hl
  | cons a l => simp [alongW, List.getD]
theorem alongW_one (K m : Nat) (F : Nat → Nat) (p : Nat) : alongW K m F [p] = digs K m (F p) := by simp [alongW, List.getD]

/-- pairs.wrong. -/
theorem pairs_wrong (r : Nat → Addr) (at_ n : Int) (w : World) (hg : Glob r w) (h1 : 1 ≤ n) (h2 : n ≤ 11) :
    Calls Tryd.prog 38 #[.int .i64 at_, .int .i64 n] w (Ret1 (fun v w' => ErrIs r w' (fresh sPairs at_ n) v) w) := by
  go_enter Tryd.func38, Tryd.ntmps38
  go_wp2_with fail
  refine (new_any r _ at_ n w hg h1 h2).mono ?_
  rintro e w' ⟨v, rfl, hb, he⟩
  go_wp2
  go_ret
  exact ⟨_, rfl, hb, he⟩

def AllFit (K N : Nat) (T : List Int) (ns : List Nat) : Prop := ∀ i, i + 1 < ns.length → StepFits K N T (ns.getD i 0) (ns.getD (i + 1) 0)
end Go.Proofs.YtilpckngghffoaaDoor

namespace Go.Proofs.YtilpckngghffoaaDoor
open Go.RowKit
set_option maxRecDepth 100000

end Go.Proofs.YtilpckngghffoaaDoor

namespace Go.Proofs.YtilpckngghffoaaDoor
open Go.RowKit
set_option maxRecDepth 100000

theorem symbols1_any (x k : Int) (b : Nat) (w : World) (hb : w.cell? ⟨b, 0, none⟩ = some (.int .i64 k)) :
    Calls Tryd.prog 44 #[.int .i64 x, .pointer (some ⟨b, 0, none⟩)] w fun e w' => e = .returned (.bool (odd1 k x)) ∧ w = w' := by
  by_cases h : x < 0
  · have e : odd1 k x = true := by simp [odd1, h]
    rw [e]
    go_enter Tryd.func44, Tryd.ntmps44
    go_wp2
    go_ret
    exact ⟨rfl, rfl⟩
  · have e : odd1 k x = decide (k ≤ x) := by simp [odd1, h]
    rw [e]
    go_enter Tryd.func44, Tryd.ntmps44
    go_wp2
    go_ret
    exact ⟨ret_bool (by simp), rfl⟩
theorem eg_symbols1 (args : Array Value) (w : World) : (callFunc 44 args).run Tryd.prog w = .ok (.enter 44 args) w := by kernel_rfl
theorem symbols_any (k : Int) (u : Value) (xs : List Int) (w : World) (hu : IntsAt w u xs) :
    Calls Tryd.prog 19 #[.int .i64 k, u] w (Ret1 (fun x _ => x = .int .i64 (idxOf (odd1 k) xs)) w) := by
  have b0 := belowAlloc w (.cells #[.int .i64 k] 3)
  have z0 : (w.alloc (.cells #[.int .i64 k] 3)).cell? ⟨w.heap.size, 0, none⟩ = some (.int .i64 k) := by simp [go_sem]
  have hI := indexFunc_any u (.pointer (some ⟨w.heap.size, 0, none⟩)) 44 xs (odd1 k) (w.alloc (.cells #[.int .i64 k] 3)) (hu.below b0) eg_symbols1 (fun x _ => symbols1_any x k w.heap.size _ z0)
  replace hI := Lib.hid hI
  go_enter Tryd.func19, Tryd.ntmps19
  go_wp2_with fail
  refine hI.out.mono ?_
  rintro e w1 ⟨rfl, rfl⟩
  go_wp2
  go_ret
  exact ⟨_, rfl, b0, rfl⟩

/-- How long a slice value says it is. -/
def sliceL : Value → Nat
  | .slice _ n _ => n
  | _ => 0
theorem sliceL_of {w : World} {v : Value} {xs : List Int} (h : IntsAt w v xs) : sliceL v = xs.length := by
  obtain ⟨a, cap, rfl, _⟩ := h; rfl

set_option maxHeartbeats 2000000 in
theorem timage_ok (K R : Nat) (va : Option Addr) (vn vc : Nat) (T : List Int) (u : Value) (x : List Int) (w : World) (h : IntsAt w (.slice va vn vc) T) (hr : RuleOk K R T) (hu : IntsAt w u x) (hx : Syms K x) (hl : x.length ≤ 100000) :
    Calls Tryd.prog 21 #[.agg #[.int .i64 K, .int .i64 R, .slice va vn vc], u] w (Ret1 (fun v w' => OwnI w.heap.size w' v (imgP K R T x)) w) := by
  have b0 := belowAlloc w (.cells #[.int .i64 K, .int .i64 R, .slice va vn vc] 24)
  have q : Box3 (w.alloc (.cells #[.int .i64 K, .int .i64 R, .slice va vn vc] 24)) w.heap.size (.int .i64 K) (.int .i64 R) (.slice va vn vc) := by simp [Box3, go_sem]
  have hR3 := hr.r3
  replace h := Lib.hid (h.below b0)
  replace hu := Lib.hid (hu.below b0)
  replace hr := Lib.hid hr
  replace hx := Lib.hid hx
  obtain ⟨W0, hW0⟩ : ∃ W : World, w.alloc (.cells #[.int .i64 K, .int .i64 R, .slice va vn vc] 24) = W := ⟨_, rfl⟩
  have s0 : w.heap.size ≤ W0.heap.size := by rw [← hW0]; simp
  rw [hW0] at h hu q b0
  replace hW0 := Lib.hid hW0
  go_enter Tryd.func21, Tryd.ntmps21
  go_upto_region 2 with fail
  rw [hW0.out]
  clear hW0
  go_loopw [1, 5] (fun uv ov wr => ∃ (k : Nat) (uw ow : Value), uw = uv ∧ ow = ov ∧ k ≤ x.length - 2 * R ∧ IntsAt W0 uw (x.drop k) ∧ OwnI W0.heap.size wr ow ((imgP K R T x).take k) ∧ Below W0.heap.size W0 wr) (fun uv _ _ => sliceL uv)
  case atStart => exact ⟨0, _, _, rfl, rfl, Nat.zero_le _, hu.out, OwnI.nil _ _, Below.refl _ _⟩
  case round =>
    obtain ⟨k, uw, ow, rfl, rfl, hk, hU0, hO, hB⟩ := hrel
    have hU := hU0.below hB
    obtain ⟨wo, rfl⟩ : ∃ wo : World, wo = wr := ⟨_, rfl⟩
    have lU := hU.len
    rw [List.length_drop] at lU
    obtain ⟨⟨z0, z1, z2⟩, -, -, -⟩ := q.below hB
    by_cases hgt : 2 * R < x.length - k
    · obtain ⟨m, hm⟩ : ∃ m, min (x.length - k) 4096 = m := ⟨_, rfl⟩
      have hm1 : m ≤ x.length - k := by omega
      have hm2 : m ≤ 4096 := by omega
      have hm3 : 2 * R < m := by omega
      obtain ⟨pv, hsl, hP⟩ := hU.front m (by rw [List.length_drop]; omega)
      have hT := h.out.below hB
      obtain ⟨ua, un, uc, rfl⟩ := hU.shape
      obtain ⟨pa, pn, pc, rfl⟩ := hP.shape
      replace hP := Lib.hid hP
      replace hU := Lib.hid hU
      replace hO := Lib.hid hO
      replace hT := Lib.hid hT
      obtain ⟨W, hW⟩ : ∃ W : World, wo.drew = W := ⟨_, rfl⟩
      have hTW : IntsAt W (.slice va vn vc) T := by rw [← hW]; exact hT.out
      have hPW : IntsAt W (.slice pa pn pc) ((x.drop k).take m) := by rw [← hW]; exact hP.out
      have hUW : IntsAt W (.slice ua un uc) (x.drop k) := by rw [← hW]; exact hU.out
      have hOW : OwnI W0.heap.size W ow ((imgP K R T x).take k) := by rw [← hW]; exact hO.out
      have hBW : Below W0.heap.size W0 W := by rw [← hW]; exact hB.drew
      have hS : W.cell? ⟨w.heap.size, 0, none⟩ = some (.int .i64 K) ∧ W.cell? ⟨w.heap.size, 1, none⟩ = some (.int .i64 R) ∧ W.cell? ⟨w.heap.size, 2, none⟩ = some (.slice va vn vc) := by rw [← hW]; exact ⟨z0, z1, z2⟩
      have hsy : Syms K ((x.drop k).take m) := syms_take (syms_drop hx.out k) m
      have hpl : ((x.drop k).take m).length = m := by rw [List.length_take, List.length_drop]; omega
      have hcut := img_cut (K := K) (R := R) (T := T) (x := x) (i := k) (m := m) (by omega)
      replace hTW := Lib.hid hTW
      replace hPW := Lib.hid hPW
      replace hUW := Lib.hid hUW
      replace hOW := Lib.hid hOW
      replace hsy := Lib.hid hsy
      replace hcut := Lib.hid hcut
      replace hpl := Lib.hid hpl
      replace hW := Lib.hid hW
      clear hT hP hU hO hB
      go_upto_region 3 with fail
      refine wp_region_plan (fun w' => w'.cell? ⟨w.heap.size, 0, none⟩ = some (.int .i64 K) ∧ w'.cell? ⟨w.heap.size, 1, none⟩ = some (.int .i64 R) ∧ w'.cell? ⟨w.heap.size, 2, none⟩ = some (.slice va vn vc)) 11 [(0, true), (1, true), (2, true), (3, true), (4, false), (5, true), (6, false), (7, true), (8, true), (9, true), (10, true)] (by kernel_rfl) (by kernel_rfl) ?_
      rw [hW.out]
      clear z0 z1 z2
      refine headY (v := ?_) (some 15) rfl rfl (Or.inl ⟨by rfl, ?_⟩) hS ?_
      rotate_left
      · rintro W' ⟨s0, s1, s2⟩; go_simp; try with_reducible rfl
      simp only [Act.put, List.setIfInBounds_toArray, List.set_cons_zero, List.set_cons_succ]
      refine headY (v := ?_) (some 16) rfl rfl (Or.inl ⟨by rfl, ?_⟩) hS ?_
      rotate_left
      · rintro W' ⟨s0, s1, s2⟩; go_simp; try with_reducible rfl
      simp only [Act.put, List.setIfInBounds_toArray, List.set_cons_zero, List.set_cons_succ]
      refine headY (v := ?_) (some 17) rfl rfl (Or.inl ⟨by rfl, ?_⟩) hS ?_
      rotate_left
      · rintro W' ⟨s0, s1, s2⟩; go_simp; try with_reducible rfl
      simp only [Act.put, List.setIfInBounds_toArray, List.set_cons_zero, List.set_cons_succ]
      refine headY (v := ?_) (some 18) rfl rfl (Or.inl ⟨by rfl, ?_⟩) hS ?_
      rotate_left
      · rintro W' ⟨s0, s1, s2⟩; go_simp; try with_reducible rfl
      simp only [Act.put, List.setIfInBounds_toArray, List.set_cons_zero, List.set_cons_succ]
      refine headC rfl (fun KK hK => ?_)
      go_simp
      rw [show min (((x.length - k : Nat) : Nat) : Int) 4096 = (m : Int) by omega]
      refine hK _ _ hS ?_
      clear hK KK
      refine headY (v := ?_) (some 20) rfl rfl (Or.inl ⟨by rfl, ?_⟩) hS ?_
      rotate_left
      · rintro W' ⟨s0, s1, s2⟩; go_simp; try with_reducible rfl
      simp only [Act.put, List.setIfInBounds_toArray, List.set_cons_zero, List.set_cons_succ]
      refine headC rfl (fun KK hK => ?_)
      go_simp
      refine (step_ok K R va vn vc T (.slice pa pn pc) ((x.drop k).take m) W hTW.out hr.out hPW.out hsy.out (by rw [hpl.out]; omega)).mono ?_
      rintro e w5 ⟨zv, _, rfl, b5, hz, rfl⟩
      rw [hcut.out] at hz
      have hS5 : w5.cell? ⟨w.heap.size, 0, none⟩ = some (.int .i64 K) ∧ w5.cell? ⟨w.heap.size, 1, none⟩ = some (.int .i64 R) ∧ w5.cell? ⟨w.heap.size, 2, none⟩ = some (.slice va vn vc) := by
        obtain ⟨⟨y0, y1, y2⟩, -, -, -⟩ := q.below (hBW.trans (b5.mono hBW.size))
        exact ⟨y0, y1, y2⟩
      refine hK _ _ hS5 ?_
      clear hK KK hS
      refine headY (v := ?_) (some 14) rfl rfl (Or.inl ⟨by rfl, ?_⟩) hS5 ?_
      rotate_left
      · rintro W' ⟨s0, s1, s2⟩; go_simp; try with_reducible rfl
      simp only [Act.put, List.setIfInBounds_toArray, List.set_cons_zero, List.set_cons_succ]
      refine headY (v := ?_) (some 22) rfl rfl (Or.inl ⟨by rfl, ?_⟩) hS5 ?_
      rotate_left
      · rintro W' ⟨s0, s1, s2⟩; go_simp; try with_reducible rfl
      simp only [Act.put, List.setIfInBounds_toArray, List.set_cons_zero, List.set_cons_succ]
      refine headY (v := ?_) (some 23) rfl rfl (Or.inl ⟨by rfl, ?_⟩) hS5 ?_
      rotate_left
      · rintro W' ⟨s0, s1, s2⟩; go_simp; try with_reducible rfl
      simp only [Act.put, List.setIfInBounds_toArray, List.set_cons_zero, List.set_cons_succ]
      refine headY (v := ?_) (some 6) rfl rfl (Or.inl ⟨by rfl, ?_⟩) hS5 ?_
      rotate_left
      · rintro W' ⟨s0, s1, s2⟩; go_simp; try with_reducible rfl
      simp only [Act.put, List.setIfInBounds_toArray, List.set_cons_zero, List.set_cons_succ]
      refine head0 ?_
      simp only [List.drop_succ_cons, List.drop_zero]
      have hzl : (((imgP K R T x).drop k).take (m - 2 * R)).length = m - 2 * R := by rw [List.length_take, List.length_drop, imgP_length]; omega
      have lz := hz.at.len
      rw [hzl] at lz
      obtain ⟨za, zn, zc, rfl⟩ := hz.at.shape
      have hO5 := hOW.out.below b5
      have hU5 := hUW.out.below b5
      have hB5 := hBW.trans (b5.mono hBW.size)
      obtain ⟨nv, hsl2, hN⟩ := hU0.post (m - 2 * R) (by rw [List.length_drop]; omega)
      obtain ⟨na, nn, nc, rfl⟩ := hN.shape
      rw [List.drop_drop] at hN
      have hs5 := hB5.size
      have hcat : (imgP K R T x).take k ++ ((imgP K R T x).drop k).take (m - 2 * R) = (imgP K R T x).take (k + (m - 2 * R)) := by rw [List.take_add]
      replace hzl := Lib.hid hzl
      replace hcat := Lib.hid hcat
      replace hz := Lib.hid hz
      replace hN := Lib.hid hN
      replace hO5 := Lib.hid hO5
      replace hU5 := Lib.hid hU5
      replace hU0 := Lib.hid hU0
      clear hS5
      go_wp2
      refine NoPanic.normal ?_
      go_wp2_with (at_builtin; refine wpl_append rfl _ _ rfl W0.heap.size ow (.slice za zn zc) _ _ hO5.out hz.out.at rfl rfl (by rw [hzl.out, List.length_take, imgP_length]; omega) hs5 ?_)
      intro v' w7 ho7 b7 _ _
      rw [hcat.out] at ho7
      clear hsl
      go_wp2
      go_roundw
      case measure => rw [sliceL_of hN.out, sliceL_of hU0.out, List.length_drop, List.length_drop]; omega
      case rel => exact ⟨k + (m - 2 * R), _, _, rfl, rfl, by omega, hN.out, ho7, hB5.trans b7⟩
    · have hke : k = x.length - 2 * R := by omega
      have hfin : (imgP K R T x).take k = imgP K R T x := List.take_of_length_le (by rw [imgP_length]; omega)
      rw [hfin] at hO
      replace hO := Lib.hid hO
      replace hU := Lib.hid hU
      replace hU0 := Lib.hid hU0
      replace hfin := Lib.hid hfin
      replace hke := Lib.hid hke
      obtain ⟨oa, on, oc, hov⟩ := hO.out.at.shape
      subst hov
      go_wp2
      go_ret
      exact ⟨_, rfl, b0.trans (hB.mono s0), hO.out.mono s0⟩
end Go.Proofs.YtilpckngghffoaaDoor

namespace Go.Proofs.YtilpckngghffoaaDoor
open Go.RowKit
set_option maxRecDepth 100000

/-- What row.Step leaves. -/
def StepPost (w : World) (K R : Nat) (T : List Int) (p : Int) (L C Q : List Int) (x e : Value) (w' : World) : Prop :=
  e = .nilIface ∧ ∃ a b c : Value, x = .agg #[.int .i64 (p - R), a, b, c] ∧ OwnI w.heap.size w' a ((imgP K R T (pieceP p L C Q (p - R - L.length - R) (L.length + (C.length + 2 * R) + Q.length + 2 * R))).take L.length) ∧ OwnI w.heap.size w' b (((imgP K R T (pieceP p L C Q (p - R - L.length - R) (L.length + (C.length + 2 * R) + Q.length + 2 * R))).drop L.length).take (C.length + 2 * R)) ∧ OwnI w.heap.size w' c ((imgP K R T (pieceP p L C Q (p - R - L.length - R) (L.length + (C.length + 2 * R) + Q.length + 2 * R))).drop (L.length + (C.length + 2 * R)))

set_option maxHeartbeats 8000000 in
theorem row_step (r : Nat → Addr) (p : Int) (K R : Nat) (va : Option Addr) (vn vc : Nat) (T : List Int) (la : Option Addr) (ln lc : Nat) (ca : Option Addr) (cn cc : Nat) (qa : Option Addr) (qn qc : Nat) (L C Q : List Int) (w : World) (hg : Glob r w) (h : IntsAt w (.slice va vn vc) T) (hr : RuleOk K R T) (hL : IntsAt w (.slice la ln lc) L) (hC : IntsAt w (.slice ca cn cc) C) (hQ : IntsAt w (.slice qa qn qc) Q) (hro : RowOk K p L C Q) (hpR : -4096 ≤ p - R) (hcR : C.length + 2 * R ≤ 16384) :
    Calls Tryd.prog 10 #[.agg #[.int .i64 K, .int .i64 R, .slice va vn vc], .agg #[.int .i64 p, .slice la ln lc, .slice ca cn cc, .slice qa qn qc]] w (Ret2 (StepPost w K R T p L C Q) w) := by
  have b0 := Below.step (Below.step (belowAlloc w (.cells #[.int .i64 K, .int .i64 R, .slice va vn vc] 24)) (belowAlloc _ (.cells #[.int .i64 p, .slice la ln lc, .slice ca cn cc, .slice qa qn qc] 26))) (belowAlloc _ (.cells #[.int .i64 0, .slice none 0 0, .slice none 0 0, .slice none 0 0] 26))
  have q : Box3 (((w.alloc (.cells #[.int .i64 K, .int .i64 R, .slice va vn vc] 24)).alloc (.cells #[.int .i64 p, .slice la ln lc, .slice ca cn cc, .slice qa qn qc] 26)).alloc (.cells #[.int .i64 0, .slice none 0 0, .slice none 0 0, .slice none 0 0] 26)) w.heap.size (.int .i64 K) (.int .i64 R) (.slice va vn vc) := by simp [Box3, go_sem]
  have y : Cells4 (((w.alloc (.cells #[.int .i64 K, .int .i64 R, .slice va vn vc] 24)).alloc (.cells #[.int .i64 p, .slice la ln lc, .slice ca cn cc, .slice qa qn qc] 26)).alloc (.cells #[.int .i64 0, .slice none 0 0, .slice none 0 0, .slice none 0 0] 26)) (w.heap.size + 1) (.int .i64 p) (.slice la ln lc) (.slice ca cn cc) (.slice qa qn qc) := by
    refine ⟨?_, ?_, ?_, ?_⟩ <;> simp [go_sem]
  obtain ⟨f0, R0, n00, -⟩ := ((Rows.void w.heap.size w).below (Below.step (belowAlloc w (.cells #[.int .i64 K, .int .i64 R, .slice va vn vc] 24)) (belowAlloc _ (.cells #[.int .i64 p, .slice la ln lc, .slice ca cn cc, .slice qa qn qc] 26)))).box4 (0, 0) (by simp; omega) 26 (.int .i64 0) (.slice none 0 0) (.slice none 0 0) (.slice none 0 0)
  simp only [World.size_alloc] at n00
  obtain ⟨w0, hw0⟩ : ∃ W : World, (((w.alloc (.cells #[.int .i64 K, .int .i64 R, .slice va vn vc] 24)).alloc (.cells #[.int .i64 p, .slice la ln lc, .slice ca cn cc, .slice qa qn qc] 26)).alloc (.cells #[.int .i64 0, .slice none 0 0, .slice none 0 0, .slice none 0 0] 26)) = W := ⟨_, rfl⟩
  rw [hw0] at b0 y q R0
  replace hg := hg.below b0
  replace h := h.below b0
  replace hL := hL.below b0
  replace hC := hC.below b0
  replace hQ := hQ.below b0
  have s0 := b0.size
  have nL := hL.len
  have nC := hC.len
  have nQ := hQ.len
  have nA := hro.none
  have g1 := hro.l1
  have g2 := hro.q1
  have g3 := hro.l2
  have g4 := hro.q2
  have g5 := hro.c2
  have g6 := hro.p1
  have g7 := hro.p2
  have hR3 := hr.r3
  have keep : ∀ W' : World, Below w0.heap.size w0 W' → W'.cell? ⟨w.heap.size, 0, none⟩ = some (.int .i64 K) ∧ W'.cell? ⟨w.heap.size, 1, none⟩ = some (.int .i64 R) ∧ W'.cell? ⟨w.heap.size, 2, none⟩ = some (.slice va vn vc) ∧ W'.cell? ⟨w.heap.size + 1, 0, none⟩ = some (.int .i64 p) ∧ W'.cell? ⟨w.heap.size + 1, 1, none⟩ = some (.slice la ln lc) ∧ W'.cell? ⟨w.heap.size + 1, 2, none⟩ = some (.slice ca cn cc) ∧ W'.cell? ⟨w.heap.size + 1, 3, none⟩ = some (.slice qa qn qc) := fun W' hb => ⟨(q.below hb).1.1, (q.below hb).1.2.1, (q.below hb).1.2.2, (y.below hb).c0, (y.below hb).c1, (y.below hb).c2, (y.below hb).c3⟩
  obtain ⟨a, ha⟩ : ∃ a, p - (R : Int) = a := ⟨_, rfl⟩
  obtain ⟨n, hn⟩ : ∃ n, C.length + 2 * R = n := ⟨_, rfl⟩
  obtain ⟨m2, hm2⟩ : ∃ m2, 2 * R = m2 := ⟨_, rfl⟩
  have wa : IntKind.i64.wrap (p - (R : Int)) = a := by rw [ha]; exact wrapK (by omega) (by omega)
  have wm : IntKind.i64.wrap (2 * (R : Int)) = (m2 : Int) := by rw [show 2 * (R : Int) = (m2 : Int) by omega]; exact wrapK (by omega) (by omega)
  have wn : IntKind.i64.wrap ((C.length : Int) + (m2 : Int)) = (n : Int) := by rw [show (C.length : Int) + (m2 : Int) = (n : Int) by omega]; exact wrapK (by omega) (by omega)
  have hab1 : -4096 ≤ a := by omega
  have hab2 : a ≤ 4096 := by omega
  have da : decide (a < -4096) = false := decide_eq_false (by omega)
  have dn : decide ((16384 : Int) < (n : Int)) = false := decide_eq_false (by omega)
  obtain ⟨f, hf⟩ : ∃ f, a - (L.length : Int) - (R : Int) = f := ⟨_, rfl⟩
  obtain ⟨N, hN⟩ : ∃ N, L.length + n + Q.length + 2 * R = N := ⟨_, rfl⟩
  have hff : -1000000 ≤ f ∧ f ≤ 1000000 := by omega
  have hNn : N ≤ 100000 := by omega
  have hNi : (L.length : Int) + (n : Int) + (Q.length : Int) + 2 * (R : Int) = (N : Int) := by omega
  have hNl : L.length + n ≤ N - 2 * R := by omega
  have chk := fun (w' : World) (hb : Below w0.heap.size w0 w') => row_check r K p la ln lc ca cn cc qa qn qc L C Q w' (hg.below hb) (hL.below hb) (hC.below hb) (hQ.below hb)
  have pc := fun (w' : World) (hb : Below w0.heap.size w0 w') => row_piece p f N la ln lc ca cn cc qa qn qc L C Q w' (hL.below hb) (hC.below hb) (hQ.below hb) g1 g2 (by omega) (by omega) (by omega) (by omega) hff hNn
  have hsyX := pieceP_syms (p := p) hro.sL hro.sC hro.sQ g1 g2 f N
  have hXl := pieceP_len p L C Q f N
  have hpost : ∀ x e w', StepPost w K R T p L C Q x e w' = (e = .nilIface ∧ ∃ v1 v2 v3 : Value, x = .agg #[.int .i64 a, v1, v2, v3] ∧ OwnI w.heap.size w' v1 ((imgP K R T (pieceP p L C Q f N)).take L.length) ∧ OwnI w.heap.size w' v2 (((imgP K R T (pieceP p L C Q f N)).drop L.length).take n) ∧ OwnI w.heap.size w' v3 ((imgP K R T (pieceP p L C Q f N)).drop (L.length + n))) := fun x e w' => by
    unfold StepPost
    rw [← hN, ← hf, ← hn, ← ha]
  obtain ⟨x, hx⟩ : ∃ x, pieceP p L C Q f N = x := ⟨_, rfl⟩
  rw [hx] at pc hsyX hXl
  simp only [hx] at hpost
  replace nA := Lib.hid nA
  replace keep := Lib.hid keep
  replace chk := Lib.hid chk
  replace pc := Lib.hid pc
  replace hx := Lib.hid hx
  replace ha := Lib.hid ha
  replace hn := Lib.hid hn
  replace hm2 := Lib.hid hm2
  replace hf := Lib.hid hf
  replace hN := Lib.hid hN
  replace hNi := Lib.hid hNi
  replace hff := Lib.hid hff
  replace hL := Lib.hid hL
  replace hC := Lib.hid hC
  replace hQ := Lib.hid hQ
  replace hg := Lib.hid hg
  replace h := Lib.hid h
  replace hr := Lib.hid hr
  replace hro := Lib.hid hro
  replace hw0 := Lib.hid hw0
  replace hpR := Lib.hid hpR
  replace hcR := Lib.hid hcR
  replace hsyX := Lib.hid hsyX
  replace hXl := Lib.hid hXl
  replace hpost := Lib.hid hpost
  replace R0 := Lib.hid R0
  replace n00 := Lib.hid n00
  replace q := Lib.hid q
  replace y := Lib.hid y
  obtain ⟨z0, z1, z2, y0, y1, y2, y3⟩ := keep.out w0 (Below.refl _ _)
  go_enter Tryd.func10, Tryd.ntmps10
  go_upto_region 1 with fail
  rw [hw0.out]
  go_wp2_with fail
  refine (check_ok K R (.slice va vn vc) T w0 h.out hr.out).mono ?_
  rintro e w1 ⟨_, rfl, b1, rfl⟩
  clear z0 z1 z2 y0 y1 y2 y3
  obtain ⟨z0, z1, z2, y0, y1, y2, y3⟩ := keep.out w1 b1
  go_wp2_with fail
  refine (chk.out w1 b1).mono ?_
  rintro e w2 ⟨xe, rfl, b2, hxe⟩
  rw [nA.out] at hxe
  obtain rfl : xe = .nilIface := hxe
  have c2 := Below.step b1 b2
  clear z0 z1 z2 y0 y1 y2 y3
  obtain ⟨z0, z1, z2, y0, y1, y2, y3⟩ := keep.out w2 c2
  obtain ⟨W, hW⟩ : ∃ W : World, w2.drew = W := ⟨_, rfl⟩
  have bW : Below w0.heap.size w0 W := by rw [← hW]; exact c2.drew
  have hS := keep.out W bW
  replace hW := Lib.hid hW
  clear z0 z1 z2 y0 y1 y2 y3
  go_upto_region 7 with fail
  refine wp_region_plan (fun w' => w'.cell? ⟨w.heap.size, 0, none⟩ = some (.int .i64 K) ∧ w'.cell? ⟨w.heap.size, 1, none⟩ = some (.int .i64 R) ∧ w'.cell? ⟨w.heap.size, 2, none⟩ = some (.slice va vn vc) ∧ w'.cell? ⟨w.heap.size + 1, 0, none⟩ = some (.int .i64 p) ∧ w'.cell? ⟨w.heap.size + 1, 1, none⟩ = some (.slice la ln lc) ∧ w'.cell? ⟨w.heap.size + 1, 2, none⟩ = some (.slice ca cn cc) ∧ w'.cell? ⟨w.heap.size + 1, 3, none⟩ = some (.slice qa qn qc)) 13 [(0, true), (1, true), (2, true), (3, true), (4, true), (5, true), (6, true), (7, true), (8, true), (9, true), (10, true), (11, true), (12, true)] (by kernel_rfl) (by kernel_rfl) ?_
  rw [hW.out]
  refine headY (v := ?_) (some 31) rfl rfl (Or.inl ⟨by rfl, ?_⟩) hS ?_
  rotate_left
  · rintro W' ⟨s0, s1, s2, s3, s4, s5, s6⟩; go_simp; try with_reducible rfl
  simp only [Act.put, List.setIfInBounds_toArray, List.set_cons_zero, List.set_cons_succ]
  refine headY (v := ?_) (some 32) rfl rfl (Or.inl ⟨by rfl, ?_⟩) hS ?_
  rotate_left
  · rintro W' ⟨s0, s1, s2, s3, s4, s5, s6⟩; go_simp; try with_reducible rfl
  simp only [Act.put, List.setIfInBounds_toArray, List.set_cons_zero, List.set_cons_succ]
  refine headY (v := ?_) (some 33) rfl rfl (Or.inl ⟨by rfl, ?_⟩) hS ?_
  rotate_left
  · rintro W' ⟨s0, s1, s2, s3, s4, s5, s6⟩; go_simp; try with_reducible rfl
  simp only [Act.put, List.setIfInBounds_toArray, List.set_cons_zero, List.set_cons_succ]
  refine headY (v := ?_) (some 34) rfl rfl (Or.inl ⟨by rfl, ?_⟩) hS ?_
  rotate_left
  · rintro W' ⟨s0, s1, s2, s3, s4, s5, s6⟩; go_simp; try with_reducible rfl
  simp only [Act.put, List.setIfInBounds_toArray, List.set_cons_zero, List.set_cons_succ]
  refine headY (v := ?_) (some 35) rfl rfl (Or.inl ⟨by rfl, ?_⟩) hS ?_
  rotate_left
  · rintro W' ⟨s0, s1, s2, s3, s4, s5, s6⟩; go_simp; try with_reducible rfl
  simp only [Act.put, List.setIfInBounds_toArray, List.set_cons_zero, List.set_cons_succ]
  refine headY (v := ?_) (some 36) rfl rfl (Or.inl ⟨by rfl, ?_⟩) hS ?_
  rotate_left
  · rintro W' ⟨s0, s1, s2, s3, s4, s5, s6⟩; go_simp; try with_reducible rfl
  simp only [Act.put, List.setIfInBounds_toArray, List.set_cons_zero, List.set_cons_succ]
  refine headY (v := ?_) (some 37) rfl rfl (Or.inl ⟨by rfl, ?_⟩) hS ?_
  rotate_left
  · rintro W' ⟨s0, s1, s2, s3, s4, s5, s6⟩; go_simp; try with_reducible rfl
  simp only [Act.put, List.setIfInBounds_toArray, List.set_cons_zero, List.set_cons_succ]
  refine headY (v := ?_) (some 38) rfl rfl (Or.inl ⟨by rfl, ?_⟩) hS ?_
  rotate_left
  · rintro W' ⟨s0, s1, s2, s3, s4, s5, s6⟩; go_simp; try with_reducible rfl
  simp only [Act.put, List.setIfInBounds_toArray, List.set_cons_zero, List.set_cons_succ]
  refine headY (v := ?_) (some 39) rfl rfl (Or.inl ⟨by rfl, ?_⟩) hS ?_
  rotate_left
  · rintro W' ⟨s0, s1, s2, s3, s4, s5, s6⟩; go_simp; try with_reducible rfl
  simp only [Act.put, List.setIfInBounds_toArray, List.set_cons_zero, List.set_cons_succ]
  refine headY (v := ?_) (some 40) rfl rfl (Or.inl ⟨by rfl, ?_⟩) hS ?_
  rotate_left
  · rintro W' ⟨s0, s1, s2, s3, s4, s5, s6⟩; go_simp; try with_reducible rfl
  simp only [Act.put, List.setIfInBounds_toArray, List.set_cons_zero, List.set_cons_succ]
  refine headY (v := ?_) (some 41) rfl rfl (Or.inl ⟨by rfl, ?_⟩) hS ?_
  rotate_left
  · rintro W' ⟨s0, s1, s2, s3, s4, s5, s6⟩; go_simp; try with_reducible rfl
  simp only [Act.put, List.setIfInBounds_toArray, List.set_cons_zero, List.set_cons_succ]
  refine headY (v := ?_) (some 42) rfl rfl (Or.inl ⟨by rfl, ?_⟩) hS ?_
  rotate_left
  · rintro W' ⟨s0, s1, s2, s3, s4, s5, s6⟩; go_simp; try with_reducible rfl
  simp only [Act.put, List.setIfInBounds_toArray, List.set_cons_zero, List.set_cons_succ]
  refine headY (v := ?_) (some 8) rfl rfl (Or.inl ⟨by rfl, ?_⟩) hS ?_
  rotate_left
  · rintro W' ⟨s0, s1, s2, s3, s4, s5, s6⟩; go_simp; try with_reducible rfl
  simp only [Act.put, List.setIfInBounds_toArray, List.set_cons_zero, List.set_cons_succ]
  refine head0 ?_
  simp only [List.drop_succ_cons, List.drop_zero]
  obtain ⟨z0, z1, z2, y0, y1, y2, y3⟩ := hS
  clear wa wm wn
  go_wp2
  refine NoPanic.normal ?_
  go_wp2_with fail
  rw [hf.out, hNi.out]
  refine (pc.out W bW).mono ?_
  rintro e w3 ⟨xv, rfl, b3, hX⟩
  have c3 := Below.step bW b3
  obtain ⟨xa, xn, xc, rfl⟩ := hX.at.shape
  have s3 := c3.size
  have hq3 := q.out.below c3
  clear z0 z1 z2 y0 y1 y2 y3
  replace hX := Lib.hid hX
  have hX0 := hX.out.at
  replace hX0 := Lib.hid hX0
  go_wp2_with fail
  go_loopw [11, 12] (fun uv ov wr => ∃ (k : Nat) (uw ow : Value), uw = uv ∧ ow = ov ∧ k ≤ x.length - 2 * R ∧ IntsAt w3 uw (x.drop k) ∧ OwnI w3.heap.size wr ow ((imgP K R T x).take k) ∧ Below w3.heap.size w3 wr) (fun uv _ _ => sliceL uv)
  case atStart => exact ⟨0, _, _, rfl, rfl, Nat.zero_le _, hX0.out, OwnI.nil _ _, Below.refl _ _⟩
  case round =>
    obtain ⟨k, uw, ow, rfl, rfl, hk, hU0, hO, hB⟩ := hrel
    have hU := hU0.below hB
    obtain ⟨wo, rfl⟩ : ∃ wo : World, wo = wr := ⟨_, rfl⟩
    have lU := hU.len
    rw [List.length_drop] at lU
    have cB := c3.trans (hB.mono s3)
    obtain ⟨z0, z1, z2, y0, y1, y2, y3⟩ := keep.out wo cB
    by_cases hgt : 2 * R < x.length - k
    · obtain ⟨D, hD⟩ : ∃ D, x.length - k = D := ⟨_, rfl⟩
      rw [hD] at lU hgt
      obtain ⟨m, hm⟩ : ∃ m, min D 4096 = m := ⟨_, rfl⟩
      have hmi : min (D : Int) 4096 = (m : Int) := by omega
      have hm1 : m ≤ D := by omega
      have hm2' : m ≤ 4096 := by omega
      have hm3 : 2 * R < m := by omega
      obtain ⟨pv, hsl, hP⟩ := hU.front m (by rw [List.length_drop]; omega)
      obtain ⟨ua, un, uc, rfl⟩ := hU.shape
      obtain ⟨pa, pn, pc', rfl⟩ := hP.shape
      have hsy : Syms K ((x.drop k).take m) := syms_take (syms_drop hsyX.out k) m
      have hpl : ((x.drop k).take m).length = m := by rw [List.length_take, List.length_drop]; omega
      have hcut := img_cut (K := K) (R := R) (T := T) (x := x) (i := k) (m := m) (by omega)
      have hT := h.out.below cB
      replace hP := Lib.hid hP
      replace hU := Lib.hid hU
      replace hO := Lib.hid hO
      replace hT := Lib.hid hT
      replace hsy := Lib.hid hsy
      replace hcut := Lib.hid hcut
      replace hpl := Lib.hid hpl
      replace hm := Lib.hid hm
      replace hD := Lib.hid hD
      go_wp2_with fail
      refine (step_ok K R va vn vc T (.slice pa pn pc') ((x.drop k).take m) wo hT.out hr.out hP.out hsy.out (by rw [hpl.out]; exact hm2')).mono ?_
      rintro e w5 ⟨zv, _, rfl, b5, hz, rfl⟩
      rw [hcut.out] at hz
      have hzl : (((imgP K R T x).drop k).take (m - 2 * R)).length = m - 2 * R := by rw [List.length_take, List.length_drop, imgP_length]; have := hD.out; omega
      have lz := hz.at.len
      rw [hzl] at lz
      obtain ⟨za, zn, zc, rfl⟩ := hz.at.shape
      have hO5 := hO.out.below b5
      have hB5 := hB.trans (b5.mono hB.size)
      obtain ⟨nv, hsl2, hN⟩ := hU0.post (m - 2 * R) (by rw [List.length_drop]; have := hD.out; omega)
      obtain ⟨na, nn, nc, rfl⟩ := hN.shape
      rw [List.drop_drop] at hN
      have hs5 := hB5.size
      have hcat : (imgP K R T x).take k ++ ((imgP K R T x).drop k).take (m - 2 * R) = (imgP K R T x).take (k + (m - 2 * R)) := by rw [List.take_add]
      replace hzl := Lib.hid hzl
      replace hcat := Lib.hid hcat
      replace hz := Lib.hid hz
      replace hN := Lib.hid hN
      replace hO5 := Lib.hid hO5
      replace hU0 := Lib.hid hU0
      clear hsl lU
      go_wp2_with (at_builtin; refine wpl_append rfl _ _ rfl w3.heap.size ow (.slice za zn zc) _ _ hO5.out hz.out.at rfl rfl (by rw [hzl.out, List.length_take, imgP_length]; have := hXl.out; omega) hs5 ?_)
      intro v' w7 ho7 b7 _ _
      rw [hcat.out] at ho7
      go_wp2
      go_roundw
      case measure => rw [sliceL_of hN.out, sliceL_of hU0.out, List.length_drop, List.length_drop]; have := hD.out; omega
      case rel => exact ⟨k + (m - 2 * R), _, _, rfl, rfl, by have := hD.out; omega, hN.out, ho7, hB5.trans b7⟩
    · have hke : k = x.length - 2 * R := by omega
      have hfin : (imgP K R T x).take k = imgP K R T x := List.take_of_length_le (by rw [imgP_length]; omega)
      rw [hfin] at hO
      have hYl : (imgP K R T x).length = N - 2 * R := by rw [imgP_length, hXl.out]
      obtain ⟨Y, hY⟩ : ∃ Y, imgP K R T x = Y := ⟨_, rfl⟩
      rw [hY] at hO hYl
      obtain ⟨oa, on, oc, rfl⟩ := hO.at.shape
      obtain ⟨e1, he1⟩ : ∃ e1, L.length + n = e1 := ⟨_, rfl⟩
      have wl : IntKind.i64.wrap ((L.length : Int) + (n : Int)) = (e1 : Int) := by rw [show (L.length : Int) + (n : Int) = (e1 : Int) by omega]; exact wrapK (by omega) (by omega)
      obtain ⟨s1, hs1, i1⟩ := hO.at.front L.length (by omega)
      obtain ⟨s2, hs2, i2⟩ := hO.at.mid L.length e1 (by omega) (by omega)
      obtain ⟨s3', hs3, i3⟩ := hO.at.post e1 (by omega)
      obtain ⟨s1a, s1n, s1c, rfl⟩ := i1.shape
      obtain ⟨s2a, s2n, s2c, rfl⟩ := i2.shape
      obtain ⟨s3a, s3n, s3c, rfl⟩ := i3.shape
      have j1 : (Y.take L.length).length ≤ 17592186044416 := by rw [List.length_take]; omega
      have j2 : ((Y.take e1).drop L.length).length ≤ 17592186044416 := by rw [List.length_drop, List.length_take]; omega
      have j3 : (Y.drop e1).length ≤ 17592186044416 := by rw [List.length_drop]; omega
      have hmid : (Y.take e1).drop L.length = (Y.drop L.length).take n := by rw [List.drop_take, ← he1, Nat.add_sub_cancel_left]
      have hpo := hpost.out
      rw [hY, he1] at hpo
      obtain ⟨W8, hW8⟩ : ∃ W : World, wo.drew = W := ⟨_, rfl⟩
      have k1 : IntsAt W8 (.slice s1a s1n s1c) (Y.take L.length) := by rw [← hW8]; exact i1
      have k2 : IntsAt W8 (.slice s2a s2n s2c) ((Y.drop L.length).take n) := by rw [← hW8, ← hmid]; exact i2
      have k3 : IntsAt W8 (.slice s3a s3n s3c) (Y.drop e1) := by rw [← hW8]; exact i3
      have R8 : Rows w.heap.size W8 f0 := by rw [← hW8]; exact (R0.out.below cB).drew
      have c8 : Below w0.heap.size w0 W8 := by rw [← hW8]; exact cB.drew
      rw [hmid] at j2
      replace hmid := Lib.hid hmid
      replace hY := Lib.hid hY
      replace he1 := Lib.hid he1
      replace hW8 := Lib.hid hW8
      replace hpo := Lib.hid hpo
      replace hO := Lib.hid hO
      replace hU := Lib.hid hU
      replace hU0 := Lib.hid hU0
      replace hfin := Lib.hid hfin
      replace hke := Lib.hid hke
      replace hYl := Lib.hid hYl
      replace k1 := Lib.hid k1
      replace k2 := Lib.hid k2
      replace k3 := Lib.hid k3
      replace j1 := Lib.hid j1
      replace j2 := Lib.hid j2
      replace j3 := Lib.hid j3
      replace R8 := Lib.hid R8
      clear i1 i2 i3
      go_upto_region 20 with fail
      clear z0 z1 z2 y0 y1 y2 y3
      refine wp_region_plan (fun _ => True) 19 [(0, true), (1, true), (2, true), (3, true), (5, true), (6, true), (7, true), (8, true), (9, true), (10, true), (12, true), (13, true), (14, true), (15, true), (16, true), (4, false), (11, false), (17, false), (18, true)] (by kernel_rfl) (by kernel_rfl) ?_
      rw [hW8.out]
      refine headY (v := ?_) (some 99) rfl rfl (Or.inl ⟨by rfl, ?_⟩) trivial ?_
      rotate_left
      · rintro W' _; go_simp; try with_reducible rfl
      simp only [Act.put, List.setIfInBounds_toArray, List.set_cons_zero, List.set_cons_succ]
      refine headY (v := ?_) (some 100) rfl rfl (Or.inl ⟨by rfl, ?_⟩) trivial ?_
      rotate_left
      · rintro W' _; go_simp; try with_reducible rfl
      simp only [Act.put, List.setIfInBounds_toArray, List.set_cons_zero, List.set_cons_succ]
      refine headY (v := ?_) (some 101) rfl rfl (Or.inl ⟨by rfl, ?_⟩) trivial ?_
      rotate_left
      · rintro W' _; go_simp; try with_reducible rfl
      simp only [Act.put, List.setIfInBounds_toArray, List.set_cons_zero, List.set_cons_succ]
      refine headY (v := ?_) (some 102) rfl rfl (Or.inl ⟨by rfl, ?_⟩) trivial ?_
      rotate_left
      · rintro W' _; go_simp; try with_reducible rfl
      simp only [Act.put, List.setIfInBounds_toArray, List.set_cons_zero, List.set_cons_succ]
      refine headY (v := ?_) (some 104) rfl rfl (Or.inl ⟨by rfl, ?_⟩) trivial ?_
      rotate_left
      · rintro W' _; go_simp; try with_reducible rfl
      simp only [Act.put, List.setIfInBounds_toArray, List.set_cons_zero, List.set_cons_succ]
      refine headY (v := ?_) (some 105) rfl rfl (Or.inl ⟨by rfl, ?_⟩) trivial ?_
      rotate_left
      · rintro W' _; go_simp; try with_reducible rfl
      simp only [Act.put, List.setIfInBounds_toArray, List.set_cons_zero, List.set_cons_succ]
      refine headY (v := ?_) (some 106) rfl rfl (Or.inl ⟨by rfl, ?_⟩) trivial ?_
      rotate_left
      · rintro W' _; go_simp; try with_reducible rfl
      simp only [Act.put, List.setIfInBounds_toArray, List.set_cons_zero, List.set_cons_succ]
      refine headY (v := ?_) (some 107) rfl rfl (Or.inl ⟨by rfl, ?_⟩) trivial ?_
      rotate_left
      · rintro W' _; go_simp; try with_reducible rfl
      simp only [Act.put, List.setIfInBounds_toArray, List.set_cons_zero, List.set_cons_succ]
      refine headY (v := ?_) (some 108) rfl rfl (Or.inl ⟨by rfl, ?_⟩) trivial ?_
      rotate_left
      · rintro W' _; go_simp; try with_reducible rfl
      simp only [Act.put, List.setIfInBounds_toArray, List.set_cons_zero, List.set_cons_succ]
      refine headY (v := ?_) (some 109) rfl rfl (Or.inl ⟨by rfl, ?_⟩) trivial ?_
      rotate_left
      · rintro W' _; go_simp; try with_reducible rfl
      simp only [Act.put, List.setIfInBounds_toArray, List.set_cons_zero, List.set_cons_succ]
      refine headY (v := ?_) (some 111) rfl rfl (Or.inl ⟨by rfl, ?_⟩) trivial ?_
      rotate_left
      · rintro W' _; go_simp; try with_reducible rfl
      simp only [Act.put, List.setIfInBounds_toArray, List.set_cons_zero, List.set_cons_succ]
      refine headY (v := ?_) (some 112) rfl rfl (Or.inl ⟨by rfl, ?_⟩) trivial ?_
      rotate_left
      · rintro W' _; go_simp; try with_reducible rfl
      simp only [Act.put, List.setIfInBounds_toArray, List.set_cons_zero, List.set_cons_succ]
      refine headY (v := ?_) (some 113) rfl rfl (Or.inl ⟨by rfl, ?_⟩) trivial ?_
      rotate_left
      · rintro W' _; go_simp; try with_reducible rfl
      simp only [Act.put, List.setIfInBounds_toArray, List.set_cons_zero, List.set_cons_succ]
      refine headY (v := ?_) (some 114) rfl rfl (Or.inl ⟨by rfl, ?_⟩) trivial ?_
      rotate_left
      · rintro W' _; go_simp; try with_reducible rfl
      simp only [Act.put, List.setIfInBounds_toArray, List.set_cons_zero, List.set_cons_succ]
      refine headY (v := ?_) (some 115) rfl rfl (Or.inl ⟨by rfl, ?_⟩) trivial ?_
      rotate_left
      · rintro W' _; go_simp; try with_reducible rfl
      simp only [Act.put, List.setIfInBounds_toArray, List.set_cons_zero, List.set_cons_succ]
      refine headC rfl (fun KK hK => ?_)
      go_simp
      refine (clone_any _ _ W8 k1.out j1.out).mono ?_
      rintro e w9 ⟨v1, rfl, b9, h1⟩
      obtain ⟨f1, R9, n10, o1⟩ := (R8.out).addE (1, 0) (r' := rowI v1 _) b9 (h1.mono (Nat.le_trans s0 c8.size)) (fun k hk => (h1.lt k hk).1)
      obtain ⟨v1a, v1n, v1c, rfl⟩ := h1.at.shape
      replace R9 := Lib.hid R9
      replace n10 := Lib.hid n10
      clear h1
      refine hK _ _ trivial ?_
      clear hK KK
      refine headC rfl (fun KK hK => ?_)
      go_simp
      refine (clone_any _ _ w9 (k2.out.below b9) j2.out).mono ?_
      rintro e w10 ⟨v2, rfl, b10, h2⟩
      have c9 := Below.step c8 b9
      obtain ⟨f2, R10, n20, o2⟩ := (R9.out).addE (2, 0) (r' := rowI v2 _) b10 (h2.mono (Nat.le_trans s0 c9.size)) (fun k hk => (h2.lt k hk).1)
      obtain ⟨v2a, v2n, v2c, rfl⟩ := h2.at.shape
      replace R10 := Lib.hid R10
      replace n20 := Lib.hid n20
      clear h2
      refine hK _ _ trivial ?_
      clear hK KK
      refine headC rfl (fun KK hK => ?_)
      go_simp
      refine (clone_any _ _ w10 (k3.out.below (Below.step b9 b10)) j3.out).mono ?_
      rintro e w11 ⟨v3, rfl, b11, h3⟩
      have c10 := Below.step c9 b10
      obtain ⟨f3, R11, n30, o3⟩ := (R10.out).addE (3, 0) (r' := rowI v3 _) b11 (h3.mono (Nat.le_trans s0 c10.size)) (fun k hk => (h3.lt k hk).1)
      obtain ⟨v3a, v3n, v3c, rfl⟩ := h3.at.shape
      have c11 := Below.step c10 b11
      clear h3
      refine hK _ _ trivial ?_
      clear hK KK
      refine headY (v := ?_) (some 117) rfl rfl (Or.inl ⟨by rfl, ?_⟩) trivial ?_
      rotate_left
      · rintro W' _; go_simp; try with_reducible rfl
      simp only [Act.put, List.setIfInBounds_toArray, List.set_cons_zero, List.set_cons_succ]
      refine head0 ?_
      simp only [List.drop_succ_cons, List.drop_zero]
      have m00 : f3 (0, 0) = _ := (o3 (0, 0) (by decide)).trans ((o2 (0, 0) (by decide)).trans ((o1 (0, 0) (by decide)).trans n00.out))
      have m10 : f3 (1, 0) = _ := (o3 (1, 0) (by decide)).trans ((o2 (1, 0) (by decide)).trans n10.out)
      have m20 : f3 (2, 0) = _ := (o3 (2, 0) (by decide)).trans n20.out
      obtain ⟨q0, q1, q2, q3⟩ := R11.cells4 m00
      have fq0 := R11.frz4 m00 0
      have fq1 := R11.frz4 m00 1
      have fq2 := R11.frz4 m00 2
      have fq3 := R11.frz4 m00 3
      have lq := (R11.low4 m00).1
      obtain ⟨f4, R12, p00, o4⟩ := R11.all4 m00 (.int .i64 a) (.slice v1a v1n v1c) (.slice v2a v2n v2c) (.slice v3a v3n v3c)
      have p10 := (o4 (1, 0) (by decide)).trans m10
      have p20 := (o4 (2, 0) (by decide)).trans m20
      have p30 := (o4 (3, 0) (by decide)).trans n30
      have hfin2 := Below.all4 (g := w.heap.size + 1 + 1) (Below.step b0 c11) lq (.int .i64 a) (.slice v1a v1n v1c) (.slice v2a v2n v2c) (.slice v3a v3n v3c)
      have r1 := R12.ownI p10
      have r2 := R12.ownI p20
      have r3 := R12.ownI p30
      replace r1 := Lib.hid r1
      replace r2 := Lib.hid r2
      replace r3 := Lib.hid r3
      clear o1 o2 o3 o4 m00 m10 m20 p00 p10 p20 p30 n10 n20 n30 R9 R10 R11 R12 R8 lq
      go_wp2
      refine NoPanic.normal ?_
      go_wp2
      (try simp only [Exit.inBlock, Exit.then])
      refine bodyPost_ret (v := .tuple #[.agg #[.int .i64 a, .slice v1a v1n v1c, .slice v2a v2n v2c, .slice v3a v3n v3c], .nilIface]) (by simp [results, Tryd.results10, go_sem, q0, q1, q2, q3]) rfl ?_
      refine ⟨_, _, rfl, hfin2, ?_⟩
      rw [hpo.out]
      exact ⟨rfl, _, _, _, rfl, r1.out, r2.out, r3.out⟩
end Go.Proofs.YtilpckngghffoaaDoor

namespace Go.Proofs.YtilpckngghffoaaDoor
open Go.RowKit
set_option maxRecDepth 100000

theorem tcheck1_any (r : Nat → Addr) (at_ n : Int) (w : World) (hg : Glob r w) (h1 : 1 ≤ n) (h2 : n ≤ 11) :
    Calls Tryd.prog 16 #[.int .i64 at_, .int .i64 n] w (Ret1 (fun v w' => ErrIs r w' (fresh sTwins at_ n) v) w) := by
  go_enter Tryd.func16, Tryd.ntmps16
  go_wp2_with fail
  refine (new_any r _ at_ n w hg h1 h2).mono ?_
  rintro e w' ⟨v, rfl, hb, he⟩
  go_wp2
  go_ret
  exact ⟨v, rfl, hb, he⟩
theorem fresh_shape {r : Nat → Addr} {w : World} {op : ByteArray} {a n : Int} {v : Value} (h : ErrIs r w (fresh op a n) v) : ∃ T p, v = .iface T (.pointer (some p)) := ErrIs.some_shape h

set_option maxHeartbeats 8000000 in
theorem tcheck_ok (r : Nat → Addr) (K R : Nat) (va : Option Addr) (vn vc : Nat) (T : List Int) (u : Value) (a : List Int) (v : Value) (b : List Int) (w : World) (hg : Glob r w) (h : IntsAt w (.slice va vn vc) T) (hr : RuleOk K R T) (hl : T.length ≤ 256) (hu : IntsAt w u a) (hv : IntsAt w v b) :
    Calls Tryd.prog 6 #[.agg #[.int .i64 K, .int .i64 R, .slice va vn vc], u, v] w (Ret1 (fun x w' => ErrIs r w' (twinsP sTwins K R (imgP K R T) a b) x) w) := by
  have b0 := belowAlloc w (.cells #[.int .i64 K, .int .i64 R, .slice va vn vc] 24)
  have q : Box3 (w.alloc (.cells #[.int .i64 K, .int .i64 R, .slice va vn vc] 24)) w.heap.size (.int .i64 K) (.int .i64 R) (.slice va vn vc) := by simp [Box3, go_sem]
  have lA := hu.len
  have lB := hv.len
  have mA := hu.len_le
  have mB := hv.len_le
  have hR3 := hr.r3
  obtain ⟨ua, un, uc, rfl⟩ := hu.shape
  obtain ⟨wa, wn, wc, rfl⟩ := hv.shape
  have hsm : smallP K R T = none := by rw [smallP_ok hr, if_neg (by omega)]
  obtain ⟨W0, hW0⟩ : ∃ W : World, w.alloc (.cells #[.int .i64 K, .int .i64 R, .slice va vn vc] 24) = W := ⟨_, rfl⟩
  replace hg := hg.below b0
  replace h := h.below b0
  replace hu := hu.below b0
  replace hv := hv.below b0
  rw [hW0] at hg h hu hv b0 q
  obtain ⟨e0, he0⟩ : ∃ e0, twinsP sTwins K R (imgP K R T) a b = e0 := ⟨_, rfl⟩
  rw [he0]
  unfold twinsP at he0
  replace hg := Lib.hid hg
  replace h := Lib.hid h
  replace hu := Lib.hid hu
  replace hv := Lib.hid hv
  replace hr := Lib.hid hr
  replace hsm := Lib.hid hsm
  replace hl := Lib.hid hl
  replace he0 := Lib.hid he0
  replace hW0 := Lib.hid hW0
  go_enter Tryd.func6, Tryd.ntmps6
  go_upto_region 2 with fail
  rw [hW0.out]
  have q0 := q
  obtain ⟨⟨z0, z1, z2⟩, -, -, -⟩ := q0
  go_wp2_with fail
  refine (small_any r K R va vn vc T _ hg.out h.out).mono ?_
  rintro e w1 ⟨x, rfl, b1, hx⟩
  rw [hsm.out] at hx
  obtain rfl := hx.none_eq
  clear hx
  have q1 := q.below b1
  clear z0 z1 z2
  obtain ⟨⟨z0, z1, z2⟩, -, -, -⟩ := q1
  have b01 := Below.step b0 b1
  by_cases hA : 16384 < a.length
  · have d1 : decide ((16384 : Int) < (a.length : Int)) = true := decide_eq_true (by omega)
    have he := he0.out
    rw [if_pos (.inl hA)] at he
    replace he := Lib.hid he
    go_wp2_with fail
    refine (tcheck1_any r 1 4 w1 (hg.out.below b1) (by decide) (by decide)).mono ?_
    rintro e w9 ⟨y, rfl, b9, hy⟩
    obtain ⟨T9, a9, rfl⟩ := fresh_shape hy
    replace hy := Lib.hid hy
    clear z0 z1 z2
    go_wp2
    go_ret
    exact ⟨_, rfl, Below.step b01 b9, by rw [← he.out]; exact hy.out⟩
  by_cases hB : 16384 < b.length
  · have d1 : decide ((16384 : Int) < (a.length : Int)) = false := decide_eq_false (by omega)
    have d2 : decide ((16384 : Int) < (b.length : Int)) = true := decide_eq_true (by omega)
    have he := he0.out
    rw [if_pos (.inr hB)] at he
    replace he := Lib.hid he
    go_wp2_with fail
    refine (tcheck1_any r 1 4 w1 (hg.out.below b1) (by decide) (by decide)).mono ?_
    rintro e w9 ⟨y, rfl, b9, hy⟩
    obtain ⟨T9, a9, rfl⟩ := fresh_shape hy
    replace hy := Lib.hid hy
    clear z0 z1 z2
    go_wp2
    go_ret
    exact ⟨_, rfl, Below.step b01 b9, by rw [← he.out]; exact hy.out⟩
  have he1 := he0.out
  rw [if_neg (by omega)] at he1
  replace he1 := Lib.hid he1
  clear he0
  have d1 : decide ((16384 : Int) < (a.length : Int)) = false := decide_eq_false (by omega)
  have d2 : decide ((16384 : Int) < (b.length : Int)) = false := decide_eq_false (by omega)
  go_wp2_with fail
  refine (symbols_any K _ a w1 (hu.out.below b1)).mono ?_
  rintro e w2 ⟨x, rfl, b2, rfl⟩
  have c2 := Below.step b1 b2
  have b02 := Below.step b01 b2
  clear z0 z1 z2
  obtain ⟨⟨z0, z1, z2⟩, -, -, -⟩ := q.below c2
  by_cases hi : 0 ≤ idxOf (odd1 K) a
  · have he := he1.out
    rw [if_pos hi] at he
    replace he := Lib.hid he
    generalize idxOf (odd1 K) a = i at *
    have d3 : decide ((0 : Int) ≤ i) = true := decide_eq_true hi
    go_wp2_with fail
    refine (tcheck1_any r i 2 w2 (hg.out.below c2) (by decide) (by decide)).mono ?_
    rintro e w9 ⟨y, rfl, b9, hy⟩
    obtain ⟨T9, a9, rfl⟩ := fresh_shape hy
    replace hy := Lib.hid hy
    clear z0 z1 z2
    go_wp2
    go_ret
    exact ⟨_, rfl, Below.step b02 b9, by rw [← he.out]; exact hy.out⟩
  have he2 := he1.out
  rw [if_neg hi] at he2
  have sA := idxOf_syms.1 hi
  have eA := sA.odd
  rw [eA]
  replace sA := Lib.hid sA
  replace eA := Lib.hid eA
  replace he2 := Lib.hid he2
  clear he1 hi
  go_wp2_with fail
  refine (symbols_any K _ b w2 (hv.out.below c2)).mono ?_
  rintro e w3 ⟨x, rfl, b3, rfl⟩
  have c3 := Below.step c2 b3
  have b03 := Below.step b02 b3
  clear z0 z1 z2
  obtain ⟨⟨z0, z1, z2⟩, -, -, -⟩ := q.below c3
  by_cases hi : 0 ≤ idxOf (odd1 K) b
  · have he := he2.out
    rw [if_pos hi] at he
    replace he := Lib.hid he
    have hib : idxOf (odd1 K) b < b.length := by
      rcases idxOf_cases (odd1 K) b with ⟨k1, _⟩ | ⟨k, k1, k2, _⟩ <;> omega
    generalize idxOf (odd1 K) b = i at *
    have d3 : decide ((0 : Int) ≤ i) = true := decide_eq_true hi
    go_wp2_with fail
    refine (tcheck1_any r ((a.length : Int) + i) 2 w3 (hg.out.below c3) (by decide) (by decide)).mono ?_
    rintro e w9 ⟨y, rfl, b9, hy⟩
    obtain ⟨T9, a9, rfl⟩ := fresh_shape hy
    replace hy := Lib.hid hy
    clear z0 z1 z2
    go_wp2
    go_ret
    exact ⟨_, rfl, Below.step b03 b9, by rw [← he.out]; exact hy.out⟩
  have he3 := he2.out
  rw [if_neg hi] at he3
  have sB := idxOf_syms.1 hi
  have eB := sB.odd
  rw [eB]
  replace sB := Lib.hid sB
  replace eB := Lib.hid eB
  replace he3 := Lib.hid he3
  clear he2 hi
  by_cases hlen : a.length = b.length
  case neg =>
    have d3 : ((a.length : Int) != (b.length : Int)) = true := by simp; omega
    have he := he3.out
    rw [if_pos (.inl hlen)] at he
    replace he := Lib.hid he
    clear hlen
    go_wp2_with fail
    refine (tcheck1_any r 1 3 w3 (hg.out.below c3) (by decide) (by decide)).mono ?_
    rintro e w9 ⟨y, rfl, b9, hy⟩
    obtain ⟨T9, a9, rfl⟩ := fresh_shape hy
    replace hy := Lib.hid hy
    clear z0 z1 z2
    go_wp2
    go_ret
    exact ⟨_, rfl, Below.step b03 b9, by rw [← he.out]; exact hy.out⟩
  have d3 : ((a.length : Int) != (b.length : Int)) = false := by simp; omega
  replace hlen := Lib.hid hlen
  have heqc := equal_any (.slice ua un uc) (.slice wa wn wc) a b w3 (hu.out.below c3) (hv.out.below c3)
  replace heqc := Lib.hid heqc
  go_wp2_with fail
  refine heqc.out.mono ?_
  rintro e w4 ⟨n4, rfl, rfl⟩
  have c4 := below_drewN c3 n4
  have b04 := below_drewN b03 n4
  clear z0 z1 z2
  obtain ⟨⟨z0, z1, z2⟩, -, -, -⟩ := q.below c4
  by_cases hab : a = b
  · have he := he3.out
    rw [if_pos (.inr hab)] at he
    have d4 : decide (a = b) = true := decide_eq_true hab
    rw [d4]
    replace he := Lib.hid he
    replace hab := Lib.hid hab
    clear d4 heqc
    go_wp2_with fail
    refine (tcheck1_any r 1 3 (w3.drewN n4) (hg.out.below c4) (by decide) (by decide)).mono ?_
    rintro e w9 ⟨y, rfl, b9, hy⟩
    obtain ⟨T9, a9, rfl⟩ := fresh_shape hy
    replace hy := Lib.hid hy
    clear z0 z1 z2
    go_wp2
    go_ret
    exact ⟨_, rfl, Below.step b04 b9, by rw [← he.out]; exact hy.out⟩
  have he4 := he3.out
  rw [if_neg (fun q => q.elim (fun q => q hlen.out) hab)] at he4
  have d4 : decide (a = b) = false := decide_eq_false hab
  rw [d4]
  replace he4 := Lib.hid he4
  replace hab := Lib.hid hab
  clear d4 heqc he3
  obtain ⟨w5, hw5⟩ : ∃ W : World, w3.drewN n4 = W := ⟨_, rfl⟩
  rw [hw5] at c4 b04 z0 z1 z2 ⊢
  clear hw5
  obtain ⟨W5, hW5⟩ : ∃ W : World, w5.drew = W := ⟨_, rfl⟩
  have c5 : Below W0.heap.size W0 W5 := by rw [← hW5]; exact c4.drew
  have b05 : Below w.heap.size w W5 := by rw [← hW5]; exact b04.drew
  replace hW5 := Lib.hid hW5
  have hS : True := trivial
  by_cases hlow : a.length < 2 * R
  · have d5 : decide ((a.length : Int) < 2 * (R : Int)) = true := decide_eq_true (by omega)
    have he := he4.out
    rw [if_pos (.inl hlow)] at he
    replace he := Lib.hid he
    go_upto_region 16 with fail
    refine wp_region_plan (fun _ => True) 30 [(0, true), (1, true), (2, true), (3, true), (4, true), (5, true), (6, true), (7, true), (8, true), (9, true), (10, true), (11, false), (12, true), (13, true), (14, true), (15, true), (16, true), (17, true), (18, true), (19, true), (20, true), (21, true), (22, true), (23, true), (24, true), (25, true), (26, true), (27, false), (28, true), (29, true)] (by kernel_rfl) (by kernel_rfl) ?_
    rw [hW5.out]
    refine headY (v := ?_) (some 66) rfl rfl (Or.inl ⟨by rfl, ?_⟩) hS ?_
    rotate_left
    · rintro W' _; go_simp; try with_reducible rfl
    simp only [Act.put, List.setIfInBounds_toArray, List.set_cons_zero, List.set_cons_succ]
    refine headY (v := ?_) (some 67) rfl rfl (Or.inl ⟨by rfl, ?_⟩) hS ?_
    rotate_left
    · rintro W' _; go_simp; try with_reducible rfl
    simp only [Act.put, List.setIfInBounds_toArray, List.set_cons_zero, List.set_cons_succ]
    refine headY (v := ?_) (some 68) rfl rfl (Or.inl ⟨by rfl, ?_⟩) hS ?_
    rotate_left
    · rintro W' _; go_simp; try with_reducible rfl
    simp only [Act.put, List.setIfInBounds_toArray, List.set_cons_zero, List.set_cons_succ]
    refine headY (v := ?_) (some 69) rfl rfl (Or.inl ⟨by rfl, ?_⟩) hS ?_
    rotate_left
    · rintro W' _; go_simp; try with_reducible rfl
    simp only [Act.put, List.setIfInBounds_toArray, List.set_cons_zero, List.set_cons_succ]
    refine headY (v := ?_) (some 70) rfl rfl (Or.inl ⟨by rfl, ?_⟩) hS ?_
    rotate_left
    · rintro W' _; go_simp; try with_reducible rfl
    simp only [Act.put, List.setIfInBounds_toArray, List.set_cons_zero, List.set_cons_succ]
    refine headY (v := undef) (some 71) rfl rfl (Or.inr ⟨by rfl, rfl⟩) hS ?_
    simp only [Act.put, List.setIfInBounds_toArray, List.set_cons_zero, List.set_cons_succ]
    refine headY (v := undef) (some 72) rfl rfl (Or.inr ⟨by rfl, rfl⟩) hS ?_
    simp only [Act.put, List.setIfInBounds_toArray, List.set_cons_zero, List.set_cons_succ]
    refine headY (v := undef) (some 73) rfl rfl (Or.inr ⟨by rfl, rfl⟩) hS ?_
    simp only [Act.put, List.setIfInBounds_toArray, List.set_cons_zero, List.set_cons_succ]
    refine headY (v := undef) (some 74) rfl rfl (Or.inr ⟨by rfl, rfl⟩) hS ?_
    simp only [Act.put, List.setIfInBounds_toArray, List.set_cons_zero, List.set_cons_succ]
    refine headY (v := undef) (some 75) rfl rfl (Or.inr ⟨by rfl, rfl⟩) hS ?_
    simp only [Act.put, List.setIfInBounds_toArray, List.set_cons_zero, List.set_cons_succ]
    refine headY (v := undef) (some 76) rfl rfl (Or.inr ⟨by rfl, rfl⟩) hS ?_
    simp only [Act.put, List.setIfInBounds_toArray, List.set_cons_zero, List.set_cons_succ]
    refine headC rfl (fun KK hK => ?_)
    go_simp
    refine hK _ _ hS ?_
    clear hK KK
    refine headY (v := undef) (some 78) rfl rfl (Or.inr ⟨by rfl, rfl⟩) hS ?_
    simp only [Act.put, List.setIfInBounds_toArray, List.set_cons_zero, List.set_cons_succ]
    refine headY (v := ?_) (some 79) rfl rfl (Or.inl ⟨by rfl, ?_⟩) hS ?_
    rotate_left
    · rintro W' _; go_simp; try with_reducible rfl
    simp only [Act.put, List.setIfInBounds_toArray, List.set_cons_zero, List.set_cons_succ]
    refine headY (v := ?_) (some 80) rfl rfl (Or.inl ⟨by rfl, ?_⟩) hS ?_
    rotate_left
    · rintro W' _; go_simp; try with_reducible rfl
    simp only [Act.put, List.setIfInBounds_toArray, List.set_cons_zero, List.set_cons_succ]
    refine headY (v := undef) (some 81) rfl rfl (Or.inr ⟨by rfl, rfl⟩) hS ?_
    simp only [Act.put, List.setIfInBounds_toArray, List.set_cons_zero, List.set_cons_succ]
    refine headY (v := undef) (some 82) rfl rfl (Or.inr ⟨by rfl, rfl⟩) hS ?_
    simp only [Act.put, List.setIfInBounds_toArray, List.set_cons_zero, List.set_cons_succ]
    refine headY (v := undef) (some 83) rfl rfl (Or.inr ⟨by rfl, rfl⟩) hS ?_
    simp only [Act.put, List.setIfInBounds_toArray, List.set_cons_zero, List.set_cons_succ]
    refine headY (v := undef) (some 84) rfl rfl (Or.inr ⟨by rfl, rfl⟩) hS ?_
    simp only [Act.put, List.setIfInBounds_toArray, List.set_cons_zero, List.set_cons_succ]
    refine headY (v := undef) (some 85) rfl rfl (Or.inr ⟨by rfl, rfl⟩) hS ?_
    simp only [Act.put, List.setIfInBounds_toArray, List.set_cons_zero, List.set_cons_succ]
    refine headY (v := undef) (some 86) rfl rfl (Or.inr ⟨by rfl, rfl⟩) hS ?_
    simp only [Act.put, List.setIfInBounds_toArray, List.set_cons_zero, List.set_cons_succ]
    refine headY (v := undef) (some 87) rfl rfl (Or.inr ⟨by rfl, rfl⟩) hS ?_
    simp only [Act.put, List.setIfInBounds_toArray, List.set_cons_zero, List.set_cons_succ]
    refine headY (v := undef) (some 88) rfl rfl (Or.inr ⟨by rfl, rfl⟩) hS ?_
    simp only [Act.put, List.setIfInBounds_toArray, List.set_cons_zero, List.set_cons_succ]
    refine headY (v := undef) (some 89) rfl rfl (Or.inr ⟨by rfl, rfl⟩) hS ?_
    simp only [Act.put, List.setIfInBounds_toArray, List.set_cons_zero, List.set_cons_succ]
    refine headY (v := undef) (some 90) rfl rfl (Or.inr ⟨by rfl, rfl⟩) hS ?_
    simp only [Act.put, List.setIfInBounds_toArray, List.set_cons_zero, List.set_cons_succ]
    refine headY (v := undef) (some 91) rfl rfl (Or.inr ⟨by rfl, rfl⟩) hS ?_
    simp only [Act.put, List.setIfInBounds_toArray, List.set_cons_zero, List.set_cons_succ]
    refine headY (v := undef) (some 92) rfl rfl (Or.inr ⟨by rfl, rfl⟩) hS ?_
    simp only [Act.put, List.setIfInBounds_toArray, List.set_cons_zero, List.set_cons_succ]
    refine headC rfl (fun KK hK => ?_)
    go_simp
    refine hK _ _ hS ?_
    clear hK KK
    refine headY (v := undef) (some 94) rfl rfl (Or.inr ⟨by rfl, rfl⟩) hS ?_
    simp only [Act.put, List.setIfInBounds_toArray, List.set_cons_zero, List.set_cons_succ]
    refine headY (v := ?_) (some 95) rfl rfl (Or.inl ⟨by rfl, ?_⟩) hS ?_
    rotate_left
    · rintro W' _; go_simp; try with_reducible rfl
    simp only [Act.put, List.setIfInBounds_toArray, List.set_cons_zero, List.set_cons_succ]
    refine head0 ?_
    simp only [List.drop_succ_cons, List.drop_zero]
    clear z0 z1 z2
    obtain ⟨⟨z0, z1, z2⟩, -, -, -⟩ := q.below c5
    go_wp2
    refine NoPanic.normal ?_
    go_wp2_with fail
    refine (tcheck1_any r 2 3 W5 (hg.out.below c5) (by decide) (by decide)).mono ?_
    rintro e w9 ⟨y, rfl, b9, hy⟩
    obtain ⟨T9, a9, rfl⟩ := fresh_shape hy
    replace hy := Lib.hid hy
    clear z0 z1 z2
    go_wp2
    go_ret
    exact ⟨_, rfl, Below.step b05 b9, by rw [← he.out]; exact hy.out⟩
  have d5 : decide ((a.length : Int) < 2 * (R : Int)) = false := decide_eq_false (by omega)
  obtain ⟨fa, hfa, hFA⟩ := (hu.out.below c5).front (2 * R) (by omega)
  obtain ⟨fb, hfb, hFB⟩ := (hv.out.below c5).front (2 * R) (by have := hlen.out; omega)
  have hsa : ∀ w', (Instr.slice 22 (.slice ua un uc) none (some (.int .i64 (2 * (R : Int)))) none).run Tryd.prog w' = .ok fa w' := by
    intro w'; have := hfa w'; rwa [show (((2 * R : Nat) : Nat) : Int) = 2 * (R : Int) by omega] at this
  have hsb : ∀ w', (Instr.slice 22 (.slice wa wn wc) none (some (.int .i64 (2 * (R : Int)))) none).run Tryd.prog w' = .ok fb w' := by
    intro w'; have := hfb w'; rwa [show (((2 * R : Nat) : Nat) : Int) = 2 * (R : Int) by omega] at this
  obtain ⟨ga, hga, hGA⟩ := (hu.out.below c5).post (a.length - 2 * R) (by omega)
  obtain ⟨gb, hgb, hGB⟩ := (hv.out.below c5).post (b.length - 2 * R) (by omega)
  have hta : ∀ w', (Instr.slice 22 (.slice ua un uc) (some (.int .i64 ((a.length : Int) - 2 * (R : Int)))) none none).run Tryd.prog w' = .ok ga w' := by
    intro w'; have := hga w'; rwa [show (((a.length - 2 * R : Nat) : Nat) : Int) = (a.length : Int) - 2 * (R : Int) by omega] at this
  have htb : ∀ w', (Instr.slice 22 (.slice wa wn wc) (some (.int .i64 ((b.length : Int) - 2 * (R : Int)))) none none).run Tryd.prog w' = .ok gb w' := by
    intro w'; have := hgb w'; rwa [show (((b.length - 2 * R : Nat) : Nat) : Int) = (b.length : Int) - 2 * (R : Int) by have := hlen.out; omega] at this
  obtain ⟨fa1, fa2, fa3, rfl⟩ := hFA.shape
  obtain ⟨fb1, fb2, fb3, rfl⟩ := hFB.shape
  obtain ⟨ga1, ga2, ga3, rfl⟩ := hGA.shape
  obtain ⟨gb1, gb2, gb3, rfl⟩ := hGB.shape
  clear hfa hfb hga hgb
  have hwa : IntKind.i64.wrap ((a.length : Int) - 2 * (R : Int)) = (a.length : Int) - 2 * (R : Int) := wrapK (by omega) (by omega)
  have hwb : IntKind.i64.wrap ((b.length : Int) - 2 * (R : Int)) = (b.length : Int) - 2 * (R : Int) := wrapK (by omega) (by omega)
  have hq1 := equal_any _ _ _ _ W5 hFA hFB
  replace hq1 := Lib.hid hq1
  replace hFA := Lib.hid hFA
  replace hFB := Lib.hid hFB
  replace hGA := Lib.hid hGA
  replace hGB := Lib.hid hGB
  go_upto_region 16 with fail
  refine wp_region_plan (fun _ => True) 30 [(0, true), (1, true), (2, true), (3, true), (4, true), (5, true), (6, true), (7, true), (8, true), (9, true), (10, true), (11, false), (12, true), (13, true), (14, true), (15, true), (16, true), (17, true), (18, true), (19, true), (20, true), (21, true), (22, true), (23, true), (24, true), (25, true), (26, true), (27, false), (28, true), (29, true)] (by kernel_rfl) (by kernel_rfl) ?_
  rw [hW5.out]
  refine headY (v := ?_) (some 66) rfl rfl (Or.inl ⟨by rfl, ?_⟩) hS ?_
  rotate_left
  · rintro W' _; go_simp; try with_reducible rfl
  simp only [Act.put, List.setIfInBounds_toArray, List.set_cons_zero, List.set_cons_succ]
  refine headY (v := ?_) (some 67) rfl rfl (Or.inl ⟨by rfl, ?_⟩) hS ?_
  rotate_left
  · rintro W' _; go_simp; try with_reducible rfl
  simp only [Act.put, List.setIfInBounds_toArray, List.set_cons_zero, List.set_cons_succ]
  refine headY (v := ?_) (some 68) rfl rfl (Or.inl ⟨by rfl, ?_⟩) hS ?_
  rotate_left
  · rintro W' _; go_simp; try with_reducible rfl
  simp only [Act.put, List.setIfInBounds_toArray, List.set_cons_zero, List.set_cons_succ]
  refine headY (v := ?_) (some 69) rfl rfl (Or.inl ⟨by rfl, ?_⟩) hS ?_
  rotate_left
  · rintro W' _; go_simp; try with_reducible rfl
  simp only [Act.put, List.setIfInBounds_toArray, List.set_cons_zero, List.set_cons_succ]
  refine headY (v := ?_) (some 70) rfl rfl (Or.inl ⟨by rfl, ?_⟩) hS ?_
  rotate_left
  · rintro W' _; go_simp; try with_reducible rfl
  simp only [Act.put, List.setIfInBounds_toArray, List.set_cons_zero, List.set_cons_succ]
  refine headY (v := ?_) (some 71) rfl rfl (Or.inl ⟨by rfl, ?_⟩) hS ?_
  rotate_left
  · rintro W' _; go_simp; try with_reducible rfl
  simp only [Act.put, List.setIfInBounds_toArray, List.set_cons_zero, List.set_cons_succ]
  refine headY (v := ?_) (some 72) rfl rfl (Or.inl ⟨by rfl, ?_⟩) hS ?_
  rotate_left
  · rintro W' _; go_simp; try with_reducible rfl
  simp only [Act.put, List.setIfInBounds_toArray, List.set_cons_zero, List.set_cons_succ]
  refine headY (v := ?_) (some 73) rfl rfl (Or.inl ⟨by rfl, ?_⟩) hS ?_
  rotate_left
  · rintro W' _; go_simp; try with_reducible rfl
  simp only [Act.put, List.setIfInBounds_toArray, List.set_cons_zero, List.set_cons_succ]
  refine headY (v := ?_) (some 74) rfl rfl (Or.inl ⟨by rfl, ?_⟩) hS ?_
  rotate_left
  · rintro W' _; go_simp; try with_reducible rfl
  simp only [Act.put, List.setIfInBounds_toArray, List.set_cons_zero, List.set_cons_succ]
  refine headY (v := ?_) (some 75) rfl rfl (Or.inl ⟨by rfl, ?_⟩) hS ?_
  rotate_left
  · rintro W' _; go_simp; try with_reducible rfl
  simp only [Act.put, List.setIfInBounds_toArray, List.set_cons_zero, List.set_cons_succ]
  refine headY (v := ?_) (some 76) rfl rfl (Or.inl ⟨by rfl, ?_⟩) hS ?_
  rotate_left
  · rintro W' _; go_simp; try with_reducible rfl
  simp only [Act.put, List.setIfInBounds_toArray, List.set_cons_zero, List.set_cons_succ]
  refine headC rfl (fun KK hK => ?_)
  go_simp
  refine hq1.out.mono ?_
  rintro e w6 ⟨n6, rfl, rfl⟩
  refine hK _ _ hS ?_
  clear hK KK hq1
  have c6 := below_drewN c5 n6
  have b06 := below_drewN b05 n6
  obtain ⟨W6, hW6⟩ : ∃ W : World, W5.drewN n6 = W := ⟨_, rfl⟩
  have hGA6 : IntsAt W6 (.slice ga1 ga2 ga3) (a.drop (a.length - 2 * R)) := by rw [← hW6]; exact hGA.out.drewN n6
  have hGB6 : IntsAt W6 (.slice gb1 gb2 gb3) (b.drop (b.length - 2 * R)) := by rw [← hW6]; exact hGB.out.drewN n6
  rw [hW6] at c6 b06 ⊢
  clear hW6
  by_cases hfr : a.take (2 * R) = b.take (2 * R)
  case neg =>
    have he := he4.out
    rw [if_pos (.inr (.inl hfr))] at he
    replace he := Lib.hid he
    rw [decide_eq_false hfr]
    clear hfr hGA6 hGB6
    refine headY (v := ?_) (some 78) rfl rfl (Or.inl ⟨by rfl, ?_⟩) hS ?_
    rotate_left
    · rintro W' _; go_simp; try with_reducible rfl
    simp only [Act.put, List.setIfInBounds_toArray, List.set_cons_zero, List.set_cons_succ]
    refine headY (v := ?_) (some 79) rfl rfl (Or.inl ⟨by rfl, ?_⟩) hS ?_
    rotate_left
    · rintro W' _; go_simp; try with_reducible rfl
    simp only [Act.put, List.setIfInBounds_toArray, List.set_cons_zero, List.set_cons_succ]
    refine headY (v := ?_) (some 80) rfl rfl (Or.inl ⟨by rfl, ?_⟩) hS ?_
    rotate_left
    · rintro W' _; go_simp; try with_reducible rfl
    simp only [Act.put, List.setIfInBounds_toArray, List.set_cons_zero, List.set_cons_succ]
    refine headY (v := undef) (some 81) rfl rfl (Or.inr ⟨by rfl, rfl⟩) hS ?_
    simp only [Act.put, List.setIfInBounds_toArray, List.set_cons_zero, List.set_cons_succ]
    refine headY (v := undef) (some 82) rfl rfl (Or.inr ⟨by rfl, rfl⟩) hS ?_
    simp only [Act.put, List.setIfInBounds_toArray, List.set_cons_zero, List.set_cons_succ]
    refine headY (v := undef) (some 83) rfl rfl (Or.inr ⟨by rfl, rfl⟩) hS ?_
    simp only [Act.put, List.setIfInBounds_toArray, List.set_cons_zero, List.set_cons_succ]
    refine headY (v := undef) (some 84) rfl rfl (Or.inr ⟨by rfl, rfl⟩) hS ?_
    simp only [Act.put, List.setIfInBounds_toArray, List.set_cons_zero, List.set_cons_succ]
    refine headY (v := undef) (some 85) rfl rfl (Or.inr ⟨by rfl, rfl⟩) hS ?_
    simp only [Act.put, List.setIfInBounds_toArray, List.set_cons_zero, List.set_cons_succ]
    refine headY (v := undef) (some 86) rfl rfl (Or.inr ⟨by rfl, rfl⟩) hS ?_
    simp only [Act.put, List.setIfInBounds_toArray, List.set_cons_zero, List.set_cons_succ]
    refine headY (v := undef) (some 87) rfl rfl (Or.inr ⟨by rfl, rfl⟩) hS ?_
    simp only [Act.put, List.setIfInBounds_toArray, List.set_cons_zero, List.set_cons_succ]
    refine headY (v := undef) (some 88) rfl rfl (Or.inr ⟨by rfl, rfl⟩) hS ?_
    simp only [Act.put, List.setIfInBounds_toArray, List.set_cons_zero, List.set_cons_succ]
    refine headY (v := undef) (some 89) rfl rfl (Or.inr ⟨by rfl, rfl⟩) hS ?_
    simp only [Act.put, List.setIfInBounds_toArray, List.set_cons_zero, List.set_cons_succ]
    refine headY (v := undef) (some 90) rfl rfl (Or.inr ⟨by rfl, rfl⟩) hS ?_
    simp only [Act.put, List.setIfInBounds_toArray, List.set_cons_zero, List.set_cons_succ]
    refine headY (v := undef) (some 91) rfl rfl (Or.inr ⟨by rfl, rfl⟩) hS ?_
    simp only [Act.put, List.setIfInBounds_toArray, List.set_cons_zero, List.set_cons_succ]
    refine headY (v := undef) (some 92) rfl rfl (Or.inr ⟨by rfl, rfl⟩) hS ?_
    simp only [Act.put, List.setIfInBounds_toArray, List.set_cons_zero, List.set_cons_succ]
    refine headC rfl (fun KK hK => ?_)
    go_simp
    refine hK _ _ hS ?_
    clear hK KK
    refine headY (v := undef) (some 94) rfl rfl (Or.inr ⟨by rfl, rfl⟩) hS ?_
    simp only [Act.put, List.setIfInBounds_toArray, List.set_cons_zero, List.set_cons_succ]
    refine headY (v := ?_) (some 95) rfl rfl (Or.inl ⟨by rfl, ?_⟩) hS ?_
    rotate_left
    · rintro W' _; go_simp; try with_reducible rfl
    simp only [Act.put, List.setIfInBounds_toArray, List.set_cons_zero, List.set_cons_succ]
    refine head0 ?_
    simp only [List.drop_succ_cons, List.drop_zero]
    clear z0 z1 z2
    obtain ⟨⟨z0, z1, z2⟩, -, -, -⟩ := q.below c6
    go_wp2
    refine NoPanic.normal ?_
    go_wp2_with fail
    refine (tcheck1_any r 2 3 W6 (hg.out.below c6) (by decide) (by decide)).mono ?_
    rintro e w9 ⟨y, rfl, b9, hy⟩
    obtain ⟨T9, a9, rfl⟩ := fresh_shape hy
    replace hy := Lib.hid hy
    clear z0 z1 z2
    go_wp2
    go_ret
    exact ⟨_, rfl, Below.step b06 b9, by rw [← he.out]; exact hy.out⟩
  rw [decide_eq_true hfr]
  have hq2 := equal_any _ _ _ _ W6 hGA6 hGB6
  replace hfr := Lib.hid hfr
  replace hq2 := Lib.hid hq2
  clear hGA6 hGB6
  refine headY (v := ?_) (some 78) rfl rfl (Or.inl ⟨by rfl, ?_⟩) hS ?_
  rotate_left
  · rintro W' _; go_simp; try with_reducible rfl
  simp only [Act.put, List.setIfInBounds_toArray, List.set_cons_zero, List.set_cons_succ]
  refine headY (v := ?_) (some 79) rfl rfl (Or.inl ⟨by rfl, ?_⟩) hS ?_
  rotate_left
  · rintro W' _; go_simp; try with_reducible rfl
  simp only [Act.put, List.setIfInBounds_toArray, List.set_cons_zero, List.set_cons_succ]
  refine headY (v := ?_) (some 80) rfl rfl (Or.inl ⟨by rfl, ?_⟩) hS ?_
  rotate_left
  · rintro W' _; go_simp; try with_reducible rfl
  simp only [Act.put, List.setIfInBounds_toArray, List.set_cons_zero, List.set_cons_succ]
  refine headY (v := ?_) (some 81) rfl rfl (Or.inl ⟨by rfl, ?_⟩) hS ?_
  rotate_left
  · rintro W' _; go_simp; try with_reducible rfl
  simp only [Act.put, List.setIfInBounds_toArray, List.set_cons_zero, List.set_cons_succ]
  refine headY (v := ?_) (some 82) rfl rfl (Or.inl ⟨by rfl, ?_⟩) hS ?_
  rotate_left
  · rintro W' _; go_simp; try with_reducible rfl
  simp only [Act.put, List.setIfInBounds_toArray, List.set_cons_zero, List.set_cons_succ]
  refine headY (v := ?_) (some 83) rfl rfl (Or.inl ⟨by rfl, ?_⟩) hS ?_
  rotate_left
  · rintro W' _; go_simp; try with_reducible rfl
  simp only [Act.put, List.setIfInBounds_toArray, List.set_cons_zero, List.set_cons_succ]
  refine headY (v := ?_) (some 84) rfl rfl (Or.inl ⟨by rfl, ?_⟩) hS ?_
  rotate_left
  · rintro W' _; go_simp; try with_reducible rfl
  simp only [Act.put, List.setIfInBounds_toArray, List.set_cons_zero, List.set_cons_succ]
  refine headY (v := ?_) (some 85) rfl rfl (Or.inl ⟨by rfl, ?_⟩) hS ?_
  rotate_left
  · rintro W' _; go_simp; try with_reducible rfl
  simp only [Act.put, List.setIfInBounds_toArray, List.set_cons_zero, List.set_cons_succ]
  refine headY (v := ?_) (some 86) rfl rfl (Or.inl ⟨by rfl, ?_⟩) hS ?_
  rotate_left
  · rintro W' _; go_simp; try with_reducible rfl
  simp only [Act.put, List.setIfInBounds_toArray, List.set_cons_zero, List.set_cons_succ]
  refine headY (v := ?_) (some 87) rfl rfl (Or.inl ⟨by rfl, ?_⟩) hS ?_
  rotate_left
  · rintro W' _; go_simp; try with_reducible rfl
  simp only [Act.put, List.setIfInBounds_toArray, List.set_cons_zero, List.set_cons_succ]
  refine headY (v := ?_) (some 88) rfl rfl (Or.inl ⟨by rfl, ?_⟩) hS ?_
  rotate_left
  · rintro W' _; go_simp; try with_reducible rfl
  simp only [Act.put, List.setIfInBounds_toArray, List.set_cons_zero, List.set_cons_succ]
  refine headY (v := ?_) (some 89) rfl rfl (Or.inl ⟨by rfl, ?_⟩) hS ?_
  rotate_left
  · rintro W' _; go_simp; try with_reducible rfl
  simp only [Act.put, List.setIfInBounds_toArray, List.set_cons_zero, List.set_cons_succ]
  refine headY (v := ?_) (some 90) rfl rfl (Or.inl ⟨by rfl, ?_⟩) hS ?_
  rotate_left
  · rintro W' _; go_simp; try with_reducible rfl
  simp only [Act.put, List.setIfInBounds_toArray, List.set_cons_zero, List.set_cons_succ]
  refine headY (v := ?_) (some 91) rfl rfl (Or.inl ⟨by rfl, ?_⟩) hS ?_
  rotate_left
  · rintro W' _; go_simp; try with_reducible rfl
  simp only [Act.put, List.setIfInBounds_toArray, List.set_cons_zero, List.set_cons_succ]
  refine headY (v := ?_) (some 92) rfl rfl (Or.inl ⟨by rfl, ?_⟩) hS ?_
  rotate_left
  · rintro W' _; go_simp; try with_reducible rfl
  simp only [Act.put, List.setIfInBounds_toArray, List.set_cons_zero, List.set_cons_succ]
  refine headC rfl (fun KK hK => ?_)
  go_simp
  refine hq2.out.mono ?_
  rintro e w7 ⟨n7, rfl, rfl⟩
  refine hK _ _ hS ?_
  clear hK KK hq2
  have c7 := below_drewN c6 n7
  have b07 := below_drewN b06 n7
  obtain ⟨W7, hW7⟩ : ∃ W : World, W6.drewN n7 = W := ⟨_, rfl⟩
  rw [hW7] at c7 b07 ⊢
  clear hW7
  by_cases hbk : a.drop (a.length - 2 * R) = b.drop (b.length - 2 * R)
  case neg =>
    have he := he4.out
    rw [if_pos (.inr (.inr hbk))] at he
    replace he := Lib.hid he
    rw [decide_eq_false hbk]
    clear hbk
    refine headY (v := ?_) (some 94) rfl rfl (Or.inl ⟨by rfl, ?_⟩) hS ?_
    rotate_left
    · rintro W' _; go_simp; try with_reducible rfl
    simp only [Act.put, List.setIfInBounds_toArray, List.set_cons_zero, List.set_cons_succ]
    refine headY (v := ?_) (some 95) rfl rfl (Or.inl ⟨by rfl, ?_⟩) hS ?_
    rotate_left
    · rintro W' _; go_simp; try with_reducible rfl
    simp only [Act.put, List.setIfInBounds_toArray, List.set_cons_zero, List.set_cons_succ]
    refine head0 ?_
    simp only [List.drop_succ_cons, List.drop_zero]
    clear z0 z1 z2
    obtain ⟨⟨z0, z1, z2⟩, -, -, -⟩ := q.below c7
    go_wp2
    refine NoPanic.normal ?_
    go_wp2_with fail
    refine (tcheck1_any r 2 3 W7 (hg.out.below c7) (by decide) (by decide)).mono ?_
    rintro e w9 ⟨y, rfl, b9, hy⟩
    obtain ⟨T9, a9, rfl⟩ := fresh_shape hy
    replace hy := Lib.hid hy
    clear z0 z1 z2
    go_wp2
    go_ret
    exact ⟨_, rfl, Below.step b07 b9, by rw [← he.out]; exact hy.out⟩
  rw [decide_eq_true hbk]
  have he5 := he4.out
  rw [if_neg (fun q => q.elim hlow (fun q => q.elim (fun q => q hfr.out) (fun q => q hbk)))] at he5
  replace he5 := Lib.hid he5
  replace hbk := Lib.hid hbk
  clear he4
  refine headY (v := ?_) (some 94) rfl rfl (Or.inl ⟨by rfl, ?_⟩) hS ?_
  rotate_left
  · rintro W' _; go_simp; try with_reducible rfl
  simp only [Act.put, List.setIfInBounds_toArray, List.set_cons_zero, List.set_cons_succ]
  refine headY (v := ?_) (some 95) rfl rfl (Or.inl ⟨by rfl, ?_⟩) hS ?_
  rotate_left
  · rintro W' _; go_simp; try with_reducible rfl
  simp only [Act.put, List.setIfInBounds_toArray, List.set_cons_zero, List.set_cons_succ]
  refine head0 ?_
  simp only [List.drop_succ_cons, List.drop_zero]
  clear z0 z1 z2
  obtain ⟨⟨z0, z1, z2⟩, -, -, -⟩ := q.below c7
  obtain ⟨W8, hW8⟩ : ∃ W : World, W7.drew = W := ⟨_, rfl⟩
  have c8 : Below W0.heap.size W0 W8 := by rw [← hW8]; exact c7.drew
  have b08 : Below w.heap.size w W8 := by rw [← hW8]; exact b07.drew
  replace hW8 := Lib.hid hW8
  go_wp2
  refine NoPanic.normal ?_
  go_upto_region 18 with fail
  have hS8 : W8.cell? ⟨w.heap.size, 0, none⟩ = some (.int .i64 K) ∧ W8.cell? ⟨w.heap.size, 1, none⟩ = some (.int .i64 R) ∧ W8.cell? ⟨w.heap.size, 2, none⟩ = some (.slice va vn vc) := by
    obtain ⟨⟨y0, y1, y2⟩, -, -, -⟩ := q.below c8
    exact ⟨y0, y1, y2⟩
  refine wp_region_plan (fun w' => w'.cell? ⟨w.heap.size, 0, none⟩ = some (.int .i64 K) ∧ w'.cell? ⟨w.heap.size, 1, none⟩ = some (.int .i64 R) ∧ w'.cell? ⟨w.heap.size, 2, none⟩ = some (.slice va vn vc)) 8 [(0, true), (1, true), (3, true), (4, true), (2, false), (5, false), (6, false), (7, true)] (by kernel_rfl) (by kernel_rfl) ?_
  rw [hW8.out]
  clear z0 z1 z2
  refine headY (v := ?_) (some 99) rfl rfl (Or.inl ⟨by rfl, ?_⟩) hS8 ?_
  rotate_left
  · rintro W' ⟨s0, s1, s2⟩; go_simp; try with_reducible rfl
  simp only [Act.put, List.setIfInBounds_toArray, List.set_cons_zero, List.set_cons_succ]
  refine headY (v := ?_) (some 100) rfl rfl (Or.inl ⟨by rfl, ?_⟩) hS8 ?_
  rotate_left
  · rintro W' ⟨s0, s1, s2⟩; go_simp; try with_reducible rfl
  simp only [Act.put, List.setIfInBounds_toArray, List.set_cons_zero, List.set_cons_succ]
  refine headY (v := ?_) (some 102) rfl rfl (Or.inl ⟨by rfl, ?_⟩) hS8 ?_
  rotate_left
  · rintro W' ⟨s0, s1, s2⟩; go_simp; try with_reducible rfl
  simp only [Act.put, List.setIfInBounds_toArray, List.set_cons_zero, List.set_cons_succ]
  refine headY (v := ?_) (some 103) rfl rfl (Or.inl ⟨by rfl, ?_⟩) hS8 ?_
  rotate_left
  · rintro W' ⟨s0, s1, s2⟩; go_simp; try with_reducible rfl
  simp only [Act.put, List.setIfInBounds_toArray, List.set_cons_zero, List.set_cons_succ]
  refine headC rfl (fun KK hK => ?_)
  go_simp
  refine (timage_ok K R va vn vc T _ a W8 (h.out.below c8) hr.out (hu.out.below c8) sA.out (by omega)).mono ?_
  rintro e w9 ⟨x1, rfl, b9, ho1⟩
  have c9 := Below.step c8 b9
  have hS9 : w9.cell? ⟨w.heap.size, 0, none⟩ = some (.int .i64 K) ∧ w9.cell? ⟨w.heap.size, 1, none⟩ = some (.int .i64 R) ∧ w9.cell? ⟨w.heap.size, 2, none⟩ = some (.slice va vn vc) := by
    obtain ⟨⟨y0, y1, y2⟩, -, -, -⟩ := q.below c9
    exact ⟨y0, y1, y2⟩
  obtain ⟨x1a, x1b, x1c, rfl⟩ := ho1.at.shape
  replace ho1 := Lib.hid ho1
  refine hK _ _ hS9 ?_
  clear hK KK hS8
  refine headC rfl (fun KK hK => ?_)
  go_simp
  refine (timage_ok K R va vn vc T _ b w9 (h.out.below c9) hr.out (hv.out.below c9) sB.out (by omega)).mono ?_
  rintro e w10 ⟨x2, rfl, b10, ho2⟩
  have c10 := Below.step c9 b10
  have b010 := Below.step (Below.step b08 b9) b10
  have hS10 : w10.cell? ⟨w.heap.size, 0, none⟩ = some (.int .i64 K) ∧ w10.cell? ⟨w.heap.size, 1, none⟩ = some (.int .i64 R) ∧ w10.cell? ⟨w.heap.size, 2, none⟩ = some (.slice va vn vc) := by
    obtain ⟨⟨y0, y1, y2⟩, -, -, -⟩ := q.below c10
    exact ⟨y0, y1, y2⟩
  obtain ⟨x2a, x2b, x2c, rfl⟩ := ho2.at.shape
  have hq3 := equal_any _ _ _ _ w10 (ho1.out.at.below b10) ho2.at
  replace hq3 := Lib.hid hq3
  replace ho2 := Lib.hid ho2
  refine hK _ _ hS10 ?_
  clear hK KK hS9
  refine headC rfl (fun KK hK => ?_)
  go_simp
  refine hq3.out.mono ?_
  rintro e w11 ⟨n11, rfl, rfl⟩
  have c11 := below_drewN c10 n11
  have b011 := below_drewN b010 n11
  refine hK _ _ hS10 ?_
  clear hK KK hq3
  obtain ⟨W11, hW11⟩ : ∃ W : World, w10.drewN n11 = W := ⟨_, rfl⟩
  have hS11 : W11.cell? ⟨w.heap.size, 0, none⟩ = some (.int .i64 K) ∧ W11.cell? ⟨w.heap.size, 1, none⟩ = some (.int .i64 R) ∧ W11.cell? ⟨w.heap.size, 2, none⟩ = some (.slice va vn vc) := by rw [← hW11]; exact hS10
  rw [hW11] at c11 b011 ⊢
  clear hS10 hW11
  refine headY (v := ?_) (some 106) rfl rfl (Or.inl ⟨by rfl, ?_⟩) hS11 ?_
  rotate_left
  · rintro W' ⟨s0, s1, s2⟩; go_simp; try with_reducible rfl
  simp only [Act.put, List.setIfInBounds_toArray, List.set_cons_zero, List.set_cons_succ]
  refine head0 ?_
  simp only [List.drop_succ_cons, List.drop_zero]
  obtain ⟨z0, z1, z2⟩ := hS11
  by_cases him : imgP K R T a = imgP K R T b
  · have he := he5.out
    rw [if_neg (fun q => q him)] at he
    replace he := Lib.hid he
    rw [decide_eq_true him]
    replace him := Lib.hid him
    go_wp2
    refine NoPanic.normal ?_
    go_wp2
    go_ret
    exact ⟨_, rfl, b011, by rw [← he.out]; rfl⟩
  · have he := he5.out
    rw [if_pos him] at he
    replace he := Lib.hid he
    rw [decide_eq_false him]
    clear him
    go_wp2
    refine NoPanic.normal ?_
    go_wp2_with fail
    refine (tcheck1_any r 3 3 W11 (hg.out.below c11) (by decide) (by decide)).mono ?_
    rintro e w9 ⟨y, rfl, b9, hy⟩
    obtain ⟨T9, a9, rfl⟩ := fresh_shape hy
    replace hy := Lib.hid hy
    clear z0 z1 z2
    go_wp2
    go_ret
    exact ⟨_, rfl, Below.step b011 b9, by rw [← he.out]; exact hy.out⟩
end Go.Proofs.YtilpckngghffoaaDoor

namespace Go.Proofs.YtilpckngghffoaaDoor

/-- The search: the levels D, the queue q; the first i of it have been gone through, and of the next, v, the arrows to pre. -/
structure MIn (N : Nat) (adj : Nat → List Nat) (D : Nat → Nat) (q : List Nat) (i v : Nat) (pre : List Nat) : Prop where
  at_ : q[i]? = some v
  nodup : q.Nodup
  low : ∀ x ∈ q, x < N * N
  diag : ∀ x, x < N * N → Diag N x → x ∈ q ∧ D x = 0
  old : ∀ x, x < N * N → ¬ Diag N x → (x ∈ q ↔ 0 < D x)
  mono : ∀ (j k x y : Nat), j ≤ k → q[j]? = some x → q[k]? = some y → D x ≤ D y
  top : ∀ x ∈ q, D x ≤ D v + 1
  bnd : ∀ x ∈ q, D x ≤ q.length
  done : ∀ (k x : Nat), k < i → q[k]? = some x → ∀ t ∈ adj x, (¬ Diag N t → t ∈ q ∧ D t ≤ D x + 1) ∧ (Diag N t → Diag N x)
  now : ∀ t ∈ pre, (¬ Diag N t → t ∈ q ∧ D t ≤ D v + 1) ∧ (Diag N t → Diag N v)
/-- Between two of the queue: the first i have been gone through. -/
structure MOut (N : Nat) (adj : Nat → List Nat) (D : Nat → Nat) (q : List Nat) (i : Nat) : Prop where
  nodup : q.Nodup
  low : ∀ x ∈ q, x < N * N
  diag : ∀ x, x < N * N → Diag N x → x ∈ q ∧ D x = 0
  old : ∀ x, x < N * N → ¬ Diag N x → (x ∈ q ↔ 0 < D x)
  mono : ∀ (j k x y : Nat), j ≤ k → q[j]? = some x → q[k]? = some y → D x ≤ D y
  top : ∀ v : Nat, q[i]? = some v → ∀ x ∈ q, D x ≤ D v + 1
  bnd : ∀ x ∈ q, D x ≤ q.length
  done : ∀ (k x : Nat), k < i → q[k]? = some x → ∀ t ∈ adj x, (¬ Diag N t → t ∈ q ∧ D t ≤ D x + 1) ∧ (Diag N t → Diag N x)
section
variable {N : Nat} {adj : Nat → List Nat} {D : Nat → Nat} {q : List Nat} {i v : Nat} {pre : List Nat}
/-- The pairs of equal nodes, in order. -/
def diags (N : Nat) : List Nat := (List.range N).map fun u => u * N + u
theorem mem_diags {N x : Nat} : x ∈ diags N ↔ ∃ u, u < N ∧ x = u * N + u := by
  unfold diags; rw [List.mem_map]
  constructor
  · rintro ⟨u, h, rfl⟩; exact ⟨u, List.mem_range.1 h, rfl⟩
  · rintro ⟨u, h, rfl⟩; exact ⟨u, List.mem_range.2 h, rfl⟩
theorem MOut.init (N : Nat) (adj : Nat → List Nat) : MOut N adj (fun _ => 0) (diags N) 0 := by
  refine ⟨?_, fun x hx => ?_, fun x hx hd => ⟨mem_diags.2 ⟨x / N, div_lt_of hx, hd.eq⟩, rfl⟩, fun x hx hd => ⟨fun h => ?_, fun h => absurd h (by simp)⟩, fun _ _ _ _ _ _ _ => Nat.le_refl _, fun _ _ _ _ => by simp, fun _ _ => Nat.zero_le _, fun k x hk => by omega⟩
  · unfold diags
    rw [List.nodup_iff_pairwise_ne, List.pairwise_map]
    refine List.pairwise_lt_range.imp_of_mem fun {a b} ha hb h e => ?_
    have hb := List.mem_range.1 hb
    have := Nat.mul_le_mul_right N (show a + 1 ≤ b by omega)
    rw [Nat.add_mul] at this
    omega
  · obtain ⟨u, hu, rfl⟩ := mem_diags.1 hx
    exact pair_lt hu hu
  · obtain ⟨u, hu, rfl⟩ := mem_diags.1 h
    exact absurd (diag_mk hu) hd
theorem MOut.enter (h : MOut N adj D q i) (hv : q[i]? = some v) : MIn N adj D q i v [] :=
  ⟨hv, h.nodup, h.low, h.diag, h.old, h.mono, h.top v hv, h.bnd, h.done, fun _ ht => by cases ht⟩
theorem MIn.leave (h : MIn N adj D q i v pre) (hp : pre = adj v) : MOut N adj D q (i + 1) := by
  subst hp
  refine ⟨h.nodup, h.low, h.diag, h.old, h.mono, fun y hy x hx => ?_, h.bnd, fun k x hk hx => ?_⟩
  · have := h.mono i (i + 1) v y (by omega) h.at_ hy
    have := h.top x hx
    omega
  · by_cases e : k = i
    · subst e
      rw [h.at_] at hx; cases hx
      exact h.now
    · exact h.done k x (by omega) hx
/-- An arrow that is passed over: to a pair of equal nodes from one, to one that has come up. -/
theorem MIn.skip (h : MIn N adj D q i v pre) {t : Nat} (ht : (Diag N t ∧ Diag N v) ∨ (¬ Diag N t ∧ t ∈ q)) : MIn N adj D q i v (pre ++ [t]) := by
  refine ⟨h.at_, h.nodup, h.low, h.diag, h.old, h.mono, h.top, h.bnd, h.done, fun s hs => ?_⟩
  rcases List.mem_append.1 hs with hs | hs
  · exact h.now s hs
  · cases List.mem_singleton.1 hs
    rcases ht with ⟨h1, h2⟩ | ⟨h1, h2⟩
    · exact ⟨fun q => absurd h1 q, fun _ => h2⟩
    · exact ⟨fun _ => ⟨h2, h.top _ h2⟩, fun q => absurd q h1⟩
/-- A new one. -/
theorem MIn.add (h : MIn N adj D q i v pre) {t : Nat} (htl : t < N * N) (ht : ¬ Diag N t) (hq : t ∉ q) : MIn N adj (updN D t (D v + 1)) (q ++ [t]) i v (pre ++ [t]) := by
  have hi : i < q.length := (List.getElem?_eq_some_iff.1 h.at_).1
  have hvq : v ∈ q := List.mem_of_getElem? h.at_
  have hvt : v ≠ t := fun e => hq (by rw [← e]; exact hvq)
  have hD : ∀ x, x ∈ q → updN D t (D v + 1) x = D x := fun x hx => updN_other _ _ _ (fun e => hq (by rw [← e]; exact hx))
  have hget : ∀ k x, (q ++ [t])[k]? = some x → (q[k]? = some x ∧ k < q.length) ∨ (k = q.length ∧ x = t) := fun k x hx => by
    rw [List.getElem?_append] at hx
    split at hx
    · exact .inl ⟨hx, by assumption⟩
    · right
      cases hk : k - q.length with
      | zero => rw [hk] at hx; simp at hx; exact ⟨by omega, hx.symm⟩
      | succ n => rw [hk] at hx; simp at hx
  refine ⟨by rw [List.getElem?_append_left hi]; exact h.at_, List.nodup_append.2 ⟨h.nodup, by simp, fun a ha b hb e => by cases List.mem_singleton.1 hb; subst e; exact hq ha⟩, fun x hx => ?_, fun x hx hd => ?_, fun x hx hd => ?_, fun j k x y hjk hx hy => ?_, fun x hx => ?_, fun x hx => ?_, fun k x hk hx s hs => ?_, fun s hs => ?_⟩
  · rcases List.mem_append.1 hx with hx | hx
    · exact h.low x hx
    · cases List.mem_singleton.1 hx; exact htl
  · obtain ⟨h1, h2⟩ := h.diag x hx hd
    exact ⟨List.mem_append_left _ h1, by rw [hD x h1]; exact h2⟩
  · by_cases e : x = t
    · subst e; rw [updN_same]; simp
    · rw [updN_other _ _ _ e, ← h.old x hx hd]; simp [e]
  · rcases hget j x hx with ⟨a1, _⟩ | ⟨a1, rfl⟩
    · rw [hD x (List.mem_of_getElem? a1)]
      rcases hget k y hy with ⟨b1, _⟩ | ⟨b1, rfl⟩
      · rw [hD y (List.mem_of_getElem? b1)]; exact h.mono j k x y hjk a1 b1
      · rw [updN_same]; exact h.top x (List.mem_of_getElem? a1)
    · rcases hget k y hy with ⟨b1, b2⟩ | ⟨b1, rfl⟩
      · omega
      · exact Nat.le_refl _
  · rw [updN_other D t (D v + 1) hvt]
    rcases List.mem_append.1 hx with hx | hx
    · rw [hD x hx]; exact h.top x hx
    · cases List.mem_singleton.1 hx; rw [updN_same]; exact Nat.le_refl _
  · rw [List.length_append, List.length_singleton]
    rcases List.mem_append.1 hx with hx | hx
    · rw [hD x hx]; have := h.bnd x hx; omega
    · cases List.mem_singleton.1 hx; rw [updN_same]; have := h.bnd v hvq; omega
  · rcases hget k x hx with ⟨a1, _⟩ | ⟨a1, rfl⟩
    · rw [hD x (List.mem_of_getElem? a1)]
      obtain ⟨c1, c2⟩ := h.done k x hk a1 s hs
      exact ⟨fun q' => by
        obtain ⟨d1, d2⟩ := c1 q'
        exact ⟨List.mem_append_left _ d1, by rw [hD s d1]; exact d2⟩, c2⟩
    · omega
  · rw [updN_other D t (D v + 1) hvt]
    rcases List.mem_append.1 hs with hs | hs
    · obtain ⟨c1, c2⟩ := h.now s hs
      exact ⟨fun q' => by
        obtain ⟨d1, d2⟩ := c1 q'
        exact ⟨List.mem_append_left _ d1, by rw [hD s d1]; exact d2⟩, c2⟩
    · cases List.mem_singleton.1 hs
      exact ⟨fun _ => ⟨List.mem_append_right _ (by simp), by rw [updN_same]; exact Nat.le_refl _⟩, fun q' => absurd q' ht⟩
/-- Of a way, whose vertices are gone through as far as j, the next one lies in the queue. -/
theorem MOut.along (h : MOut N adj D q i) {u : List Nat} (hu : ApartWay N adj u) : ∀ j, j + 1 < u.length →
    (∃ k, k ≤ j ∧ u.getD k 0 ∈ q ∧ D (u.getD k 0) ≤ k ∧ ∀ m, m < i → q[m]? ≠ some (u.getD k 0)) ∨ (u.getD j 0 ∈ q ∧ D (u.getD j 0) ≤ j ∧ ∃ m, m < i ∧ q[m]? = some (u.getD j 0))
  | 0, h1 => by
    obtain ⟨a, b⟩ := h.diag _ (hu.low 0 (by omega)) hu.fst
    by_cases q' : ∃ m, m < i ∧ q[m]? = some (u.getD 0 0)
    · exact .inr ⟨a, by omega, q'⟩
    · exact .inl ⟨0, Nat.le_refl _, a, by omega, fun m hm e => q' ⟨m, hm, e⟩⟩
  | j + 1, h1 => by
    rcases h.along hu j (by omega) with ⟨k, k1, k2, k3, k4⟩ | ⟨_, a2, m, m1, m2⟩
    · exact .inl ⟨k, by omega, k2, k3, k4⟩
    · obtain ⟨c1, _⟩ := h.done m _ m1 m2 _ (hu.arr j (by omega))
      obtain ⟨d1, d2⟩ := c1 (hu.inn (j + 1) (by omega) h1)
      by_cases q' : ∃ m, m < i ∧ q[m]? = some (u.getD (j + 1) 0)
      · exact .inr ⟨d1, by omega, q'⟩
      · exact .inl ⟨j + 1, Nat.le_refl _, d1, by omega, fun m hm e => q' ⟨m, hm, e⟩⟩
/-- At the end of the queue: there is no such way. -/
theorem MOut.none (h : MOut N adj D q i) (hi : q.length ≤ i) (u : List Nat) : ¬ ApartWay N adj u := fun hu => by
  have h3 := hu.len
  rcases h.along hu (u.length - 2) (by omega) with ⟨k, _, k2, _, k4⟩ | ⟨_, _, m, m1, m2⟩
  · obtain ⟨m, hm⟩ := List.mem_iff_getElem?.1 k2
    have := (List.getElem?_eq_some_iff.1 hm).1
    exact k4 m (by omega) hm
  · obtain ⟨_, c2⟩ := h.done m _ m1 m2 _ (hu.arr (u.length - 2) (by omega))
    refine hu.inn (u.length - 2) (by omega) (by omega) (c2 ?_)
    rw [show u.length - 2 + 1 = u.length - 1 by omega]
    exact hu.lst
/-- Whoever is met from v: no way is shorter. -/
theorem MIn.best (h : MIn N adj D q i v pre) {u : List Nat} (hu : ApartWay N adj u) : D v + 3 ≤ u.length + 1 := by
  have h3 := hu.len
  have ho : MOut N adj D q i := ⟨h.nodup, h.low, h.diag, h.old, h.mono, fun y hy => by rw [h.at_] at hy; cases hy; exact h.top, h.bnd, h.done⟩
  rcases ho.along hu (u.length - 2) (by omega) with ⟨k, k1, k2, k3, k4⟩ | ⟨_, _, m, m1, m2⟩
  · obtain ⟨m, hm⟩ := List.mem_iff_getElem?.1 k2
    have hmi : i ≤ m := Nat.le_of_not_lt fun q' => k4 m q' hm
    have := h.mono i m v _ hmi h.at_ hm
    omega
  · obtain ⟨_, c2⟩ := h.done m _ m1 m2 _ (hu.arr (u.length - 2) (by omega))
    refine absurd (c2 ?_) (hu.inn (u.length - 2) (by omega) (by omega))
    rw [show u.length - 2 + 1 = u.length - 1 by omega]
    exact hu.lst

/-- From whom each came. -/
def CameOf (N : Nat) (adj : Nat → List Nat) (D : Nat → Nat) (q : List Nat) (came : Nat → Int) : Prop :=
  (∀ x, x < N * N → ((came x < 0 ↔ Diag N x ∨ x ∉ q) ∧ (came x < 0 → came x = -1))) ∧ ∀ x, x < N * N → 0 ≤ came x → ∃ p : Nat, came x = p ∧ p ∈ q ∧ x ∈ adj p ∧ D x = D p + 1
theorem CameOf.init (N : Nat) (adj : Nat → List Nat) : CameOf N adj (fun _ => 0) (diags N) (fun _ => -1) := by
  refine ⟨fun x hx => ⟨⟨fun _ => ?_, fun _ => (by show (-1 : Int) < 0; decide)⟩, fun _ => rfl⟩, fun x _ h => by simp at h⟩
  by_cases hd : Diag N x
  · exact .inl hd
  · right
    intro hm
    obtain ⟨u, hu, rfl⟩ := mem_diags.1 hm
    exact hd (diag_mk hu)
theorem CameOf.add (h : MIn N adj D q i v pre) {came : Nat → Int} (hc : CameOf N adj D q came) {t : Nat} (ht : ¬ Diag N t) (hq : t ∉ q) (ha : t ∈ adj v) : CameOf N adj (updN D t (D v + 1)) (q ++ [t]) (updN came t (v : Int)) := by
  have hvq : v ∈ q := List.mem_of_getElem? h.at_
  have hvt : v ≠ t := fun e => hq (by rw [← e]; exact hvq)
  refine ⟨fun x hx => ?_, fun x hx h0 => ?_⟩
  · by_cases e : x = t
    · subst e; rw [updN_same]
      exact ⟨⟨fun q' => by omega, fun q' => by rcases q' with q' | q'; exact absurd q' ht; exact absurd (List.mem_append_right _ (by simp)) q'⟩, fun q' => by omega⟩
    · rw [updN_other _ _ _ e]
      obtain ⟨a, b⟩ := hc.1 x hx
      refine ⟨?_, b⟩
      rw [a]; simp [e]
  · by_cases e : x = t
    · subst e
      refine ⟨v, updN_same .., List.mem_append_left _ hvq, ha, ?_⟩
      rw [updN_same, updN_other _ _ _ hvt]
    · rw [updN_other _ _ _ e] at h0 ⊢
      obtain ⟨p, p1, p2, p3, p4⟩ := hc.2 x hx h0
      refine ⟨p, p1, List.mem_append_left _ p2, p3, ?_⟩
      rw [updN_other _ _ _ e, updN_other _ _ _ (fun e' => hq (by rw [← e']; exact p2))]
      exact p4
/-- The way back from u to a pair of equal nodes. -/
inductive BackWay (N : Nat) (adj : Nat → List Nat) (came : Nat → Int) : Nat → List Nat → Prop
  | stop (x : Nat) (h : came x = -1) (hd : Diag N x) : BackWay N adj came x [x]
  | step (x p : Nat) (c : List Nat) (h : came x = p) (hd : ¬ Diag N x) (ha : x ∈ adj p) (hp : p < N * N) (hc : BackWay N adj came p c) : BackWay N adj came x (x :: c)
theorem CameOf.back {came : Nat → Int} (hq : ∀ x ∈ q, x < N * N) (h0 : ∀ x ∈ q, ¬ Diag N x → 0 < D x) (hc : CameOf N adj D q came) : ∀ n x, D x = n → x ∈ q → ∃ c, BackWay N adj came x c ∧ c.length ≤ n + 1
  | n, x, hn, hx => by
    obtain ⟨a, b⟩ := hc.1 x (hq x hx)
    by_cases hd : Diag N x
    · exact ⟨[x], .stop x (b (a.2 (.inl hd))) hd, by simp⟩
    · have h1 : 0 ≤ came x := by
        apply Classical.byContradiction
        intro q'
        rcases a.1 (by omega) with q' | q'
        · exact hd q'
        · exact q' hx
      obtain ⟨p, p1, p2, p3, p4⟩ := hc.2 x (hq x hx) h1
      obtain ⟨c, c1, c2⟩ := CameOf.back hq h0 hc (n - 1) p (by omega) p2
      exact ⟨x :: c, .step x p c p1 hd p3 (hq p p2) c1, by simp; omega⟩
termination_by n => n
decreasing_by all_goals (have := h0 x hx hd; omega)
theorem BackWay.ne {came : Nat → Int} {x : Nat} {c : List Nat} (h : BackWay N adj came x c) : ∃ c', c = x :: c' := by cases h <;> exact ⟨_, rfl⟩
theorem BackWay.next {came : Nat → Int} {x : Nat} {c : List Nat} (h : BackWay N adj came x c) (hx : x < N * N) : ∀ k y, c[k]? = some y → y < N * N ∧ ((k + 1 < c.length ∧ ∃ z, c[k + 1]? = some z ∧ came y = z) ∨ (k + 1 = c.length ∧ came y = -1)) := by
  induction h with
  | stop x h hd =>
    intro k y hy
    cases k with
    | zero => simp at hy; subst hy; exact ⟨hx, .inr ⟨rfl, h⟩⟩
    | succ k => simp at hy
  | step x p c hcm hnd ha hp hc ih =>
    intro k y hy
    obtain ⟨c', rfl⟩ := hc.ne
    cases k with
    | zero => simp at hy; subst hy; exact ⟨hx, .inl ⟨by simp, p, rfl, hcm⟩⟩
    | succ k =>
      have hy : (p :: c')[k]? = some y := by simpa using hy
      obtain ⟨h1, h2⟩ := ih hp k y hy
      refine ⟨h1, h2.imp ?_ ?_⟩
      · rintro ⟨a, z, b, d⟩; exact ⟨by simpa using a, z, by simpa using b, d⟩
      · rintro ⟨a, b⟩; exact ⟨by simpa using a, b⟩
/-- The whole way, from its first vertex on. -/
theorem BackWay.way {came : Nat → Int} {x : Nat} {c : List Nat} (h : BackWay N adj came x c) (hx : x < N * N) :
    (∀ i, i < c.length → c.reverse.getD i 0 < N * N) ∧ (∀ i, i + 1 < c.length → c.reverse.getD (i + 1) 0 ∈ adj (c.reverse.getD i 0)) ∧ Diag N (c.reverse.getD 0 0) ∧ (∀ i, 0 < i → i < c.length → ¬ Diag N (c.reverse.getD i 0)) ∧ c.reverse.getD (c.length - 1) 0 = x ∧ 0 < c.length := by
  induction h with
  | stop x _ hd => exact ⟨fun i hi => by simp at hi; subst hi; simpa using hx, fun i hi => by simp at hi, by simpa using hd, fun i h1 h2 => by simp at h2; omega, by simp, by simp⟩
  | step x p c hcm hnd ha hp hc ih =>
    obtain ⟨i1, i2, i3, i4, i5, i6⟩ := ih hp
    have g1 : ∀ i, i < c.length → (x :: c).reverse.getD i 0 = c.reverse.getD i 0 := fun i hi => by
      rw [List.reverse_cons, List.getD_eq_getElem?_getD, List.getElem?_append_left (by simpa using hi)]; rfl
    have g2 : (x :: c).reverse.getD c.length 0 = x := by
      rw [List.reverse_cons, List.getD_eq_getElem?_getD, List.getElem?_append_right (by simp)]; simp
    refine ⟨fun i hi => ?_, fun i hi => ?_, ?_, fun i h1 h2 => ?_, ?_, by simp⟩
    · by_cases e : i < c.length
      · rw [g1 i e]; exact i1 i e
      · obtain rfl : i = c.length := by simp at hi; omega
        rw [g2]; exact hx
    · have hi : i + 1 < c.length + 1 := by simpa using hi
      rw [g1 i (by omega)]
      by_cases e : i + 1 < c.length
      · rw [g1 _ e]; exact i2 i e
      · obtain rfl : i = c.length - 1 := by omega
        rw [i5, show c.length - 1 + 1 = c.length by omega, g2]; exact ha
    · rw [g1 0 i6]; exact i3
    · by_cases e : i < c.length
      · rw [g1 i e]; exact i4 i h1 e
      · obtain rfl : i = c.length := by simp at h2; omega
        rw [g2]; exact hnd
    · rw [List.length_cons, Nat.add_sub_cancel, g2]
/-- What is met: a way of the kind, and none is shorter. -/
theorem MIn.met (h : MIn N adj D q i v pre) {came : Nat → Int} (hc : CameOf N adj D q came) {t : Nat} (hv : ¬ Diag N v) (ht : Diag N t) (htl : t < N * N) (ha : t ∈ adj v) :
    ∃ c, BackWay N adj came v c ∧ ApartWay N adj (c.reverse ++ [t]) ∧ (c.reverse ++ [t]).length = D v + 2 ∧ ∀ u, ApartWay N adj u → (c.reverse ++ [t]).length ≤ u.length := by
  have hvq : v ∈ q := List.mem_of_getElem? h.at_
  obtain ⟨c, hb, hl⟩ := hc.back h.low (fun x hx hd => (h.old x (h.low x hx) hd).1 hx) (D v) v rfl hvq
  obtain ⟨w1, w2, w3, w4, w5, w6⟩ := hb.way (h.low v hvq)
  have h2 : 2 ≤ c.length := by
    obtain ⟨c', rfl⟩ := hb.ne
    cases hb with
    | stop _ _ hd => exact absurd hd hv
    | step _ p _ _ _ _ _ hc' => obtain ⟨_, rfl⟩ := hc'.ne; simp
  have g1 : ∀ i, i < c.length → (c.reverse ++ [t]).getD i 0 = c.reverse.getD i 0 := fun i hi => by
    rw [List.getD_eq_getElem?_getD, List.getElem?_append_left (by simpa using hi)]; rfl
  have g2 : (c.reverse ++ [t]).getD c.length 0 = t := by
    rw [List.getD_eq_getElem?_getD, List.getElem?_append_right (by simp)]; simp
  have hL : (c.reverse ++ [t]).length = c.length + 1 := by simp
  have hw : ApartWay N adj (c.reverse ++ [t]) := by
    refine ⟨by omega, fun i hi => ?_, fun i hi => ?_, ?_, ?_, fun i h1 h2 => ?_⟩
    · by_cases e : i < c.length
      · rw [g1 i e]; exact w1 i e
      · obtain rfl : i = c.length := by omega
        rw [g2]; exact htl
    · rw [g1 i (by omega)]
      by_cases e : i + 1 < c.length
      · rw [g1 _ e]; exact w2 i e
      · obtain rfl : i = c.length - 1 := by omega
        rw [w5, show c.length - 1 + 1 = c.length by omega, g2]; exact ha
    · rw [g1 0 (by omega)]; exact w3
    · rw [hL, Nat.add_sub_cancel, g2]; exact ht
    · rw [g1 i (by omega)]; exact w4 i h1 (by omega)
  have hmin : ∀ u, ApartWay N adj u → D v + 2 ≤ u.length := fun u hu => by have := h.best hu; omega
  have := hmin _ hw
  refine ⟨c, hb, hw, by omega, fun u hu => ?_⟩
  have := hmin u hu
  omega
end
end Go.Proofs.YtilpckngghffoaaDoor

namespace Go.Proofs.YtilpckngghffoaaDoor

/-- One arrow. -/
def stepM (N v : Nat) (s : (Nat → Int) × List Nat) (t : Nat) : (Nat → Int) × List Nat := if ¬ Diag N t ∧ s.1 t < 0 then (updN s.1 t (v : Int), s.2 ++ [t]) else s
def rowM (N : Nat) (adj : Nat → List Nat) (v : Nat) (s : (Nat → Int) × List Nat) (k : Nat) : (Nat → Int) × List Nat := ((adj v).take k).foldl (stepM N v) s
/-- The search behind its first j vertices. -/
def stM (N : Nat) (adj : Nat → List Nat) : Nat → (Nat → Int) × List Nat
  | 0 => (fun _ => -1, diags N)
  | j + 1 => match (stM N adj j).2[j]? with
    | some v => rowM N adj v (stM N adj j) (adj v).length
    | none => stM N adj j
theorem rowM_succ {N : Nat} {adj : Nat → List Nat} {v k t : Nat} {s : (Nat → Int) × List Nat} (h : (adj v)[k]? = some t) : rowM N adj v s (k + 1) = stepM N v (rowM N adj v s k) t := by
  unfold rowM
  rw [List.take_add_one, h, List.foldl_append]; rfl
theorem stM_succ {N : Nat} {adj : Nat → List Nat} {j v : Nat} (h : (stM N adj j).2[j]? = some v) : stM N adj (j + 1) = rowM N adj v (stM N adj j) (adj v).length := by
  rw [stM, h]
def NoHit (N : Nat) (adj : Nat → List Nat) (j : Nat) : Prop := ∀ v, (stM N adj j).2[j]? = some v → ∀ t ∈ adj v, Diag N t → Diag N v
/-- What is met. -/
def MeetIs (N : Nat) (adj : Nat → List Nat) (ws : List Nat) : Prop :=
  ∃ j v k t c, (stM N adj j).2[j]? = some v ∧ (adj v)[k]? = some t ∧ Diag N t ∧ ¬ Diag N v ∧ BackWay N adj (rowM N adj v (stM N adj j) k).1 v c ∧ ws = c.reverse ++ [t] ∧ (∀ i, i < j → NoHit N adj i) ∧ ∀ i x, i < k → (adj v)[i]? = some x → Diag N x → Diag N v
end Go.Proofs.YtilpckngghffoaaDoor

namespace Go.Proofs.YtilpckngghffoaaDoor
open Go.RowKit
set_option maxRecDepth 100000

end Go.Proofs.YtilpckngghffoaaDoor

namespace Go.Proofs.YtilpckngghffoaaDoor
open Go.RowKit
set_option maxRecDepth 100000

end Go.Proofs.YtilpckngghffoaaDoor

namespace Go.Proofs.YtilpckngghffoaaDoor
open Go.RowKit
set_option maxRecDepth 100000

/-- The first place of x. -/
def invP (p : List Int) (x : Int) : Int := idxOf (fun y => x == y) p

theorem index_any (v : Value) (xs : List Int) (x : Int) (w : World) (h : IntsAt w v xs) :
    Calls Tryd.prog 31 #[v, .int .i64 x] w fun e w' => e = .returned (.int .i64 (invP xs x)) ∧ w = w' := by
  have hlen := h.len
  have hm := h.len_le
  replace h := Lib.hid h
  go_enter Tryd.func31, Tryd.ntmps31
  go_wp2
  go_loop [8] (fun i => ∃ j : Nat, j ≤ xs.length ∧ i = .int .i64 j ∧ ∀ t (ht : t < xs.length), t < j → (x == xs[t]) = false) (fun i => xs.length - (intOf i).toNat)
  case atStart => exact ⟨0, by omega, rfl, fun t ht h => by omega⟩
  case round =>
    obtain ⟨j, hj, rfl, hne⟩ := hrel
    by_cases hjl : j < xs.length
    · have i1 := h.out.idx j hjl
      have c1 := h.out.cell j hjl
      by_cases he : (x == xs[j]) = true
      · have hr : Hid (invP xs x = j) := Lib.hid (idxOf_at j hjl he (fun t ht htj => hne t ht htj))
        have he' : x = xs[j] := by simpa using he
        rw [← he'] at c1
        clear he he'
        replace hne := Lib.hid hne
        go_wp2
        go_ret
        exact ⟨ret_int hr.out.symm, rfl⟩
      · have hn : Hid (∀ t (ht : t < xs.length), t < j + 1 → (x == xs[t]) = false) := Lib.hid (fun t ht htj => by
          by_cases e : t = j
          · subst e; simpa using he
          · exact hne t ht (by omega))
        have he' : (x == xs[j]) = false := by simpa using he
        obtain ⟨y, hy⟩ : ∃ y, y = xs[j] := ⟨_, rfl⟩
        rw [← hy] at c1 he'
        clear he hne hy
        go_wp2
        go_round
        case rel => exact ⟨j + 1, by omega, by go_num, hn.out⟩
        case measure => simp [intOf]; omega
    · have hr : Hid (invP xs x = -1) := Lib.hid (idxOf_neg (fun y hy => by
        obtain ⟨t, ht, rfl⟩ := List.mem_iff_getElem.1 hy
        exact hne t ht (by omega)))
      replace hne := Lib.hid hne
      go_wp2
      go_ret
      exact ⟨ret_int hr.out.symm, rfl⟩

end Go.Proofs.YtilpckngghffoaaDoor

namespace Go.Proofs.YtilpckngghffoaaDoor

theorem invP_at {T : List Int} {j : Nat} (hj : j < T.length) : ∃ i : Nat, invP T (T.getD j 0) = i ∧ i ≤ j ∧ T.getD i 0 = T.getD j 0 := by
  have ej : T.getD j 0 = T[j] := by simp [List.getD, hj]
  rw [ej]
  rcases idxOf_cases (fun y => T[j] == y) T with ⟨_, hn⟩ | ⟨k, hk, hkl, hp, hm⟩
  · have := hn _ (List.getElem_mem hj); simp at this
  · refine ⟨k, hk, ?_, ?_⟩
    · apply Classical.byContradiction
      intro e
      have := hm j hj (by omega)
      simp at this
    · simp only [List.getD, List.getElem?_eq_getElem hkl, Option.getD_some]
      exact (show T[j] = T[k] by simpa using hp).symm
/-- The first symbol whose image is that of a lower one. -/
def SingleIs (T : List Int) (x y : Nat) : Prop := y < T.length ∧ invP T (T.getD y 0) = x ∧ x < y ∧ ∀ i, i < y → (i : Int) ≤ invP T (T.getD i 0)
theorem img0_get {K : Nat} {T a : List Int} {i : Nat} (hi : i < a.length) : (imgP K 0 T a).getD i 0 = T.getD (a.getD i 0).toNat 0 := by
  rw [imgP_getD K 0 T a i (by omega)]
  have e : (a.drop i).take (2 * 0 + 1) = [a.getD i 0] := by
    rw [List.drop_eq_getElem_cons hi, show 2 * 0 + 1 = 0 + 1 from rfl, List.take_succ_cons, List.take_zero]
    simp [List.getD, hi]
  rw [e]
  simp [numW]
theorem SingleIs.twins {K : Nat} {T : List Int} {x y : Nat} (hK : T.length = K) (h : SingleIs T x y) : IsTwins K 0 T [(x : Int)] [(y : Int)] := by
  obtain ⟨h1, h2, h3, h4⟩ := h
  have sx : Syms K [(x : Int)] := fun z hz => by simp at hz; subst hz; omega
  have sy : Syms K [(y : Int)] := fun z hz => by simp at hz; subst hz; omega
  refine ⟨sx, sy, rfl, by simp; omega, by simp, by simp, by simp, ?_⟩
  have he : T.getD x 0 = T.getD y 0 := by
    obtain ⟨i, i1, i2, i3⟩ := invP_at h1
    rw [h2] at i1
    obtain rfl : x = i := by omega
    exact i3
  refine List.ext_getElem (by rw [imgP_length, imgP_length]; rfl) fun i h1 h2 => ?_
  rw [imgP_length] at h1
  have hi : i = 0 := by simp at h1; omega
  subst hi
  have g1 := img0_get (K := K) (T := T) (a := [(x : Int)]) (i := 0) (by simp)
  have g2 := img0_get (K := K) (T := T) (a := [(y : Int)]) (i := 0) (by simp)
  simp [List.getD] at g1 g2 he
  have l1 : 0 < (imgP K 0 T [(x : Int)]).length := by rw [imgP_length]; simp
  have l2 : 0 < (imgP K 0 T [(y : Int)]).length := by rw [imgP_length]; simp
  simp [List.getElem?_eq_getElem l1] at g1
  simp [List.getElem?_eq_getElem l2] at g2
  rw [g1, g2]
  exact he
theorem twins_pos {K R : Nat} {T a b : List Int} (h : IsTwins K R T a b) : 1 ≤ a.length := by
  have hl := h.len
  have hn := h.ne
  rcases a with _ | ⟨x, a⟩
  · cases b with
    | nil => exact absurd rfl hn
    | cons _ _ => simp at hl
  · simp
theorem no_single {K : Nat} {T : List Int} (hK : T.length = K) (h : ∀ i, i < T.length → (i : Int) ≤ invP T (T.getD i 0)) (a b : List Int) : ¬ IsTwins K 0 T a b := by
  intro t
  apply t.ne
  have hinj : ∀ i j, i < T.length → j < T.length → T.getD i 0 = T.getD j 0 → i ≤ j := fun i j hi hj e => by
    obtain ⟨p, p1, p2, _⟩ := invP_at hj
    have := h i hi
    rw [e, p1] at this
    omega
  refine List.ext_getElem t.len fun i h1 h2 => ?_
  have e := congrArg (fun l => l.getD i 0) t.img
  simp only [img0_get h1, img0_get h2] at e
  simp only [List.getD, List.getElem?_eq_getElem h1, List.getElem?_eq_getElem h2, Option.getD_some] at e
  have s1 := t.sa _ (List.getElem_mem h1)
  have s2 := t.sb _ (List.getElem_mem h2)
  have l1 := hinj a[i].toNat b[i].toNat (by omega) (by omega) e
  have l2 := hinj b[i].toNat a[i].toNat (by omega) (by omega) e.symm
  omega
/-- Twins are longer than both their ends. -/
theorem IsTwins.long {K R : Nat} {T a b : List Int} (h : IsTwins K R T a b) : 4 * R + 1 ≤ a.length := by
  apply Classical.byContradiction
  intro hl
  apply h.ne
  have hlen := h.len
  have hlow := h.low
  refine List.ext_getElem? fun i => ?_
  by_cases hi : i < 2 * R
  · have := congrArg (·[i]?) h.front
    simpa [List.getElem?_take, hi] using this
  · by_cases hi2 : i < a.length
    · have := congrArg (·[i - (a.length - 2 * R)]?) h.back
      simp only [List.getElem?_drop] at this
      rw [show a.length - 2 * R + (i - (a.length - 2 * R)) = i by omega, show b.length - 2 * R + (i - (a.length - 2 * R)) = i by omega] at this
      exact this
    · rw [List.getElem?_eq_none (by omega), List.getElem?_eq_none (by omega)]
/-- What twins.Finite tells, determined by the rule. -/
def FinIs (K R : Nat) (T a b : List Int) : Prop :=
  (R = 0 ∧ ∃ x y, SingleIs T x y ∧ a = [(x : Int)] ∧ b = [(y : Int)]) ∨
  (R ≠ 0 ∧ ∃ ws, MeetIs (pw K (2 * R)) (pairL K (pw K (2 * R)) T) ws ∧ a = alongW K (2 * R) (· / pw K (2 * R)) ws ∧ b = alongW K (2 * R) (· % pw K (2 * R)) ws)
end Go.Proofs.YtilpckngghffoaaDoor

namespace Go.Proofs.YtilpckngghffoaaDoor
open Go.RowKit
set_option maxRecDepth 100000

/-- What single leaves. -/
def SinglePost (w : World) (T : List Int) (x y : Value) (w' : World) : Prop :=
  (∃ a b, SingleIs T a b ∧ OwnI w.heap.size w' x [(a : Int)] ∧ OwnI w.heap.size w' y [(b : Int)] ∧ (x.ownBlock = none ∨ x.ownBlock ≠ y.ownBlock)) ∨
  (x = .slice none 0 0 ∧ y = .slice none 0 0 ∧ ∀ i, i < T.length → (i : Int) ≤ invP T (T.getD i 0))

set_option maxHeartbeats 1000000 in
theorem single_any (k R : Int) (va : Option Addr) (vn vc : Nat) (T : List Int) (w : World) (h : IntsAt w (.slice va vn vc) T) :
    Calls Tryd.prog 13 #[.agg #[.int .i64 k, .int .i64 R, .slice va vn vc]] w (Ret2 (SinglePost w T) w) := by
  have b0 := belowAlloc w (.cells #[.int .i64 k, .int .i64 R, .slice va vn vc] 24)
  have q : Box3 (w.alloc (.cells #[.int .i64 k, .int .i64 R, .slice va vn vc] 24)) w.heap.size (.int .i64 k) (.int .i64 R) (.slice va vn vc) := by simp [Box3, go_sem]
  have hlen := h.len
  have hm := h.len_le
  replace h := Lib.hid (h.below b0)
  obtain ⟨⟨y0, y1, y2⟩, -, -, -⟩ := q
  go_enter Tryd.func13, Tryd.ntmps13
  go_wp2
  obtain ⟨W, hW⟩ : ∃ W : World, W = w.alloc (.cells #[.int .i64 k, .int .i64 R, .slice va vn vc] 24) := ⟨_, rfl⟩
  rw [← hW] at y0 y1 y2 b0 h ⊢
  replace hW := Lib.hid hW
  go_loop [10] (fun jv => ∃ j : Nat, j ≤ T.length ∧ jv = .int .i64 j ∧ ∀ i, i < j → (i : Int) ≤ invP T (T.getD i 0)) (fun jv => T.length - (intOf jv).toNat)
  case atStart => exact ⟨0, by omega, rfl, fun i hi => absurd hi (Nat.not_lt_zero _)⟩
  case round =>
    obtain ⟨j, hj, rfl, hno0⟩ := hrel
    have hno : ∀ i, i < j → (i : Int) ≤ invP T (T.getD i 0) := fun i hi => by have := hno0 i hi; omega
    clear hno0
    replace hno := Lib.hid hno
    by_cases hjl : j < T.length
    · have i1 := fun w' => h.out.idx j hjl w'
      have c1 := h.out.cellD j hjl
      obtain ⟨z, hz⟩ : ∃ z, T.getD j 0 = z := ⟨_, rfl⟩
      rw [hz] at c1
      obtain ⟨p, hp1, hp2, hp3⟩ := invP_at hjl
      rw [hz] at hp1
      have hIx := index_any (.slice va vn vc) T z W h.out
      rw [hp1] at hIx
      generalize valAt (.slice va vn vc) j = ja at *
      have hjl2 := Lib.hid hjl
      replace hIx := Lib.hid hIx
      replace hz := Lib.hid hz
      replace hp1 := Lib.hid hp1
      replace hp3 := Lib.hid hp3
      by_cases hpj : p < j
      · have hpd : decide (p < j) = true := decide_eq_true hpj
        have hpd2 : decide ((p : Int) < (j : Int)) = true := decide_eq_true (by omega)
        have hpj2 := Lib.hid hpj
        go_wp2_with (go_at_call 31; refine hIx.out.mono ?_; rintro e w' ⟨rfl, rfl⟩)
        have bA := belowAlloc W (.cells #[.int .i64 p] 3)
        have hoA := OwnI.lit W.heap.size W (Nat.le_refl _) [(p : Int)] (by simp [maxLen]) #[.int .i64 (p : Int)] rfl 1 rfl
        have bB := belowAlloc (W.alloc (.cells #[.int .i64 p] 3)) (.cells #[.int .i64 j] 3)
        have hoB := OwnI.lit (W.alloc (.cells #[.int .i64 p] 3)).heap.size (W.alloc (.cells #[.int .i64 p] 3)) (Nat.le_refl _) [(j : Int)] (by simp [maxLen]) #[.int .i64 (j : Int)] rfl 1 rfl
        have hs := b0.size
        go_ret2
        refine ⟨_, _, rfl, b0.trans ((bA.trans (bB.mono bA.size)).mono hs), .inl ⟨p, j, ⟨hjl2.out, by rw [hz.out]; exact hp1.out, hpj2.out, hno.out⟩, (hoA.below bB).mono hs, (show OwnI W.heap.size _ (Value.slice (some ⟨W.heap.size + 1, 0, none⟩) 1 1) _ from (by simpa using hoB.mono bA.size)).mono hs, .inr ?_⟩⟩
        simp [Value.ownBlock]
      · have hpe : p = j := by omega
        subst hpe
        go_wp2_with (go_at_call 31; refine hIx.out.mono ?_; rintro e w' ⟨rfl, rfl⟩)
        have hj1 := hjl2.out
        go_round
        case measure => simp [intOf]; omega
        case rel =>
          refine ⟨p + 1, by omega, by go_num, fun i hi => ?_⟩
          by_cases e : i = p
          · subst e; rw [hz.out, hp1.out]; omega
          · exact hno.out i (by omega)
    · obtain rfl : j = T.length := by omega
      go_wp2
      go_ret2
      exact ⟨_, _, rfl, b0, .inr ⟨rfl, rfl, hno.out⟩⟩
end Go.Proofs.YtilpckngghffoaaDoor

namespace Go.Proofs.YtilpckngghffoaaDoor
open Go.RowKit Go.Shelf Go.Sort
set_option maxRecDepth 100000

end Go.Proofs.YtilpckngghffoaaDoor

namespace Go.Proofs.YtilpckngghffoaaDoor

end Go.Proofs.YtilpckngghffoaaDoor

namespace Go.Proofs.YtilpckngghffoaaDoor
open Go.RowKit
set_option maxRecDepth 100000

end Go.Proofs.YtilpckngghffoaaDoor

namespace Go.Proofs.YtilpckngghffoaaDoor
open Go.RowKit
set_option maxRecDepth 100000

end Go.Proofs.YtilpckngghffoaaDoor

namespace Go.Proofs.YtilpckngghffoaaDoor
open Go.RowKit
set_option maxRecDepth 100000

end Go.Proofs.YtilpckngghffoaaDoor

namespace Go.Proofs.YtilpckngghffoaaDoor

def updM (M : Int → Option Int) (p x : Int) : Int → Option Int := fun q => if q = p then some x else M q
/-- Behind the first k: what has a number, and how many have. -/
def numM (p : Nat → Int) : Nat → (Int → Option Int) × Nat
  | 0 => (fun _ => none, 0)
  | k + 1 => if ((numM p k).1 (p k)).isSome then numM p k else (updM (numM p k).1 (p k) ((numM p k).2 : Int), (numM p k).2 + 1)
/-- The number of the k-th. -/
def numO (p : Nat → Int) (k : Nat) : Int := ((numM p (k + 1)).1 (p k)).getD 0
theorem numM_keep (p : Nat → Int) {q x : Int} (k : Nat) (h : (numM p k).1 q = some x) : ∀ d, (numM p (k + d)).1 q = some x
  | 0 => h
  | d + 1 => by
    have ih := numM_keep p k h d
    show (numM p (k + d + 1)).1 q = some x
    simp only [numM]
    split
    · exact ih
    · next hn =>
      show updM _ _ _ q = some x
      unfold updM
      by_cases e : q = p (k + d)
      · subst e; rw [ih] at hn; exact absurd rfl hn
      · rw [if_neg e]; exact ih
theorem numM_own (p : Nat → Int) (k : Nat) : (numM p (k + 1)).1 (p k) = some (numO p k) := by
  unfold numO
  have : ((numM p (k + 1)).1 (p k)).isSome := by
    simp only [numM]
    split
    · next h => exact h
    · simp [updM]
  obtain ⟨x, hx⟩ := Option.isSome_iff_exists.1 this
  rw [hx]; rfl
theorem numM_below (p : Nat → Int) : ∀ k q x, (numM p k).1 q = some x → 0 ≤ x ∧ x < (numM p k).2
  | 0, q, x, h => by cases h
  | k + 1, q, x, h => by
    have ih := numM_below p k q x
    simp only [numM] at h ⊢
    split at h
    · next hs => rw [if_pos hs]; exact ih h
    · next hs =>
      rw [if_neg hs]
      simp only [updM] at h ⊢
      by_cases e : q = p k
      · rw [if_pos e] at h; injection h with h; omega
      · rw [if_neg e] at h; have := ih h; omega
theorem numM_inj (p : Nat → Int) : ∀ k q q' x, (numM p k).1 q = some x → (numM p k).1 q' = some x → q = q'
  | 0, q, q', x, h, _ => by cases h
  | k + 1, q, q', x, h, h' => by
    have ih := numM_inj p k q q' x
    simp only [numM] at h h'
    split at h
    · next hs => rw [if_pos hs] at h'; exact ih h h'
    · next hs =>
      rw [if_neg hs] at h'
      simp only [updM] at h h'
      by_cases e : q = p k <;> by_cases e' : q' = p k
      · rw [e, e']
      · rw [if_pos e] at h; rw [if_neg e'] at h'
        have := numM_below p k q' x h'
        injection h with h; omega
      · rw [if_neg e] at h; rw [if_pos e'] at h'
        have := numM_below p k q x h
        injection h' with h'; omega
      · rw [if_neg e] at h; rw [if_neg e'] at h'; exact ih h h'
/-- One number just where it is one thing. -/
theorem numO_eq (p : Nat → Int) (i j : Nat) : numO p i = numO p j ↔ p i = p j := by
  have key : ∀ i d, (numM p (i + 1 + d)).1 (p i) = some (numO p i) := fun i d => numM_keep p (i + 1) (numM_own p i) d
  have hi := key i j
  have hj := key j i
  rw [show j + 1 + i = i + 1 + j by omega] at hj
  constructor
  · intro h; rw [h] at hi; exact numM_inj p _ _ _ _ hi hj
  · intro h; rw [h] at hi; rw [hi] at hj; injection hj
/-- What the numbers tell: one number just where there are ways both ways. -/
def PartsOf (n : Nat) (adj : Nat → List Nat) (ps : List Int) : Prop :=
  ∃ p : Nat → Int, (∀ x y, x < n → y < n → (p x = p y ↔ Goes adj x y ∧ Goes adj y x)) ∧ ps = (List.range n).map (numO p)
theorem PartsOf.len {n : Nat} {adj : Nat → List Nat} {ps : List Int} (h : PartsOf n adj ps) : ps.length = n := by
  obtain ⟨p, _, rfl⟩ := h; simp
theorem PartsOf.eq {n : Nat} {adj : Nat → List Nat} {ps : List Int} (h : PartsOf n adj ps) {x y : Nat} (hx : x < n) (hy : y < n) : ps.getD x 0 = ps.getD y 0 ↔ Goes adj x y ∧ Goes adj y x := by
  obtain ⟨p, hp, rfl⟩ := h
  simp only [List.getD_eq_getElem?_getD, List.getElem?_map, List.getElem?_range hx, List.getElem?_range hy, Option.map_some, Option.getD_some]
  rw [numO_eq, hp x y hx hy]
end Go.Proofs.YtilpckngghffoaaDoor

namespace Go.Proofs.YtilpckngghffoaaDoor
open Go.RowKit Go.Maps
set_option maxRecDepth 100000

/-- Block b is a map that has these numbers under these keys, s in all. -/
def NumMap (w : World) (b n : Nat) (M : Int → Option Int) (s : Nat) : Prop :=
  ∃ D : DataW Unit, w.ownsMap Tryd.prog 3 (plainElem Tryd.prog 3) b n D ∧ Maps.size D = s ∧
    ∀ k, (Lit.int .i64 k).wf = true → Maps.has D (.int .i64 k) = (M k).isSome ∧ ∀ x, M k = some x → D.atKey (.int .i64 k) (.lit (.int .i64 0)) = .lit (.int .i64 x)
theorem NumMap.made (w : World) : NumMap (w.alloc (.map #[] 0)) w.heap.size 0 (fun _ => none) 0 :=
  ⟨_, World.ownsMap_made w Tryd.prog 3 _, rfl, fun k _ => ⟨rfl, fun x h => by cases h⟩⟩
theorem NumMap.blk {w : World} {b n s : Nat} {M : Int → Option Int} (h : NumMap w b n M s) : ∃ es c, w.heap[b]? = some (.map es c) := by
  obtain ⟨D, ⟨es, c, hb, _⟩, _⟩ := h
  exact ⟨es, c, hb⟩
theorem NumMap.kept {w w' : World} {b n s : Nat} {M : Int → Option Int} {row : Option Nat} (h : NumMap w b n M s) (hg : w.grownBy w' row) (hne : some b ≠ row) : NumMap w' b n M s := by
  obtain ⟨D, h1, h2⟩ := h
  exact ⟨D, h1.kept hg hne, h2⟩
theorem NumMap.drew {w : World} {b n s : Nat} {M : Int → Option Int} (h : NumMap w b n M s) : NumMap w.drew b n M s := h
theorem NumMap.drewN {w : World} {b n s : Nat} {M : Int → Option Int} (h : NumMap w b n M s) (q : Nat) : NumMap (w.drewN q) b n M s := h
end Go.Proofs.YtilpckngghffoaaDoor

namespace Go.Proofs.YtilpckngghffoaaDoor
open Go.RowKit
set_option maxRecDepth 100000

end Go.Proofs.YtilpckngghffoaaDoor

namespace Go.Proofs.YtilpckngghffoaaDoor
open Go.RowKit
set_option maxRecDepth 100000

/-- The first n marks of a function. -/
def tabB (n : Nat) (m : Nat → Bool) : List Value := (List.range n).map fun v => Value.bool (m v)
/-- The marks while the search runs; done: a vertex whose arrows have all been followed. -/
structure RInv (n : Nat) (adj : Nat → List Nat) (ms m : Nat → Bool) (qs : List Nat) (busy : Nat → Prop) : Prop where
  start : ∀ x, x < n → ms x = true → m x = true
  sound : ∀ x, x < n → m x = true → ∃ u, u < n ∧ ms u = true ∧ Goes adj u x
  queue : ∀ x ∈ qs, x < n ∧ m x = true
  closed : ∀ x, x < n → m x = true → x ∉ qs → ¬ busy x → ∀ t ∈ adj x, m t = true
theorem RInv.all {n : Nat} {adj : Nat → List Nat} {ms m : Nat → Bool} (h : RInv n adj ms m [] (fun _ => False)) (ha : ∀ v, v < n → ∀ t ∈ adj v, t < n) : ∀ x, x < n → (m x = true ↔ ∃ u, u < n ∧ ms u = true ∧ Goes adj u x) := by
  intro x hx
  refine ⟨h.sound x hx, fun ⟨u, hu, hs, hg⟩ => ?_⟩
  exact (Goes.closed (P := fun y => y < n ∧ m y = true) (fun y hy t ht => ⟨ha y hy.1 t ht, h.closed y hy.1 hy.2 (by simp) id t ht⟩) hg ⟨hu, h.start u hu hs⟩).2

/-- The search's memory. -/
structure RN (f : Names) (ov qv : Value) (n : Nat) (m : Nat → Bool) (qs : List Nat) : Prop where
  outs : f (1, 0) = some (rowV 4 ov (tabB n m))
  queue : f (2, 0) = some (rowI qv (upI qs))
section
variable {B : Nat} {w : World} {f : Names} {ov qv : Value} {n : Nat} {m : Nat → Bool} {qs : List Nat}
theorem RN.push (h : RN f ov qv n m qs) (hr : Rows B w f) {w1 : World} {qv' : Value} (t : Nat) (ho : OwnI B w1 qv' (upI qs ++ [(t : Int)]))
    (hal : (roomOf qv' = roomOf qv ∧ w.grownBy w1 qv.ownBlock) ∨ (∃ k, qv'.ownBlock = some k ∧ w.heap.size ≤ k ∧ w.grownBy w1 none)) : ∃ f', Rows B w1 f' ∧ RN f' ov qv' n m (t :: qs) := by
  have hO := hr.ownI h.queue
  have hg : w.grownBy w1 qv.ownBlock := grown_via (hal.imp (·.2) (fun ⟨_, _, _, q⟩ => q))
  have hob : qv'.ownBlock = qv.ownBlock ∨ ∃ k, qv'.ownBlock = some k ∧ w.heap.size ≤ k := by
    rcases hal with ⟨q, _⟩ | ⟨k, h1, h2, _⟩
    · obtain ⟨a1, n1, c1, e1⟩ := hO.at.shape
      obtain ⟨a2, n2, c2, e2⟩ := ho.at.shape
      exact .inl (ownBlock_of_room e1 e2 q)
    · exact .inr ⟨k, h1, h2⟩
  exact ⟨_, hr.grown (r' := rowI qv' (upI qs ++ [(t : Int)])) h.queue hg ho hob, ⟨by rw [upd_ne _ _ (by simp)]; exact h.outs, by rw [upd_same, upI_cons]⟩⟩
theorem RN.shape {v : Nat} {r : List Nat} (h : RN f ov qv n m (v :: r)) (hr : Rows B w f) : ∃ g c, qv = .slice (some ⟨g, 0, none⟩) (r.length + 1) c ∧ r.length + 1 ≤ c := by
  obtain ⟨g, c, e, e2⟩ := row_shape (hr.1 _ _ h.queue) (by show 0 < (upI (v :: r)).length; rw [upI_len]; simp)
  have e : qv = .slice (some ⟨g, 0, none⟩) (upI (v :: r)).length c := e
  have e2 : (upI (v :: r)).length ≤ c := e2
  rw [upI_len, List.length_cons] at e e2
  exact ⟨g, c, e, e2⟩
end
end Go.Proofs.YtilpckngghffoaaDoor

namespace Go.Proofs.YtilpckngghffoaaDoor
open Go.RowKit
set_option maxRecDepth 100000

/-- u stands on a loop. -/
def OnLoop (adj : Nat → List Nat) (u : Nat) : Prop := ∃ t ∈ adj u, Goes adj t u
/-- v stands between two loops. -/
def IsLive (n : Nat) (adj : Nat → List Nat) (v : Nat) : Prop := (∃ u, u < n ∧ OnLoop adj u ∧ Goes adj u v) ∧ ∃ u, u < n ∧ OnLoop adj u ∧ Goes adj v u
structure LiveList (n : Nat) (adj : Nat → List Nat) (L : List Nat) : Prop where
  sorted : L.Pairwise (· < ·)
  mem : ∀ v, v ∈ L ↔ v < n ∧ IsLive n adj v
/-- The marks of the vertices on loops: of the first k, and of the next by its first j arrows. -/
def LoopTo (G : List (List Int)) (ps : List Int) (k j : Nat) (m : Nat → Bool) : Prop :=
  ∀ x, x < G.length → (m x = true ↔ (x < k ∧ ∃ t ∈ adjOf G x, ps.getD t 0 = ps.getD x 0) ∨ (x = k ∧ ∃ t ∈ (adjOf G k).take j, ps.getD t 0 = ps.getD k 0))
theorem LoopTo.next {G : List (List Int)} {ps : List Int} {k : Nat} {m : Nat → Bool} (h : LoopTo G ps k (adjOf G k).length m) : LoopTo G ps (k + 1) 0 m := by
  intro x hx
  rw [h x hx, List.take_length]
  constructor
  · rintro (⟨a, b⟩ | ⟨rfl, b⟩)
    · exact .inl ⟨by omega, b⟩
    · exact .inl ⟨by omega, b⟩
  · rintro (⟨a, b⟩ | ⟨_, t, ht, _⟩)
    · by_cases e : x = k
      · subst e; exact .inr ⟨rfl, b⟩
      · exact .inl ⟨by omega, b⟩
    · simp at ht
theorem LoopTo.add {G : List (List Int)} {ps : List Int} {k j t : Nat} {m : Nat → Bool} (h : LoopTo G ps k j m) (ht : (adjOf G k)[j]? = some t) (m' : Nat → Bool)
    (hm : m' = if ps.getD t 0 = ps.getD k 0 then updN m k true else m) : LoopTo G ps k (j + 1) m' := by
  intro x hx
  have htk : (adjOf G k).take (j + 1) = (adjOf G k).take j ++ [t] := by rw [List.take_add_one, ht]; rfl
  by_cases hp : ps.getD t 0 = ps.getD k 0
  · rw [if_pos hp] at hm
    subst hm
    by_cases e : x = k
    · subst e
      rw [updN_same]
      exact ⟨fun _ => .inr ⟨rfl, t, by rw [htk]; simp, hp⟩, fun _ => rfl⟩
    · rw [updN_other _ _ _ e, h x hx]
      exact ⟨fun q => q.imp id (fun q => absurd q.1 e), fun q => q.imp id (fun q => absurd q.1 e)⟩
  · rw [if_neg hp] at hm
    subst hm
    rw [h x hx, htk]
    constructor
    · rintro (q | ⟨e, s, hs, hq⟩)
      · exact .inl q
      · exact .inr ⟨e, s, List.mem_append_left _ hs, hq⟩
    · rintro (q | ⟨e, s, hs, hq⟩)
      · exact .inl q
      · rcases List.mem_append.1 hs with hs | hs
        · exact .inr ⟨e, s, hs, hq⟩
        · cases List.mem_singleton.1 hs; exact absurd hq hp

end Go.Proofs.YtilpckngghffoaaDoor

namespace Go.Proofs.YtilpckngghffoaaDoor
open Go.RowKit
set_option maxRecDepth 100000

end Go.Proofs.YtilpckngghffoaaDoor

namespace Go.Proofs.YtilpckngghffoaaDoor
open Go.RowKit
set_option maxRecDepth 100000

section
variable {K N : Nat} {T : List Int}
theorem pairG_len : (pairG K N T).length = N * N := rowsOf_len _ _
theorem pairG_row {p : Nat} (hp : p < N * N) : (pairG K N T).getD p [] = castI (pairL K N T p) := rowsOf_get _ _ _ hp
end
theorem pgraph_bad (r : Nat → Addr) (k R : Int) (va : Option Addr) (vn vc : Nat) (T : List Int) (t : Int × List (ByteArray × Int)) (w : World) (hg : Glob r w) (h : IntsAt w (.slice va vn vc) T) (hc : smallP k R T = some t) :
    Calls Tryd.prog 11 #[.agg #[.int .i64 k, .int .i64 R, .slice va vn vc]] w (Ret2 (fun x y w' => x = .slice none 0 0 ∧ ErrIs r w' (under sPairs 0 (some t)) y) w) := by
  have b0 := belowAlloc w (.cells #[.int .i64 k, .int .i64 R, .slice va vn vc] 24)
  replace hg := Lib.hid (hg.below b0)
  replace h := Lib.hid (h.below b0)
  replace hc := Lib.hid hc
  go_enter Tryd.func11, Tryd.ntmps11
  go_wp2_with fail
  refine (working_bad r k R va vn vc T t _ hg.out h.out hc.out).mono ?_
  rintro e w1 ⟨x, y, rfl, b1, rfl, hy⟩
  obtain ⟨T2, a2, rfl⟩ : ∃ T a, y = .iface T (.pointer (some a)) := by
    unfold under at hy
    exact ErrIs.some_shape hy
  have ba := belowAlloc w1 (.cells #[.int .i64 0, .int .i64 0, .slice none 0 0] 24)
  have hy2 := hy.below ba
  replace hy := Lib.hid hy
  replace hy2 := Lib.hid hy2
  go_wp2
  go_ret2
  exact ⟨_, _, rfl, Below.step b0 (Below.step b1 ba), rfl, hy2.out⟩

end Go.Proofs.YtilpckngghffoaaDoor

namespace Go.Proofs.YtilpckngghffoaaDoor
open Go.RowKit
set_option maxRecDepth 100000

/-- No vertex of G. -/
def outG (G : List (List Int)) (a : Int) : Prop := a < 0 ∨ (G.length : Int) ≤ a
instance (G : List (List Int)) (a : Int) : Decidable (outG G a) := by unfold outG; infer_instance
theorem FirstPost.step {w1 w2 w3 : World} {adj : Nat → List Nat} {a b : Nat} {x : Value} (h : FirstPost w2 adj a b x w3) (hs : w1.heap.size ≤ w2.heap.size) : FirstPost w1 adj a b x w3 := by
  rcases h with ⟨u, h1, h2⟩ | h
  · exact .inl ⟨u, h1, h2.mono hs⟩
  · exact .inr h
theorem FirstPost.shape {w w' : World} {adj : Nat → List Nat} {a b : Nat} {x : Value} (h : FirstPost w adj a b x w') : ∃ p n c, x = .slice p n c := by
  rcases h with ⟨u, _, h2⟩ | ⟨_, h⟩
  · exact h2.at.shape
  · exact ⟨_, _, _, h⟩

end Go.Proofs.YtilpckngghffoaaDoor

namespace Go.Proofs.YtilpckngghffoaaDoor
open Go.RowKit
set_option maxRecDepth 100000

/-- One's own slice, cut at its end. -/
theorem OwnI.cut {B : Nat} {w : World} {g m c : Nat} {xs : List Int} (h : OwnI B w (.slice (some ⟨g, 0, none⟩) (m + 1) c) xs) (hl : xs.length = m + 1) : OwnI B w (.slice (some ⟨g, 0, none⟩) m c) (xs.take m) := by
  rcases h.2 with ⟨e, _⟩ | ⟨g', cap', cur, e, hB, hg, hn, hm, hs, ht⟩
  · cases e
  · injection e with e1 e2 e3
    injection e1 with e1
    injection e1 with e1
    subst e1; subst e3
    have hml : (xs.take m).length = m := by simp; omega
    refine ⟨by simp, .inr ⟨g, c, cur, by rw [hml], hB, hg, by rw [hml]; omega, hm, hs, ?_⟩⟩
    rw [hml]
    rw [hl] at ht
    have := congrArg (List.take m) ht
    rw [List.take_take] at this
    simp only [Nat.mul_one] at this ⊢
    rw [Nat.min_eq_left (by omega)] at this
    rw [this, List.map_take]

end Go.Proofs.YtilpckngghffoaaDoor

namespace Go.Proofs.YtilpckngghffoaaDoor
open Go.RowKit
set_option maxRecDepth 100000

end Go.Proofs.YtilpckngghffoaaDoor

namespace Go.Proofs.YtilpckngghffoaaDoor
open Go.RowKit
set_option maxRecDepth 100000

theorem lit_ints (w : World) (xs : List Int) (cs : Array Value) (hc : cs.toList = xs.map (Value.int .i64)) (hl : xs.length ≤ 10) : IntsAt (w.alloc (.cells cs 3)) (.slice (some ⟨w.heap.size, 0, none⟩) xs.length xs.length) xs :=
  (OwnI.lit w.heap.size w (Nat.le_refl _) xs (by unfold maxLen; omega) cs hc xs.length rfl).at

end Go.Proofs.YtilpckngghffoaaDoor

namespace Go.Proofs.YtilpckngghffoaaDoor
open Go.RowKit
set_option maxRecDepth 100000

/-- Vertices, each led to by an arrow from the one ahead. -/
def ChainOk (G : List (List Int)) (u : List Nat) : Prop := ∀ i x, u[i]? = some x → x < G.length ∧ ∀ j y, i = j + 1 → u[j]? = some y → (x : Int) ∈ G.getD y []
theorem ChainOk.dropLast {G : List (List Int)} {u : List Nat} (h : ChainOk G u) : ChainOk G u.dropLast := by
  have up : ∀ i x, u.dropLast[i]? = some x → u[i]? = some x := fun i x hx => by
    rw [List.getElem?_dropLast] at hx
    split at hx
    · exact hx
    · cases hx
  intro i x hx
  exact ⟨(h i x (up i x hx)).1, fun j y e hy => (h i x (up i x hx)).2 j y e (up j y hy)⟩
theorem ChainOk.nil (G : List (List Int)) : ChainOk G [] := fun i x hx => by simp at hx

end Go.Proofs.YtilpckngghffoaaDoor
