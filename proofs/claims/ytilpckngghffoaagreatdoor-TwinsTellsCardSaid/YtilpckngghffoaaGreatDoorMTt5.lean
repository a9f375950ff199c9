/-
  Walk: edenref13.All: the graph of pairs of a working rule.
  Walk: edenref12.Check.
  Walk: edenref12.far: how far it is from a vertex.
  Walk: graph's search begins a vertex.
  Walk: graph's search ends a vertex.
  Walk: graph's search goes through all that a vertex reaches.
  Plain mathematics: numbers given one after another, as new ones come.
  A map from ints to ints that the call made: what is looked up, stored; how many keys it has (the kit's laws on maps, at these types).
  Walk: graph.Parts.
  Walk: graph.reach: what can be reached from the marked vertices.
  Walk: graph.Live.
  Walk: edenref12.way: the first of the shortest ways, by going down.
  What the document's answers of layer 12 share: the error's box.
  Plain mathematics: what stands on a loop.
  Plain mathematics: the peeling of a graph, step by step; what it leaves are the live vertices.
  Walk: edenref12.Live.
  Walks: slices.DeleteFunc (its contract off the shelf) at the function that pairs.Apart hands it.
  Plain mathematics: breadth first from the pairs of equal nodes through the pairs that are apart; the first that is met again is met by a shortest way.
  Plain mathematics: among the pairs of equal nodes there is a way from each to each.
  Walks: pairs.Graph at what is no small rule; pairs.Apart.
  Walks: edenref13.Odd, Graph, Apart.
  pairs.Graph, pairs.Apart, edenref13.Graph, edenref13.Apart at any rule: one name for what both answer.
  Plain mathematics: the search of twins.meet as a function: what it meets is determined.
  Walk: forms.made at a function that has captured one variable.
  Walks: forms.Mirror and the function that it hands to forms.made.
  Walks: slices.Index, forms.Rename and the function that it hands to forms.made.
  Plain mathematics: twins of a rule with the radius 0, how short twins are at least, and the determined result of twins.Finite.
  Plain facts: twins of a rule with the radius 0, by any two symbols with one image.
  Walk: graph.Path.
  Walk: graph.Loop.
  The chapter's graph: its parts, its live vertices, its way from 0 to 4, as plain mathematics; the walk that makes it.
  Walks: the helpers of edenlaw12: awake, heavy, vertex, leads, goes.
  Walk: edenlaw12.goes at a way.
  Walks: the two functions within pairs.Words.
-/
import Derived.Test.YtilpckngghffoaaGreatDoorMTt4
import Derived.Deep.DeepCutAuto
import Derived.Deep.LoopGhost
import Derived.Maps.OwnSet
import Derived.WalkArith
import Derived.BigQuiet
import Derived.Ground.SlgfProg
import Derived.Shelf.SlGeneric
import Derived.Shelf.SlicesE.DeleteFunc
import Derived.Lib.SliceRun
namespace Go.Proofs.YtilpckngghffoaaGreatDoor
open Go.RowKit
set_option maxRecDepth 100000

theorem sort_ints (B : Nat) (v : Value) (xs : List Int) (w : World) (h : OwnI B w v xs) (hl : xs.length ≤ 17592186044416) (hB : B ≤ w.heap.size) :
    Calls Tryz.prog 128 #[v] w fun e w' => e = .returned (.tuple #[]) ∧ OwnI B w' v (srt xs) ∧ Below B w w' := by
  have hs := sort_own B v xs w h hl hB
  replace hs := Lib.hid hs
  go_enter Tryz.func128, Tryz.ntmps128
  go_wp2_with fail
  refine hs.out.mono ?_
  rintro e w1 ⟨rfl, ho, hb⟩
  replace ho := Lib.hid ho
  go_wp2
  go_end0
  exact ⟨rfl, ho.out, hb⟩

theorem uks_lt {N K u s : Nat} (hu : u < N) (hs : s < K) : u * K + s < N * K := by
  have := Nat.mul_le_mul_right K (show u + 1 ≤ N by omega)
  rw [Nat.add_mul] at this
  omega

set_option maxHeartbeats 8000000 in
theorem ref_all (K R : Nat) (va : Option Addr) (vn vc : Nat) (T : List Int) (w : World) (h : IntsAt w (.slice va vn vc) T) (hr : RuleOk K R T) (hR : 1 ≤ R) (hl : T.length ≤ 256) :
    Calls Tryz.prog 86 #[.agg #[.int .i64 K, .int .i64 R, .slice va vn vc]] w (Ret1 (fun x w' => ListsFrom w.heap.size w' x (pairG K (pw K (2 * R)) T)) w) := by
  have b0 := belowAlloc w (.cells #[.int .i64 K, .int .i64 R, .slice va vn vc] 24)
  have q : Box3 (w.alloc (.cells #[.int .i64 K, .int .i64 R, .slice va vn vc] 24)) w.heap.size (.int .i64 K) (.int .i64 R) (.slice va vn vc) := by simp [Box3, go_sem]
  have hk1 := hr.k1
  have hk4 := hr.k4
  have hR3 := hr.r3
  have hN81 := nodes_le hr hR hl
  have hN1 := pw_pos (K := K) (2 * R) hk1
  obtain ⟨hdiv, hlen⟩ := hr.half
  have hNK : pw K (2 * R) * K ≤ 256 := by rw [← hlen]; exact hl
  have hcnt := fun (w' : World) => ref_count K R va vn vc w' hk1 hk4 hR3
  generalize hN9 : pw K (2 * R) = N at *
  obtain ⟨M, hM⟩ : ∃ M, N * N = M := ⟨_, rfl⟩
  have hM6 : M ≤ 6561 := by rw [← hM]; exact Nat.mul_le_mul hN81 hN81
  have hNN : (N : Int) * (N : Int) = (M : Int) := by rw [← hM]; simp
  replace h := Lib.hid (h.below b0)
  replace hr := Lib.hid hr
  replace hcnt := Lib.hid hcnt
  replace hN9 := Lib.hid hN9
  replace hM := Lib.hid hM
  replace hlen := Lib.hid hlen
  have hNK2 := Lib.hid hNK
  clear hdiv
  have q0 := q
  obtain ⟨⟨z0, z1, z2⟩, -, -, -⟩ := q0
  go_enter Tryz.func86, Tryz.ntmps86
  go_wp2_with fail
  refine (hcnt.out _).mono ?_
  rintro e W1 ⟨_, rfl, b1, rfl⟩
  have q1 := q.below b1
  have h1 := h.out.below b1
  have b01 := Below.step b0 b1
  replace h1 := Lib.hid h1
  obtain ⟨ov, w2, mk, hov, hb2⟩ := run_makeW oneLists (M : Int) M W1 rfl (by omega)
  obtain ⟨f2, hr2, g2⟩ := WN.made M hb2 (Nat.le_refl _) hov
  obtain ⟨oa, on, oc, rfl⟩ := hov.shape
  replace hov := Lib.hid hov
  replace hr2 := Lib.hid hr2
  clear z0 z1 z2
  go_wp2_with fail
  clear mk
  go_loopw [5] (fun uv wr => ∃ (u : Nat) (f : Names) (vals : List Value), u ≤ N ∧ uv = .int .i64 u ∧ Rows W1.heap.size wr f ∧ Below W1.heap.size W1 wr ∧ WN f (.slice oa on oc) vals M (pairTo K N T (u * N))) (fun uv _ => N - (intOf uv).toNat)
  case atStart => exact ⟨0, f2, _, Nat.zero_le _, rfl, hr2.out, hb2, by rw [Nat.zero_mul, pairTo_zero]; exact g2⟩
  case round =>
    clear g2 hr2 hov
    obtain ⟨u, f3, vals, hu, rfl, hr3, b3, g3⟩ := hrel
    obtain ⟨w3, rfl⟩ : ∃ wo : World, wo = wr := ⟨_, rfl⟩
    by_cases hul : u < N
    · have duN : decide ((u : Int) < (N : Int)) = true := decide_eq_true (by omega)
      replace hr3 := Lib.hid hr3
      go_wp2_with fail
      go_loopw [6] (fun vv wr => ∃ (v : Nat) (f : Names) (vals : List Value), v ≤ N ∧ vv = .int .i64 v ∧ Rows W1.heap.size wr f ∧ Below W1.heap.size W1 wr ∧ WN f (.slice oa on oc) vals M (pairTo K N T (u * N + v))) (fun vv _ => N - (intOf vv).toNat)
      case atStart => exact ⟨0, f3, _, Nat.zero_le _, rfl, hr3.out, b3, g3⟩
      case round =>
        clear g3 hr3 b3
        obtain ⟨v, f4, vals, hv, rfl, hr4, b4, g4⟩ := hrel
        obtain ⟨wo, rfl⟩ : ∃ wo : World, wo = wr := ⟨_, rfl⟩
        by_cases hvl : v < N
        · have dvN : decide ((v : Int) < (N : Int)) = true := decide_eq_true (by omega)
          have hkM : u * N + v < M := by rw [← hM.out]; exact pair_lt hul hvl
          have ba := belowAlloc wo (.cells #[] 3)
          have hlit := OwnI.lit wo.heap.size wo (Nat.le_refl _) [] (by unfold maxLen; simp) #[] rfl 0 rfl
          replace hr4 := Lib.hid hr4
          replace hlit := Lib.hid hlit
          have hlit2 := hlit
          go_wp2_with fail
          go_loopw [7, 8] (fun sv cv wr => ∃ (s : Nat) (sw : Value), sw = sv ∧ cv = .int .i64 s ∧ s ≤ K ∧ OwnI wo.heap.size wr sw (castI (rawP K N T u v s)) ∧ Below wo.heap.size wo wr) (fun _ cv _ => K - (intOf cv).toNat)
          case atStart => exact ⟨0, _, rfl, rfl, Nat.zero_le _, hlit.out, ba⟩
          case round =>
            clear hlit hlit2 ba
            obtain ⟨s, sw, rfl, rfl, hs, hsO, bS⟩ := hrel
            obtain ⟨ws, rfl⟩ : ∃ wo : World, wo = wr := ⟨_, rfl⟩
            have b5 := b4.trans (bS.mono b4.size)
            obtain ⟨⟨z0, z1, z2⟩, -, -, -⟩ := q1.below b5
            replace hsO := Lib.hid hsO
            by_cases hsl : s < K
            · have dsK : decide ((s : Int) < (K : Int)) = true := decide_eq_true (by omega)
              go_wp2_with fail
              clear z0 z1 z2
              go_loopw [7, 9] (fun sv cv wr => ∃ (t : Nat) (sw : Value), sw = sv ∧ cv = .int .i64 t ∧ t ≤ K ∧ OwnI wo.heap.size wr sw (castI (rawP K N T u v s ++ rawS K N T u v s t)) ∧ Below wo.heap.size wo wr) (fun _ cv _ => K - (intOf cv).toNat)
              case atStart => exact ⟨0, _, rfl, rfl, Nat.zero_le _, by simpa [rawS] using hsO.out, bS⟩
              case round =>
                clear hsO bS b5
                obtain ⟨t, sw, rfl, rfl, ht, hsO, bT⟩ := hrel
                obtain ⟨wt, rfl⟩ : ∃ wo : World, wo = wr := ⟨_, rfl⟩
                have b5 := b4.trans (bT.mono b4.size)
                have qt := q1.below b5
                obtain ⟨⟨z0, z1, z2⟩, -, -, -⟩ := qt
                replace hsO := Lib.hid hsO
                by_cases htl : t < K
                · have dtK : decide ((t : Int) < (K : Int)) = true := decide_eq_true (by omega)
                  obtain ⟨W, hW⟩ : ∃ W : World, wt.drew = W := ⟨_, rfl⟩
                  have b5W : Below W1.heap.size W1 W := by rw [← hW]; exact b5.drew
                  have bTW : Below wo.heap.size wo W := by rw [← hW]; exact bT.drew
                  have hsW : OwnI wo.heap.size W sw (castI (rawP K N T u v s ++ rawS K N T u v s t)) := by rw [← hW]; exact hsO.out
                  have hTt := h1.out.below b5W
                  have hA : u * K + s < T.length := by rw [hlen.out]; exact uks_lt hul hsl
                  have hB : v * K + t < T.length := by rw [hlen.out]; exact uks_lt hvl htl
                  have iA := fun w' => hTt.idx _ hA w'
                  have cA := hTt.cellD _ hA
                  have iB := fun w' => hTt.idx _ hB w'
                  have cB := hTt.cellD _ hB
                  have hlA : labN K T u s = T.getD (u * K + s) 0 := rfl
                  have hlB : labN K T v t = T.getD (v * K + t) 0 := rfl
                  have haA : u * K + s ≤ 256 := by have := hl; omega
                  have haB : v * K + t ≤ 256 := by have := hl; omega
                  have hrt : rawT K N T u v s t = if labN K T u s = labN K T v t then [toN K N u s * N + toN K N v t] else [] := rfl
                  have hrs := rawS_succ K N T u v s t
                  rw [hlA, hlB] at hrt
                  generalize T.getD (u * K + s) 0 = y1 at *
                  generalize T.getD (v * K + t) 0 = y2 at *
                  generalize valAt (.slice va vn vc) (u * K + s) = ta at *
                  generalize valAt (.slice va vn vc) (v * K + t) = tb at *
                  have ea : (u : Int) * (K : Int) + (s : Int) = ((u * K + s : Nat) : Int) := by simp
                  have eb : (v : Int) * (K : Int) + (t : Int) = ((v * K + t : Nat) : Int) := by simp
                  have ea2 : (u : Int) * (K : Int) = ((u * K : Nat) : Int) := by simp
                  have eb2 : (v : Int) * (K : Int) = ((v * K : Nat) : Int) := by simp
                  have wa1 : IntKind.i64.wrap ((u : Int) * (K : Int)) = (u : Int) * (K : Int) := wrapK (by omega) (by omega)
                  have wb1 : IntKind.i64.wrap ((v : Int) * (K : Int)) = (v : Int) * (K : Int) := wrapK (by omega) (by omega)
                  have wa2 : IntKind.i64.wrap ((u : Int) * (K : Int) + (s : Int)) = ((u * K + s : Nat) : Int) := by rw [ea]; exact wrapK (by omega) (by omega)
                  have wb2 : IntKind.i64.wrap ((v : Int) * (K : Int) + (t : Int)) = ((v * K + t : Nat) : Int) := by rw [eb]; exact wrapK (by omega) (by omega)
                  have htoA : toN K N u s = (u * K + s) % N := rfl
                  have htoB : toN K N v t = (v * K + t) % N := rfl
                  generalize u * K + s = A at *
                  generalize v * K + t = B at *
                  have hS : W.cell? ⟨w.heap.size, 0, none⟩ = some (.int .i64 K) ∧ W.cell? ⟨w.heap.size, 2, none⟩ = some (.slice va vn vc) ∧ W.cell? ta = some (.int .i64 y1) ∧ W.cell? tb = some (.int .i64 y2) := by
                    obtain ⟨⟨p0, p1, p2⟩, -, -, -⟩ := q1.below b5W
                    exact ⟨p0, p2, cA, cB⟩
                  replace hTt := Lib.hid hTt
                  replace hsW := Lib.hid hsW
                  replace hlA := Lib.hid hlA
                  replace hlB := Lib.hid hlB
                  replace hrt := Lib.hid hrt
                  replace hrs := Lib.hid hrs
                  replace htoA := Lib.hid htoA
                  replace htoB := Lib.hid htoB
                  replace hW := Lib.hid hW
                  replace ea := Lib.hid ea
                  replace eb := Lib.hid eb
                  replace ea2 := Lib.hid ea2
                  replace eb2 := Lib.hid eb2
                  clear cA cB
                  go_upto_region 16 with fail
                  refine wp_region_plan (fun w' => w'.cell? ⟨w.heap.size, 0, none⟩ = some (.int .i64 K) ∧ w'.cell? ⟨w.heap.size, 2, none⟩ = some (.slice va vn vc) ∧ w'.cell? ta = some (.int .i64 y1) ∧ w'.cell? tb = some (.int .i64 y2)) 20 [(0, true), (1, true), (2, true), (3, true), (4, true), (5, true), (6, true), (7, true), (8, true), (9, true), (10, true), (11, true), (12, true), (13, true), (14, true), (15, true), (16, true), (17, true), (18, true), (19, true)] (by kernel_rfl) (by kernel_rfl) ?_
                  rw [hW.out]
                  clear z0 z1 z2
                  refine headY (v := ?_) (some 41) rfl rfl (Or.inl ⟨by rfl, ?_⟩) hS ?_
                  rotate_left
                  · rintro W' ⟨s0, s1, s2, s3⟩; go_simp; try with_reducible rfl
                  simp only [Act.put, List.setIfInBounds_toArray, List.set_cons_zero, List.set_cons_succ]
                  refine headY (v := ?_) (some 42) rfl rfl (Or.inl ⟨by rfl, ?_⟩) hS ?_
                  rotate_left
                  · rintro W' ⟨s0, s1, s2, s3⟩; go_simp; try with_reducible rfl
                  simp only [Act.put, List.setIfInBounds_toArray, List.set_cons_zero, List.set_cons_succ]
                  refine headY (v := ?_) (some 43) rfl rfl (Or.inl ⟨by rfl, ?_⟩) hS ?_
                  rotate_left
                  · rintro W' ⟨s0, s1, s2, s3⟩; go_simp; try with_reducible rfl
                  simp only [Act.put, List.setIfInBounds_toArray, List.set_cons_zero, List.set_cons_succ]
                  refine headY (v := ?_) (some 44) rfl rfl (Or.inl ⟨by rfl, ?_⟩) hS ?_
                  rotate_left
                  · rintro W' ⟨s0, s1, s2, s3⟩; go_simp; try with_reducible rfl
                  simp only [Act.put, List.setIfInBounds_toArray, List.set_cons_zero, List.set_cons_succ]
                  refine headY (v := ?_) (some 45) rfl rfl (Or.inl ⟨by rfl, ?_⟩) hS ?_
                  rotate_left
                  · rintro W' ⟨s0, s1, s2, s3⟩; go_simp; try with_reducible rfl
                  simp only [Act.put, List.setIfInBounds_toArray, List.set_cons_zero, List.set_cons_succ]
                  refine headY (v := ?_) (some 46) rfl rfl (Or.inl ⟨by rfl, ?_⟩) hS ?_
                  rotate_left
                  · rintro W' ⟨s0, s1, s2, s3⟩; go_simp; try with_reducible rfl
                  simp only [Act.put, List.setIfInBounds_toArray, List.set_cons_zero, List.set_cons_succ]
                  refine headY (v := ?_) (some 47) rfl rfl (Or.inl ⟨by rfl, ?_⟩) hS ?_
                  rotate_left
                  · rintro W' ⟨s0, s1, s2, s3⟩; go_simp; try with_reducible rfl
                  simp only [Act.put, List.setIfInBounds_toArray, List.set_cons_zero, List.set_cons_succ]
                  refine headY (v := ?_) (some 48) rfl rfl (Or.inl ⟨by rfl, ?_⟩) hS ?_
                  rotate_left
                  · rintro W' ⟨s0, s1, s2, s3⟩; go_simp; try with_reducible rfl
                  simp only [Act.put, List.setIfInBounds_toArray, List.set_cons_zero, List.set_cons_succ]
                  refine headY (v := ?_) (some 49) rfl rfl (Or.inl ⟨by rfl, ?_⟩) hS ?_
                  rotate_left
                  · rintro W' ⟨s0, s1, s2, s3⟩; go_simp; try with_reducible rfl
                  simp only [Act.put, List.setIfInBounds_toArray, List.set_cons_zero, List.set_cons_succ]
                  refine headY (v := ?_) (some 50) rfl rfl (Or.inl ⟨by rfl, ?_⟩) hS ?_
                  rotate_left
                  · rintro W' ⟨s0, s1, s2, s3⟩; go_simp; try with_reducible rfl
                  simp only [Act.put, List.setIfInBounds_toArray, List.set_cons_zero, List.set_cons_succ]
                  refine headY (v := ?_) (some 51) rfl rfl (Or.inl ⟨by rfl, ?_⟩) hS ?_
                  rotate_left
                  · rintro W' ⟨s0, s1, s2, s3⟩; go_simp; try with_reducible rfl
                  simp only [Act.put, List.setIfInBounds_toArray, List.set_cons_zero, List.set_cons_succ]
                  refine headY (v := ?_) (some 52) rfl rfl (Or.inl ⟨by rfl, ?_⟩) hS ?_
                  rotate_left
                  · rintro W' ⟨s0, s1, s2, s3⟩; go_simp; try with_reducible rfl
                  simp only [Act.put, List.setIfInBounds_toArray, List.set_cons_zero, List.set_cons_succ]
                  refine headY (v := ?_) (some 53) rfl rfl (Or.inl ⟨by rfl, ?_⟩) hS ?_
                  rotate_left
                  · rintro W' ⟨s0, s1, s2, s3⟩; go_simp; try with_reducible rfl
                  simp only [Act.put, List.setIfInBounds_toArray, List.set_cons_zero, List.set_cons_succ]
                  refine headY (v := ?_) (some 54) rfl rfl (Or.inl ⟨by rfl, ?_⟩) hS ?_
                  rotate_left
                  · rintro W' ⟨s0, s1, s2, s3⟩; go_simp; try with_reducible rfl
                  simp only [Act.put, List.setIfInBounds_toArray, List.set_cons_zero, List.set_cons_succ]
                  refine headY (v := ?_) (some 55) rfl rfl (Or.inl ⟨by rfl, ?_⟩) hS ?_
                  rotate_left
                  · rintro W' ⟨s0, s1, s2, s3⟩; go_simp; try with_reducible rfl
                  simp only [Act.put, List.setIfInBounds_toArray, List.set_cons_zero, List.set_cons_succ]
                  refine headY (v := ?_) (some 56) rfl rfl (Or.inl ⟨by rfl, ?_⟩) hS ?_
                  rotate_left
                  · rintro W' ⟨s0, s1, s2, s3⟩; go_simp; try with_reducible rfl
                  simp only [Act.put, List.setIfInBounds_toArray, List.set_cons_zero, List.set_cons_succ]
                  refine headY (v := ?_) (some 57) rfl rfl (Or.inl ⟨by rfl, ?_⟩) hS ?_
                  rotate_left
                  · rintro W' ⟨s0, s1, s2, s3⟩; go_simp; try with_reducible rfl
                  simp only [Act.put, List.setIfInBounds_toArray, List.set_cons_zero, List.set_cons_succ]
                  refine headY (v := ?_) (some 58) rfl rfl (Or.inl ⟨by rfl, ?_⟩) hS ?_
                  rotate_left
                  · rintro W' ⟨s0, s1, s2, s3⟩; go_simp; try with_reducible rfl
                  simp only [Act.put, List.setIfInBounds_toArray, List.set_cons_zero, List.set_cons_succ]
                  refine headY (v := ?_) (some 59) rfl rfl (Or.inl ⟨by rfl, ?_⟩) hS ?_
                  rotate_left
                  · rintro W' ⟨s0, s1, s2, s3⟩; go_simp; try with_reducible rfl
                  simp only [Act.put, List.setIfInBounds_toArray, List.set_cons_zero, List.set_cons_succ]
                  refine headY (v := ?_) (some 60) rfl rfl (Or.inl ⟨by rfl, ?_⟩) hS ?_
                  rotate_left
                  · rintro W' ⟨s0, s1, s2, s3⟩; go_simp; try with_reducible rfl
                  simp only [Act.put, List.setIfInBounds_toArray, List.set_cons_zero, List.set_cons_succ]
                  refine head0 ?_
                  simp only [List.drop_succ_cons, List.drop_zero]
                  by_cases hy : y1 = y2
                  · have heq : (y1 == y2) = true := by rw [beq_iff_eq]; exact hy
                    replace hy := Lib.hid hy
                    go_wp2
                    refine NoPanic.normal ?_
                    obtain ⟨V, hV⟩ : ∃ V : World, W.drew = V := ⟨_, rfl⟩
                    have b5V : Below W1.heap.size W1 V := by rw [← hV]; exact b5W.drew
                    have bTV : Below wo.heap.size wo V := by rw [← hV]; exact bTW.drew
                    have hsV : OwnI wo.heap.size V sw (castI (rawP K N T u v s ++ rawS K N T u v s t)) := by rw [← hV]; exact hsW.out
                    have hSV : V.cell? ⟨w.heap.size, 0, none⟩ = some (.int .i64 K) := by rw [← hV]; exact hS.1
                    replace hV := Lib.hid hV
                    replace hsV := Lib.hid hsV
                    have hN0 : ((N : Int) == 0) = false := by rw [beq_eq_false_iff_ne]; omega
                    have hN2 : ¬ (N : Int) = 0 := by omega
                    have hN3 : ¬ N = 0 := by omega
                    have hP := Nat.mod_lt A (show N > 0 by omega)
                    have hQ := Nat.mod_lt B (show N > 0 by omega)
                    have hmA : (A : Int).tmod (N : Int) = ((A % N : Nat) : Int) := by rw [Int.tmod_eq_emod_of_nonneg (Int.natCast_nonneg A)]; exact (Int.natCast_emod A N).symm
                    have hmB : (B : Int).tmod (N : Int) = ((B % N : Nat) : Int) := by rw [Int.tmod_eq_emod_of_nonneg (Int.natCast_nonneg B)]; exact (Int.natCast_emod B N).symm
                    have htA := htoA.out
                    have htB := htoB.out
                    generalize A % N = P at *
                    generalize B % N = Q at *
                    have hPQ : P * N + Q < M := by rw [← hM.out]; exact pair_lt hP hQ
                    have hZ : (P : Int) * (N : Int) + (Q : Int) = ((P * N + Q : Nat) : Int) := by simp
                    have hZ2 : (P : Int) * (N : Int) = ((P * N : Nat) : Int) := by simp
                    have wz1 : IntKind.i64.wrap ((P : Int) * (N : Int)) = (P : Int) * (N : Int) := by rw [hZ2]; exact wrapK (by omega) (by omega)
                    have wz2 : IntKind.i64.wrap ((P : Int) * (N : Int) + (Q : Int)) = ((P * N + Q : Nat) : Int) := by rw [hZ]; exact wrapK (by omega) (by omega)
                    have hcat : castI (rawP K N T u v s ++ rawS K N T u v s t) ++ [((P * N + Q : Nat) : Int)] = castI (rawP K N T u v s ++ rawS K N T u v s (t + 1)) := by
                      rw [hrs.out, hrt.out, if_pos hy.out, htA, htB]; simp [castI]
                    have hln : (castI (rawP K N T u v s ++ rawS K N T u v s t)).length ≤ 1000 := by
                      rw [castI_len, List.length_append]
                      have e1 := rawP_len K N T u v s
                      have e2 := rawS_len K N T u v s t
                      have e3 := Nat.mul_le_mul hs hk4
                      omega
                    generalize P * N + Q = Z at *
                    have bl := belowAlloc V (.cells #[.int .i64 (Z : Int)] 3)
                    have hlit := OwnI.lit V.heap.size V (Nat.le_refl _) [(Z : Int)] (by simp [maxLen]) #[.int .i64 (Z : Int)] rfl 1 rfl
                    have hOl := hsV.out.below bl
                    have sV := bTV.size
                    have hBl : wo.heap.size ≤ (V.alloc (.cells #[.int .i64 (Z : Int)] 3)).heap.size := by simp; omega
                    have hSl : (V.alloc (.cells #[.int .i64 (Z : Int)] 3)).cell? ⟨w.heap.size, 0, none⟩ = some (.int .i64 K) := (bl.cell (World.block_lt_of_cell? _ _ hSV)).trans hSV
                    replace hcat := Lib.hid hcat
                    replace hlit := Lib.hid hlit
                    replace hOl := Lib.hid hOl
                    replace htA := Lib.hid htA
                    replace htB := Lib.hid htB
                    replace hZ := Lib.hid hZ
                    replace hZ2 := Lib.hid hZ2
                    go_upto_region 17 with fail
                    refine wp_region_plan (fun w' => w'.cell? ⟨w.heap.size, 0, none⟩ = some (.int .i64 K)) 22 [(0, true), (1, true), (2, true), (3, true), (4, true), (5, true), (6, true), (7, true), (8, true), (9, true), (10, true), (11, true), (12, true), (13, true), (14, true), (15, true), (16, true), (17, true), (18, true), (19, true), (20, false), (21, false)] (by kernel_rfl) (by kernel_rfl) ?_
                    rw [hV.out]
                    clear hS
                    refine headY (v := ?_) (some 62) rfl rfl (Or.inl ⟨by rfl, ?_⟩) hSV ?_
                    rotate_left
                    · rintro W' s0; go_simp; try with_reducible rfl
                    simp only [Act.put, List.setIfInBounds_toArray, List.set_cons_zero, List.set_cons_succ]
                    refine headY (v := ?_) (some 63) rfl rfl (Or.inl ⟨by rfl, ?_⟩) hSV ?_
                    rotate_left
                    · rintro W' s0; go_simp; try with_reducible rfl
                    simp only [Act.put, List.setIfInBounds_toArray, List.set_cons_zero, List.set_cons_succ]
                    refine headY (v := ?_) (some 64) rfl rfl (Or.inl ⟨by rfl, ?_⟩) hSV ?_
                    rotate_left
                    · rintro W' s0; go_simp; try with_reducible rfl
                    simp only [Act.put, List.setIfInBounds_toArray, List.set_cons_zero, List.set_cons_succ]
                    refine headY (v := ?_) (some 65) rfl rfl (Or.inl ⟨by rfl, ?_⟩) hSV ?_
                    rotate_left
                    · rintro W' s0; go_simp; try with_reducible rfl
                    simp only [Act.put, List.setIfInBounds_toArray, List.set_cons_zero, List.set_cons_succ]
                    refine headY (v := ?_) (some 66) rfl rfl (Or.inl ⟨by rfl, ?_⟩) hSV ?_
                    rotate_left
                    · rintro W' s0; go_simp; try with_reducible rfl
                    simp only [Act.put, List.setIfInBounds_toArray, List.set_cons_zero, List.set_cons_succ]
                    refine headY (v := ?_) (some 67) rfl rfl (Or.inl ⟨by rfl, ?_⟩) hSV ?_
                    rotate_left
                    · rintro W' s0; go_simp; try with_reducible rfl
                    simp only [Act.put, List.setIfInBounds_toArray, List.set_cons_zero, List.set_cons_succ]
                    refine headY (v := ?_) (some 68) rfl rfl (Or.inl ⟨by rfl, ?_⟩) hSV ?_
                    rotate_left
                    · rintro W' s0; go_simp; try with_reducible rfl
                    simp only [Act.put, List.setIfInBounds_toArray, List.set_cons_zero, List.set_cons_succ]
                    refine headY (v := ?_) (some 69) rfl rfl (Or.inl ⟨by rfl, ?_⟩) hSV ?_
                    rotate_left
                    · rintro W' s0; go_simp; try with_reducible rfl
                    simp only [Act.put, List.setIfInBounds_toArray, List.set_cons_zero, List.set_cons_succ]
                    refine headY (v := ?_) (some 70) rfl rfl (Or.inl ⟨by rfl, ?_⟩) hSV ?_
                    rotate_left
                    · rintro W' s0; go_simp; try with_reducible rfl
                    simp only [Act.put, List.setIfInBounds_toArray, List.set_cons_zero, List.set_cons_succ]
                    refine headY (v := ?_) (some 71) rfl rfl (Or.inl ⟨by rfl, ?_⟩) hSV ?_
                    rotate_left
                    · rintro W' s0; go_simp; try with_reducible rfl
                    simp only [Act.put, List.setIfInBounds_toArray, List.set_cons_zero, List.set_cons_succ]
                    refine headY (v := ?_) (some 72) rfl rfl (Or.inl ⟨by rfl, ?_⟩) hSV ?_
                    rotate_left
                    · rintro W' s0; go_simp; try with_reducible rfl
                    simp only [Act.put, List.setIfInBounds_toArray, List.set_cons_zero, List.set_cons_succ]
                    refine headY (v := ?_) (some 73) rfl rfl (Or.inl ⟨by rfl, ?_⟩) hSV ?_
                    rotate_left
                    · rintro W' s0; go_simp; try with_reducible rfl
                    simp only [Act.put, List.setIfInBounds_toArray, List.set_cons_zero, List.set_cons_succ]
                    refine headY (v := ?_) (some 74) rfl rfl (Or.inl ⟨by rfl, ?_⟩) hSV ?_
                    rotate_left
                    · rintro W' s0; go_simp; try with_reducible rfl
                    simp only [Act.put, List.setIfInBounds_toArray, List.set_cons_zero, List.set_cons_succ]
                    refine headY (v := ?_) (some 75) rfl rfl (Or.inl ⟨by rfl, ?_⟩) hSV ?_
                    rotate_left
                    · rintro W' s0; go_simp; try with_reducible rfl
                    simp only [Act.put, List.setIfInBounds_toArray, List.set_cons_zero, List.set_cons_succ]
                    refine headY (v := ?_) (some 76) rfl rfl (Or.inl ⟨by rfl, ?_⟩) hSV ?_
                    rotate_left
                    · rintro W' s0; go_simp; try with_reducible rfl
                    simp only [Act.put, List.setIfInBounds_toArray, List.set_cons_zero, List.set_cons_succ]
                    refine headY (v := ?_) (some 77) rfl rfl (Or.inl ⟨by rfl, ?_⟩) hSV ?_
                    rotate_left
                    · rintro W' s0; go_simp; try with_reducible rfl
                    simp only [Act.put, List.setIfInBounds_toArray, List.set_cons_zero, List.set_cons_succ]
                    refine headY (v := ?_) (some 78) rfl rfl (Or.inl ⟨by rfl, ?_⟩) hSV ?_
                    rotate_left
                    · rintro W' s0; go_simp; try with_reducible rfl
                    simp only [Act.put, List.setIfInBounds_toArray, List.set_cons_zero, List.set_cons_succ]
                    refine headY (v := ?_) (some 79) rfl rfl (Or.inl ⟨by rfl, ?_⟩) hSV ?_
                    rotate_left
                    · rintro W' s0; go_simp; try with_reducible rfl
                    simp only [Act.put, List.setIfInBounds_toArray, List.set_cons_zero, List.set_cons_succ]
                    refine headY (v := ?_) (some 80) rfl rfl (Or.inl ⟨by rfl, ?_⟩) hSV ?_
                    rotate_left
                    · rintro W' s0; go_simp; try with_reducible rfl
                    simp only [Act.put, List.setIfInBounds_toArray, List.set_cons_zero, List.set_cons_succ]
                    refine headY (v := ?_) (some 81) rfl rfl (Or.inl ⟨by rfl, ?_⟩) hSV ?_
                    rotate_left
                    · rintro W' s0; go_simp; try with_reducible rfl
                    simp only [Act.put, List.setIfInBounds_toArray, List.set_cons_zero, List.set_cons_succ]
                    refine headC rfl (fun KK hK => ?_)
                    go_simp
                    refine hK _ _ hSl ?_
                    clear hK KK
                    refine headC rfl (fun KK hK => ?_)
                    refine step_appI rfl _ _ rfl wo.heap.size sw (.slice (some ⟨V.heap.size, 0, none⟩) 1 1) _ [(Z : Int)] rfl rfl hOl.out hlit.out.at (by simp only [List.length_cons, List.length_nil]; omega) hBl ?_
                    intro v9 w9 ho9 b9
                    rw [hcat.out] at ho9
                    obtain ⟨v9a, v9b, v9c, rfl⟩ := ho9.at.shape
                    have bT9 : Below wo.heap.size wo w9 := (bTV.trans (bl.mono sV)).trans b9
                    have hS9 : w9.cell? ⟨w.heap.size, 0, none⟩ = some (.int .i64 K) := by
                      obtain ⟨⟨p0, p1, p2⟩, -, -, -⟩ := q1.below (b4.trans (bT9.mono b4.size))
                      exact p0
                    replace ho9 := Lib.hid ho9
                    refine hK _ _ hS9 ?_
                    clear hK KK
                    refine head0 ?_
                    simp only [List.drop_succ_cons, List.drop_zero]
                    clear hSV hSl hS9
                    go_wp2
                    refine NoPanic.normal ?_
                    go_wp2
                    go_roundw
                    case measure => simp [intOf]; omega
                    case rel => exact ⟨t + 1, _, rfl, by go_num, by omega, ho9.out, bT9⟩
                  · have heq : (y1 == y2) = false := by rw [beq_eq_false_iff_ne]; exact hy
                    have hcat : castI (rawP K N T u v s ++ rawS K N T u v s t) = castI (rawP K N T u v s ++ rawS K N T u v s (t + 1)) := by
                      rw [hrs.out, hrt.out, if_neg hy]; simp
                    have hs9 := hsW.out
                    rw [hcat] at hs9
                    replace hs9 := Lib.hid hs9
                    replace hcat := Lib.hid hcat
                    replace hy := Lib.hid hy
                    clear hS
                    go_wp2
                    refine NoPanic.normal ?_
                    go_wp2
                    go_roundw
                    case measure => simp [intOf]; omega
                    case rel => exact ⟨t + 1, _, rfl, by go_num, by omega, hs9.out, bTW⟩
                · obtain rfl : t = K := by omega
                  have hs9 := hsO.out
                  rw [← rawP_succ] at hs9
                  have dtK : decide ((t : Int) < (t : Int)) = false := decide_eq_false (by omega)
                  replace hs9 := Lib.hid hs9
                  go_wp2
                  go_roundw
                  case measure => simp [intOf]; omega
                  case rel => exact ⟨s + 1, _, rfl, by go_num, by omega, hs9.out, bT⟩
            · obtain rfl : s = K := by omega
              have dsK : decide ((s : Int) < (s : Int)) = false := decide_eq_false (by omega)
              have hlT : (castI (rawP s N T u v s)).length ≤ 1000 := by
                rw [castI_len]
                have e1 := rawP_len s N T u v s
                have e3 := Nat.mul_le_mul hk4 hk4
                omega
              have hsort := sort_ints wo.heap.size sw _ ws hsO.out (by omega) bS.size
              have hded : ded (srt (castI (rawP s N T u v s))) (srt (castI (rawP s N T u v s))).length = castI (pairL s N T (u * N + v)) := by
                refine ded_pair (by omega) (srt_sorted _) (fun x => ?_)
                rw [srt_mem, pair_div hvl, pair_mod hvl]; rfl
              have hzl : (srt (castI (rawP s N T u v s))).length ≤ 1000 := by rw [srt_length]; exact hlT
              generalize srt (castI (rawP s N T u v s)) = zs at *
              replace hsort := Lib.hid hsort
              replace hded := Lib.hid hded
              go_wp2_with fail
              refine hsort.out.mono ?_
              rintro e w8 ⟨rfl, hz8, b8⟩
              have bS8 := bS.trans b8
              have lZ := hz8.at.len
              have ba := belowAlloc w8 (.cells #[] 3)
              have hlit := OwnI.lit w8.heap.size w8 (Nat.le_refl _) [] (by unfold maxLen; simp) #[] rfl 0 rfl
              obtain ⟨swa, swb, swc, rfl⟩ := hz8.at.shape
              replace hz8 := Lib.hid hz8
              replace hlit := Lib.hid hlit
              clear z0 z1 z2 hsort
              go_wp2_with fail
              go_loopw [10, 11] (fun lv iv wr => ∃ (i : Nat) (lw : Value), lw = lv ∧ iv = .int .i64 i ∧ i ≤ zs.length ∧ OwnI w8.heap.size wr lw (ded zs i) ∧ Below w8.heap.size w8 wr) (fun _ iv _ => zs.length - (intOf iv).toNat)
              case atStart => exact ⟨0, _, rfl, rfl, Nat.zero_le _, hlit.out, ba⟩
              case round =>
                clear hlit ba
                obtain ⟨i, lw, rfl, rfl, hi, hlO, bL⟩ := hrel
                obtain ⟨wl, rfl⟩ : ∃ wo : World, wo = wr := ⟨_, rfl⟩
                have hzL := hz8.out.at.below bL
                have hdl := ded_len zs i
                replace hlO := Lib.hid hlO
                by_cases hil : i < zs.length
                · have diL : decide ((i : Int) < (zs.length : Int)) = true := decide_eq_true (by omega)
                  obtain ⟨V, hV⟩ : ∃ V : World, wl.drew = V := ⟨_, rfl⟩
                  have bLV : Below w8.heap.size w8 V := by rw [← hV]; exact bL.drew
                  have hlV : OwnI w8.heap.size V lw (ded zs i) := by rw [← hV]; exact hlO.out
                  have hzV := hz8.out.at.below bLV
                  have iI := fun w' => hzV.idx i hil w'
                  have cI := hzV.cellD i hil
                  have hds : ded zs (i + 1) = ded zs i ++ if i = 0 ∨ zs.getD i 0 ≠ zs.getD (i - 1) 0 then [zs.getD i 0] else [] := rfl
                  have bLs := bLV.size
                  by_cases hi0 : i = 0
                  · have di0 : ((i : Int) == 0) = true := by rw [beq_iff_eq]; omega
                    rw [if_pos (.inl hi0)] at hds
                    generalize zs.getD i 0 = x at *
                    generalize valAt (.slice swa swb swc) i = xa at *
                    have hS : True := trivial
                    replace hds := Lib.hid hds
                    replace hV := Lib.hid hV
                    replace hlV := Lib.hid hlV
                    replace hzV := Lib.hid hzV
                    replace hzL := Lib.hid hzL
                    replace hi0 := Lib.hid hi0
                    go_upto_region 23 with fail
                    refine wp_region_plan (fun _ => True) 13 [(0, true), (1, true), (2, true), (3, true), (4, true), (5, true), (6, true), (7, true), (8, true), (9, true), (10, true), (11, true), (12, true)] (by kernel_rfl) (by kernel_rfl) ?_
                    rw [hV.out]
                    refine headY (v := ?_) (some 93) rfl rfl (Or.inl ⟨by rfl, ?_⟩) hS ?_
                    rotate_left
                    · rintro W' _; go_simp; try with_reducible rfl
                    simp only [Act.put, List.setIfInBounds_toArray, List.set_cons_zero, List.set_cons_succ]
                    refine headY (v := ?_) (some 94) rfl rfl (Or.inl ⟨by rfl, ?_⟩) hS ?_
                    rotate_left
                    · rintro W' _; go_simp; try with_reducible rfl
                    simp only [Act.put, List.setIfInBounds_toArray, List.set_cons_zero, List.set_cons_succ]
                    refine headY (v := ?_) (some 95) rfl rfl (Or.inl ⟨by rfl, ?_⟩) hS ?_
                    rotate_left
                    · rintro W' _; go_simp; try with_reducible rfl
                    simp only [Act.put, List.setIfInBounds_toArray, List.set_cons_zero, List.set_cons_succ]
                    refine headY (v := undef) (some 96) rfl rfl (Or.inr ⟨by rfl, rfl⟩) hS ?_
                    simp only [Act.put, List.setIfInBounds_toArray, List.set_cons_zero, List.set_cons_succ]
                    refine headY (v := undef) (some 97) rfl rfl (Or.inr ⟨by rfl, rfl⟩) hS ?_
                    simp only [Act.put, List.setIfInBounds_toArray, List.set_cons_zero, List.set_cons_succ]
                    refine headY (v := undef) (some 98) rfl rfl (Or.inr ⟨by rfl, rfl⟩) hS ?_
                    simp only [Act.put, List.setIfInBounds_toArray, List.set_cons_zero, List.set_cons_succ]
                    refine headY (v := undef) (some 99) rfl rfl (Or.inr ⟨by rfl, rfl⟩) hS ?_
                    simp only [Act.put, List.setIfInBounds_toArray, List.set_cons_zero, List.set_cons_succ]
                    refine headY (v := undef) (some 100) rfl rfl (Or.inr ⟨by rfl, rfl⟩) hS ?_
                    simp only [Act.put, List.setIfInBounds_toArray, List.set_cons_zero, List.set_cons_succ]
                    refine headY (v := undef) (some 101) rfl rfl (Or.inr ⟨by rfl, rfl⟩) hS ?_
                    simp only [Act.put, List.setIfInBounds_toArray, List.set_cons_zero, List.set_cons_succ]
                    refine headY (v := undef) (some 102) rfl rfl (Or.inr ⟨by rfl, rfl⟩) hS ?_
                    simp only [Act.put, List.setIfInBounds_toArray, List.set_cons_zero, List.set_cons_succ]
                    refine headY (v := undef) (some 103) rfl rfl (Or.inr ⟨by rfl, rfl⟩) hS ?_
                    simp only [Act.put, List.setIfInBounds_toArray, List.set_cons_zero, List.set_cons_succ]
                    refine headY (v := undef) (some 104) rfl rfl (Or.inr ⟨by rfl, rfl⟩) hS ?_
                    simp only [Act.put, List.setIfInBounds_toArray, List.set_cons_zero, List.set_cons_succ]
                    refine headY (v := undef) (some 105) rfl rfl (Or.inr ⟨by rfl, rfl⟩) hS ?_
                    simp only [Act.put, List.setIfInBounds_toArray, List.set_cons_zero, List.set_cons_succ]
                    refine head0 ?_
                    simp only [List.drop_succ_cons, List.drop_zero]
                    go_wp2
                    refine NoPanic.normal ?_
                    go_wp2_with (at_builtin; refine wpl_app1 rfl _ _ rfl w8.heap.size lw (ded zs i) x hlV.out rfl rfl (by omega) bLs ?_)
                    intro v' w7 ho7 b7 _
                    rw [← hds.out] at ho7
                    obtain ⟨v7a, v7b, v7c, rfl⟩ := ho7.at.shape
                    replace ho7 := Lib.hid ho7
                    go_wp2
                    go_roundw
                    case measure => simp [intOf]; omega
                    case rel => exact ⟨i + 1, _, rfl, by go_num, by omega, ho7.out, bLV.trans b7⟩
                  · have di0 : ((i : Int) == 0) = false := by rw [beq_eq_false_iff_ne]; omega
                    have wi : IntKind.i64.wrap ((i : Int) - 1) = (i : Int) - 1 := wrapK (by omega) (by omega)
                    have iP : ∀ w', (Instr.indexAt 22 (.slice swa swb swc) (.int .i64 ((i : Int) - 1))).run Tryz.prog w' = .ok (.pointer (some (valAt (.slice swa swb swc) (i - 1)))) w' := by
                      intro w'
                      have := hzV.idx (i - 1) (by omega) w'
                      rwa [show (((i - 1 : Nat) : Nat) : Int) = (i : Int) - 1 by omega] at this
                    have cP := hzV.cellD (i - 1) (by omega)
                    generalize zs.getD i 0 = x at *
                    generalize zs.getD (i - 1) 0 = x' at *
                    generalize valAt (.slice swa swb swc) i = xa at *
                    generalize valAt (.slice swa swb swc) (i - 1) = xb at *
                    have hS : V.cell? xa = some (.int .i64 x) ∧ V.cell? xb = some (.int .i64 x') := ⟨cI, cP⟩
                    replace hV := Lib.hid hV
                    replace hlV := Lib.hid hlV
                    replace hzV := Lib.hid hzV
                    replace hzL := Lib.hid hzL
                    replace hds := Lib.hid hds
                    go_upto_region 23 with fail
                    refine wp_region_plan (fun w' => w'.cell? xa = some (.int .i64 x) ∧ w'.cell? xb = some (.int .i64 x')) 13 [(0, true), (1, true), (2, true), (3, true), (4, true), (5, true), (6, true), (7, true), (8, true), (9, true), (10, true), (11, true), (12, true)] (by kernel_rfl) (by kernel_rfl) ?_
                    rw [hV.out]
                    refine headY (v := ?_) (some 93) rfl rfl (Or.inl ⟨by rfl, ?_⟩) hS ?_
                    rotate_left
                    · rintro W' ⟨s0, s1⟩; go_simp; try with_reducible rfl
                    simp only [Act.put, List.setIfInBounds_toArray, List.set_cons_zero, List.set_cons_succ]
                    refine headY (v := ?_) (some 94) rfl rfl (Or.inl ⟨by rfl, ?_⟩) hS ?_
                    rotate_left
                    · rintro W' ⟨s0, s1⟩; go_simp; try with_reducible rfl
                    simp only [Act.put, List.setIfInBounds_toArray, List.set_cons_zero, List.set_cons_succ]
                    refine headY (v := ?_) (some 95) rfl rfl (Or.inl ⟨by rfl, ?_⟩) hS ?_
                    rotate_left
                    · rintro W' ⟨s0, s1⟩; go_simp; try with_reducible rfl
                    simp only [Act.put, List.setIfInBounds_toArray, List.set_cons_zero, List.set_cons_succ]
                    refine headY (v := ?_) (some 96) rfl rfl (Or.inl ⟨by rfl, ?_⟩) hS ?_
                    rotate_left
                    · rintro W' ⟨s0, s1⟩; go_simp; try with_reducible rfl
                    simp only [Act.put, List.setIfInBounds_toArray, List.set_cons_zero, List.set_cons_succ]
                    refine headY (v := ?_) (some 97) rfl rfl (Or.inl ⟨by rfl, ?_⟩) hS ?_
                    rotate_left
                    · rintro W' ⟨s0, s1⟩; go_simp; try with_reducible rfl
                    simp only [Act.put, List.setIfInBounds_toArray, List.set_cons_zero, List.set_cons_succ]
                    refine headY (v := ?_) (some 98) rfl rfl (Or.inl ⟨by rfl, ?_⟩) hS ?_
                    rotate_left
                    · rintro W' ⟨s0, s1⟩; go_simp; try with_reducible rfl
                    simp only [Act.put, List.setIfInBounds_toArray, List.set_cons_zero, List.set_cons_succ]
                    refine headY (v := ?_) (some 99) rfl rfl (Or.inl ⟨by rfl, ?_⟩) hS ?_
                    rotate_left
                    · rintro W' ⟨s0, s1⟩; go_simp; try with_reducible rfl
                    simp only [Act.put, List.setIfInBounds_toArray, List.set_cons_zero, List.set_cons_succ]
                    refine headY (v := ?_) (some 100) rfl rfl (Or.inl ⟨by rfl, ?_⟩) hS ?_
                    rotate_left
                    · rintro W' ⟨s0, s1⟩; go_simp; try with_reducible rfl
                    simp only [Act.put, List.setIfInBounds_toArray, List.set_cons_zero, List.set_cons_succ]
                    refine headY (v := ?_) (some 101) rfl rfl (Or.inl ⟨by rfl, ?_⟩) hS ?_
                    rotate_left
                    · rintro W' ⟨s0, s1⟩; go_simp; try with_reducible rfl
                    simp only [Act.put, List.setIfInBounds_toArray, List.set_cons_zero, List.set_cons_succ]
                    refine headY (v := ?_) (some 102) rfl rfl (Or.inl ⟨by rfl, ?_⟩) hS ?_
                    rotate_left
                    · rintro W' ⟨s0, s1⟩; go_simp; try with_reducible rfl
                    simp only [Act.put, List.setIfInBounds_toArray, List.set_cons_zero, List.set_cons_succ]
                    refine headY (v := ?_) (some 103) rfl rfl (Or.inl ⟨by rfl, ?_⟩) hS ?_
                    rotate_left
                    · rintro W' ⟨s0, s1⟩; go_simp; try with_reducible rfl
                    simp only [Act.put, List.setIfInBounds_toArray, List.set_cons_zero, List.set_cons_succ]
                    refine headY (v := ?_) (some 104) rfl rfl (Or.inl ⟨by rfl, ?_⟩) hS ?_
                    rotate_left
                    · rintro W' ⟨s0, s1⟩; go_simp; try with_reducible rfl
                    simp only [Act.put, List.setIfInBounds_toArray, List.set_cons_zero, List.set_cons_succ]
                    refine headY (v := ?_) (some 105) rfl rfl (Or.inl ⟨by rfl, ?_⟩) hS ?_
                    rotate_left
                    · rintro W' ⟨s0, s1⟩; go_simp; try with_reducible rfl
                    simp only [Act.put, List.setIfInBounds_toArray, List.set_cons_zero, List.set_cons_succ]
                    refine head0 ?_
                    simp only [List.drop_succ_cons, List.drop_zero]
                    clear hS
                    by_cases hxx : x = x'
                    · have hne : (x != x') = false := by simp [hxx]
                      have hds2 := hds.out
                      rw [if_neg (by rintro (q | q); exact hi0 q; exact q hxx), List.append_nil] at hds2
                      have hl2 := hlV.out
                      rw [← hds2] at hl2
                      replace hl2 := Lib.hid hl2
                      replace hds2 := Lib.hid hds2
                      replace hxx := Lib.hid hxx
                      go_wp2
                      refine NoPanic.normal ?_
                      go_wp2
                      go_roundw
                      case measure => simp [intOf]; omega
                      case rel => exact ⟨i + 1, _, rfl, by go_num, by omega, hl2.out, bLV⟩
                    · have hne : (x != x') = true := by rw [bne_iff_ne]; exact hxx
                      have hds2 := hds.out
                      rw [if_pos (.inr hxx)] at hds2
                      replace hds2 := Lib.hid hds2
                      replace hxx := Lib.hid hxx
                      go_wp2
                      refine NoPanic.normal ?_
                      go_wp2_with (at_builtin; refine wpl_app1 rfl _ _ rfl w8.heap.size lw (ded zs i) x hlV.out rfl rfl (by omega) bLs ?_)
                      intro v' w7 ho7 b7 _
                      rw [← hds2.out] at ho7
                      obtain ⟨v7a, v7b, v7c, rfl⟩ := ho7.at.shape
                      replace ho7 := Lib.hid ho7
                      go_wp2
                      go_roundw
                      case measure => simp [intOf]; omega
                      case rel => exact ⟨i + 1, _, rfl, by go_num, by omega, ho7.out, bLV.trans b7⟩
                · obtain rfl : i = zs.length := by omega
                  have diL : decide ((zs.length : Int) < (zs.length : Int)) = false := decide_eq_false (by omega)
                  have hl2 := hlO.out
                  rw [hded.out] at hl2
                  have bT9 : Below wo.heap.size wo wl := bS8.trans (bL.mono bS8.size)
                  have hnew := g4.new hr4.out (u * N + v) bT9 b4.size (hl2.mono bS8.size)
                  obtain ⟨y1, y2, y3, f8, hr8, h8, _⟩ := g4.put hkM hnew
                  rw [pairTo_step] at h8
                  have iO := fun w' => ((hr4.out.ownV g4.outer).at).idx oneLists (u * N + v) (by rw [g4.len]; exact hkM) w'
                  have ek : (u : Int) * (N : Int) + (v : Int) = ((u * N + v : Nat) : Int) := by simp
                  have ek2 : (u : Int) * (N : Int) = ((u * N : Nat) : Int) := by simp
                  have wk1 : IntKind.i64.wrap ((u : Int) * (N : Int)) = (u : Int) * (N : Int) := by rw [ek2]; exact wrapK (by omega) (by omega)
                  have wk2 : IntKind.i64.wrap ((u : Int) * (N : Int) + (v : Int)) = ((u * N + v : Nat) : Int) := by rw [ek]; exact wrapK (by omega) (by omega)
                  have hk9 : u * N + (v + 1) = u * N + v + 1 := by omega
                  rw [← hk9] at h8
                  generalize valAt (.slice oa on oc) (u * N + v) = ka at *
                  obtain ⟨xa, xn, xc, rfl⟩ := hl2.at.shape
                  have b39 := b4.trans (bT9.mono b4.size)
                  replace hr8 := Lib.hid hr8
                  replace hl2 := Lib.hid hl2
                  replace hnew := Lib.hid hnew
                  replace hzL := Lib.hid hzL
                  replace hk9 := Lib.hid hk9
                  generalize hkk : u * N + v = kk at *
                  replace hkk := Lib.hid hkk
                  replace ek := Lib.hid ek
                  replace ek2 := Lib.hid ek2
                  go_wp2
                  go_roundw
                  case measure => simp [intOf]; omega
                  case rel => exact ⟨v + 1, f8, _, by omega, by go_num, hr8.out, b39.setCell y3 _, h8⟩
        · obtain rfl : v = N := by omega
          have dvN : decide ((v : Int) < (v : Int)) = false := decide_eq_false (by omega)
          have g5 := g4
          rw [show u * v + v = (u + 1) * v by rw [Nat.add_mul]; omega] at g5
          replace hr4 := Lib.hid hr4
          go_wp2
          go_roundw
          case measure => simp [intOf]; omega
          case rel => exact ⟨u + 1, f4, _, by omega, by go_num, hr4.out, b4, g5⟩
    · obtain rfl : u = N := by omega
      have duN : decide ((u : Int) < (u : Int)) = false := decide_eq_false (by omega)
      have g5 : WN f3 (.slice oa on oc) vals (u * u) (fun p => castI (pairL K u T p)) := by
        rw [hM.out]
        exact ⟨g3.outer, g3.len, fun z hz => by rw [g3.rows z hz]; unfold pairTo; rw [if_pos (by rw [hM.out]; exact hz)]⟩
      have hL := g5.from (hr3.monoB b01.size)
      have bE := Below.step b01 b3
      replace hr3 := Lib.hid hr3
      replace hL := Lib.hid hL
      go_wp2
      go_ret
      exact ⟨_, rfl, bE, hL.out⟩
end Go.Proofs.YtilpckngghffoaaGreatDoor

namespace Go.Proofs.YtilpckngghffoaaGreatDoor
open Go.RowKit
set_option maxRecDepth 100000

end Go.Proofs.YtilpckngghffoaaGreatDoor

namespace Go.Proofs.YtilpckngghffoaaGreatDoor
open Go.RowKit
set_option maxRecDepth 100000

end Go.Proofs.YtilpckngghffoaaGreatDoor

namespace Go.Proofs.YtilpckngghffoaaGreatDoor
open Go.RowKit
set_option maxRecDepth 100000

end Go.Proofs.YtilpckngghffoaaGreatDoor

namespace Go.Proofs.YtilpckngghffoaaGreatDoor
open Go.RowKit
set_option maxRecDepth 100000

end Go.Proofs.YtilpckngghffoaaGreatDoor

namespace Go.Proofs.YtilpckngghffoaaGreatDoor
open Go.RowKit
set_option maxRecDepth 100000

end Go.Proofs.YtilpckngghffoaaGreatDoor

namespace Go.Proofs.YtilpckngghffoaaGreatDoor

def updM (M : Int → Option Int) (p x : Int) : Int → Option Int := fun q => if q = p then some x else M q
/-- Behind the first k: what has a number, and how many have. -/
def numM (p : Nat → Int) : Nat → (Int → Option Int) × Nat
  | 0 => (fun _ => none, 0)
  | k + 1 => if ((numM p k).1 (p k)).isSome then numM p k else (updM (numM p k).1 (p k) ((numM p k).2 : Int), (numM p k).2 + 1)
/-- The number of the k-th. -/
def numO (p : Nat → Int) (k : Nat) : Int := ((numM p (k + 1)).1 (p k)).getD 0
theorem numM_keep (p : Nat → Int) {q x : Int} (k : Nat) (h : (numM p k).1 q = some x) : ∀ d, (numM p (k + d)).1 q = some x
  | 0 => h
  | d + 1 => by
    have ih := numM_keep p k h d
    show (numM p (k + d + 1)).1 q = some x
    simp only [numM]
    split
    · exact ih
    · next hn =>
      show updM _ _ _ q = some x
      unfold updM
      by_cases e : q = p (k + d)
      · subst e; rw [ih] at hn; exact absurd rfl hn
      · rw [if_neg e]; exact ih
theorem numM_own (p : Nat → Int) (k : Nat) : (numM p (k + 1)).1 (p k) = some (numO p k) := by
  unfold numO
  have : ((numM p (k + 1)).1 (p k)).isSome := by
    simp only [numM]
    split
    · next h => exact h
    · simp [updM]
  obtain ⟨x, hx⟩ := Option.isSome_iff_exists.1 this
  rw [hx]; rfl
theorem numM_below (p : Nat → Int) : ∀ k q x, (numM p k).1 q = some x → 0 ≤ x ∧ x < (numM p k).2
  | 0, q, x, h => by cases h
  | k + 1, q, x, h => by
    have ih := numM_below p k q x
    simp only [numM] at h ⊢
    split at h
    · next hs => rw [if_pos hs]; exact ih h
    · next hs =>
      rw [if_neg hs]
      simp only [updM] at h ⊢
      by_cases e : q = p k
      · rw [if_pos e] at h; injection h with h; omega
      · rw [if_neg e] at h; have := ih h; omega
theorem numM_inj (p : Nat → Int) : ∀ k q q' x, (numM p k).1 q = some x → (numM p k).1 q' = some x → q = q'
  | 0, q, q', x, h, _ => by cases h
  | k + 1, q, q', x, h, h' => by
    have ih := numM_inj p k q q' x
    simp only [numM] at h h'
    split at h
    · next hs => rw [if_pos hs] at h'; exact ih h h'
    · next hs =>
      rw [if_neg hs] at h'
      simp only [updM] at h h'
      by_cases e : q = p k <;> by_cases e' : q' = p k
      · rw [e, e']
      · rw [if_pos e] at h; rw [if_neg e'] at h'
        have := numM_below p k q' x h'
        injection h with h; omega
      · rw [if_neg e] at h; rw [if_pos e'] at h'
        have := numM_below p k q x h
        injection h' with h'; omega
      · rw [if_neg e] at h; rw [if_neg e'] at h'; exact ih h h'
/-- One number just where it is one thing. -/
theorem numO_eq (p : Nat → Int) (i j : Nat) : numO p i = numO p j ↔ p i = p j := by
  have key : ∀ i d, (numM p (i + 1 + d)).1 (p i) = some (numO p i) := fun i d => numM_keep p (i + 1) (numM_own p i) d
  have hi := key i j
  have hj := key j i
  rw [show j + 1 + i = i + 1 + j by omega] at hj
  constructor
  · intro h; rw [h] at hi; exact numM_inj p _ _ _ _ hi hj
  · intro h; rw [h] at hi; rw [hi] at hj; injection hj
/-- What the numbers tell: one number just where there are ways both ways. -/
def PartsOf (n : Nat) (adj : Nat → List Nat) (ps : List Int) : Prop :=
  ∃ p : Nat → Int, (∀ x y, x < n → y < n → (p x = p y ↔ Goes adj x y ∧ Goes adj y x)) ∧ ps = (List.range n).map (numO p)
theorem PartsOf.len {n : Nat} {adj : Nat → List Nat} {ps : List Int} (h : PartsOf n adj ps) : ps.length = n := by
  obtain ⟨p, _, rfl⟩ := h; simp
theorem PartsOf.eq {n : Nat} {adj : Nat → List Nat} {ps : List Int} (h : PartsOf n adj ps) {x y : Nat} (hx : x < n) (hy : y < n) : ps.getD x 0 = ps.getD y 0 ↔ Goes adj x y ∧ Goes adj y x := by
  obtain ⟨p, hp, rfl⟩ := h
  simp only [List.getD_eq_getElem?_getD, List.getElem?_map, List.getElem?_range hx, List.getElem?_range hy, Option.map_some, Option.getD_some]
  rw [numO_eq, hp x y hx hy]
end Go.Proofs.YtilpckngghffoaaGreatDoor

namespace Go.Proofs.YtilpckngghffoaaGreatDoor
open Go.RowKit Go.Maps
set_option maxRecDepth 100000

theorem uIntN : Tryz.prog.underlying 3 = some (.int .i64) := by kernel_rfl
theorem uMapN : Tryz.prog.underlying 215 = some (.map 3 3) := by kernel_rfl
theorem keyedN : Keyed Tryz.prog 3 := int_keyed uIntN
theorem zeroN (w : World) : (zeroValue 3).run Tryz.prog w = .ok (.int .i64 0) w := by kernel_rfl

/-- Block b is a map that has these numbers under these keys, s in all. -/
def NumMap (w : World) (b n : Nat) (M : Int → Option Int) (s : Nat) : Prop :=
  ∃ D : DataW Unit, w.ownsMap Tryz.prog 3 (plainElem Tryz.prog 3) b n D ∧ Maps.size D = s ∧
    ∀ k, (Lit.int .i64 k).wf = true → Maps.has D (.int .i64 k) = (M k).isSome ∧ ∀ x, M k = some x → D.atKey (.int .i64 k) (.lit (.int .i64 0)) = .lit (.int .i64 x)
theorem NumMap.made (w : World) : NumMap (w.alloc (.map #[] 0)) w.heap.size 0 (fun _ => none) 0 :=
  ⟨_, World.ownsMap_made w Tryz.prog 3 _, rfl, fun k _ => ⟨rfl, fun x h => by cases h⟩⟩
theorem NumMap.blk {w : World} {b n s : Nat} {M : Int → Option Int} (h : NumMap w b n M s) : ∃ es c, w.heap[b]? = some (.map es c) := by
  obtain ⟨D, ⟨es, c, hb, _⟩, _⟩ := h
  exact ⟨es, c, hb⟩
theorem NumMap.kept {w w' : World} {b n s : Nat} {M : Int → Option Int} {row : Option Nat} (h : NumMap w b n M s) (hg : w.grownBy w' row) (hne : some b ≠ row) : NumMap w' b n M s := by
  obtain ⟨D, h1, h2⟩ := h
  exact ⟨D, h1.kept hg hne, h2⟩
theorem NumMap.drew {w : World} {b n s : Nat} {M : Int → Option Int} (h : NumMap w b n M s) : NumMap w.drew b n M s := h
theorem NumMap.drewN {w : World} {b n s : Nat} {M : Int → Option Int} (h : NumMap w b n M s) (q : Nat) : NumMap (w.drewN q) b n M s := h
theorem NumMap.len {w : World} {b n s : Nat} {M : Int → Option Int} (h : NumMap w b n M s) (ty : TypeId) : (Builtin.len_ #[215] ty #[.map (some b)]).run Tryz.prog w = .ok (.int .i64 s) w := by
  obtain ⟨D, h1, rfl, _⟩ := h
  exact h1.len uMapN ty
theorem NumMap.look {w : World} {b n s : Nat} {M : Int → Option Int} (h : NumMap w b n M s) (k x : Int) (hk : (Lit.int .i64 k).wf = true) (hx : M k = some x) :
    (Instr.lookup 215 (.map (some b)) (.int .i64 k) false).run Tryz.prog w = .ok (.int .i64 x) w := by
  obtain ⟨D, h1, _, h3⟩ := h
  obtain ⟨c, hr, hc, _⟩ := h1.lookup_int keyedN uMapN uIntN (zeroN w) (keyOf_int_mk uIntN hk)
  rw [(h3 k hk).2 x hx] at hc
  injection hc with hc
  injection hc with _ hc
  rw [hr, hc]
theorem NumMap.store {w : World} {b n s : Nat} {M : Int → Option Int} (h : NumMap w b n M s) (k x : Int) (hk : (Lit.int .i64 k).wf = true) (hx : (Lit.int .i64 x).wf = true) (hM : M k = none) (hn : n < 1000000) :
    ∃ w', (Instr.mapUpdate 215 (.map (some b)) (.int .i64 k) (.int .i64 x)).run Tryz.prog w = .ok () w' ∧ NumMap w' b (n + 1) (updM M k x) (s + 1) ∧ w.grownBy w' (some b) := by
  obtain ⟨D, h1, h2, h3⟩ := h
  have hT := h1.tidy keyedN
  have hI := h1.isMap
  obtain ⟨w', hr, ho, hg⟩ := h1.update keyedN uMapN (by unfold maxLen; omega) (keyOf_int_mk uIntN hk) (plainElem_int uIntN hx)
  have hkl : WideAt.IsKeyLit (Lit.int .i64 k) := keyedN.key (keyOf_int_mk uIntN hk)
  refine ⟨w', hr, ⟨_, ho, ?_, fun q hq => ?_⟩, hg⟩
  · rw [Maps.size_put hT, (h3 k hk).1, hM, h2]; rfl
  · by_cases e : q = k
    · subst e
      refine ⟨by rw [Maps.has_put_same hI hkl]; simp [updM], fun y hy => ?_⟩
      simp [updM] at hy
      subst hy
      exact Maps.atKey_put_same hI hkl _ _
    · have hne : (Lit.int .i64 q) ≠ (Lit.int .i64 k) := fun h => e (by injection h)
      refine ⟨by rw [Maps.has_put_other hne, (h3 q hq).1]; simp [updM, e], fun y hy => ?_⟩
      rw [Maps.atKey_put_other hne]
      exact (h3 q hq).2 y (by simpa [updM, e] using hy)
end Go.Proofs.YtilpckngghffoaaGreatDoor

namespace Go.Proofs.YtilpckngghffoaaGreatDoor
open Go.RowKit
set_option maxRecDepth 100000

end Go.Proofs.YtilpckngghffoaaGreatDoor

namespace Go.Proofs.YtilpckngghffoaaGreatDoor
open Go.RowKit
set_option maxRecDepth 100000

/-- The first n marks of a function. -/
def tabB (n : Nat) (m : Nat → Bool) : List Value := (List.range n).map fun v => Value.bool (m v)
/-- The marks while the search runs; done: a vertex whose arrows have all been followed. -/
structure RInv (n : Nat) (adj : Nat → List Nat) (ms m : Nat → Bool) (qs : List Nat) (busy : Nat → Prop) : Prop where
  start : ∀ x, x < n → ms x = true → m x = true
  sound : ∀ x, x < n → m x = true → ∃ u, u < n ∧ ms u = true ∧ Goes adj u x
  queue : ∀ x ∈ qs, x < n ∧ m x = true
  closed : ∀ x, x < n → m x = true → x ∉ qs → ¬ busy x → ∀ t ∈ adj x, m t = true
theorem RInv.all {n : Nat} {adj : Nat → List Nat} {ms m : Nat → Bool} (h : RInv n adj ms m [] (fun _ => False)) (ha : ∀ v, v < n → ∀ t ∈ adj v, t < n) : ∀ x, x < n → (m x = true ↔ ∃ u, u < n ∧ ms u = true ∧ Goes adj u x) := by
  intro x hx
  refine ⟨h.sound x hx, fun ⟨u, hu, hs, hg⟩ => ?_⟩
  exact (Goes.closed (P := fun y => y < n ∧ m y = true) (fun y hy t ht => ⟨ha y hy.1 t ht, h.closed y hy.1 hy.2 (by simp) id t ht⟩) hg ⟨hu, h.start u hu hs⟩).2

/-- The search's memory. -/
structure RN (f : Names) (ov qv : Value) (n : Nat) (m : Nat → Bool) (qs : List Nat) : Prop where
  outs : f (1, 0) = some (rowV 4 ov (tabB n m))
  queue : f (2, 0) = some (rowI qv (upI qs))
section
variable {B : Nat} {w : World} {f : Names} {ov qv : Value} {n : Nat} {m : Nat → Bool} {qs : List Nat}
theorem RN.push (h : RN f ov qv n m qs) (hr : Rows B w f) {w1 : World} {qv' : Value} (t : Nat) (ho : OwnI B w1 qv' (upI qs ++ [(t : Int)]))
    (hal : (roomOf qv' = roomOf qv ∧ w.grownBy w1 qv.ownBlock) ∨ (∃ k, qv'.ownBlock = some k ∧ w.heap.size ≤ k ∧ w.grownBy w1 none)) : ∃ f', Rows B w1 f' ∧ RN f' ov qv' n m (t :: qs) := by
  have hO := hr.ownI h.queue
  have hg : w.grownBy w1 qv.ownBlock := grown_via (hal.imp (·.2) (fun ⟨_, _, _, q⟩ => q))
  have hob : qv'.ownBlock = qv.ownBlock ∨ ∃ k, qv'.ownBlock = some k ∧ w.heap.size ≤ k := by
    rcases hal with ⟨q, _⟩ | ⟨k, h1, h2, _⟩
    · obtain ⟨a1, n1, c1, e1⟩ := hO.at.shape
      obtain ⟨a2, n2, c2, e2⟩ := ho.at.shape
      exact .inl (ownBlock_of_room e1 e2 q)
    · exact .inr ⟨k, h1, h2⟩
  exact ⟨_, hr.grown (r' := rowI qv' (upI qs ++ [(t : Int)])) h.queue hg ho hob, ⟨by rw [upd_ne _ _ (by simp)]; exact h.outs, by rw [upd_same, upI_cons]⟩⟩
theorem RN.shape {v : Nat} {r : List Nat} (h : RN f ov qv n m (v :: r)) (hr : Rows B w f) : ∃ g c, qv = .slice (some ⟨g, 0, none⟩) (r.length + 1) c ∧ r.length + 1 ≤ c := by
  obtain ⟨g, c, e, e2⟩ := row_shape (hr.1 _ _ h.queue) (by show 0 < (upI (v :: r)).length; rw [upI_len]; simp)
  have e : qv = .slice (some ⟨g, 0, none⟩) (upI (v :: r)).length c := e
  have e2 : (upI (v :: r)).length ≤ c := e2
  rw [upI_len, List.length_cons] at e e2
  exact ⟨g, c, e, e2⟩
end
end Go.Proofs.YtilpckngghffoaaGreatDoor

namespace Go.Proofs.YtilpckngghffoaaGreatDoor
open Go.RowKit
set_option maxRecDepth 100000

/-- u stands on a loop. -/
def OnLoop (adj : Nat → List Nat) (u : Nat) : Prop := ∃ t ∈ adj u, Goes adj t u
/-- v stands between two loops. -/
def IsLive (n : Nat) (adj : Nat → List Nat) (v : Nat) : Prop := (∃ u, u < n ∧ OnLoop adj u ∧ Goes adj u v) ∧ ∃ u, u < n ∧ OnLoop adj u ∧ Goes adj v u
structure LiveList (n : Nat) (adj : Nat → List Nat) (L : List Nat) : Prop where
  sorted : L.Pairwise (· < ·)
  mem : ∀ v, v ∈ L ↔ v < n ∧ IsLive n adj v
theorem sorted_eq : ∀ {L M : List Nat}, L.Pairwise (· < ·) → M.Pairwise (· < ·) → (∀ v, v ∈ L ↔ v ∈ M) → L = M
  | [], [], _, _, _ => rfl
  | [], b :: M, _, _, h => absurd ((h b).2 List.mem_cons_self) (by simp)
  | a :: L, [], _, _, h => absurd ((h a).1 List.mem_cons_self) (by simp)
  | a :: L, b :: M, hL, hM, h => by
    obtain ⟨a1, a2⟩ := List.pairwise_cons.1 hL
    obtain ⟨b1, b2⟩ := List.pairwise_cons.1 hM
    have hab : a = b := by
      rcases List.mem_cons.1 ((h a).1 List.mem_cons_self) with e | e
      · exact e
      · rcases List.mem_cons.1 ((h b).2 List.mem_cons_self) with e2 | e2
        · exact e2.symm
        · have := b1 a e; have := a1 b e2; omega
    subst hab
    rw [sorted_eq a2 b2 fun v => ?_]
    have := h v
    simp only [List.mem_cons] at this
    constructor
    · intro hv
      rcases this.1 (.inr hv) with e | e
      · subst e; exact absurd (a1 v hv) (Nat.lt_irrefl _)
      · exact e
    · intro hv
      rcases this.2 (.inr hv) with e | e
      · subst e; exact absurd (b1 v hv) (Nat.lt_irrefl _)
      · exact e
theorem LiveList.unique {n : Nat} {adj : Nat → List Nat} {L M : List Nat} (h : LiveList n adj L) (k : LiveList n adj M) : L = M := sorted_eq h.sorted k.sorted fun v => by rw [h.mem, k.mem]
/-- The marks of the vertices on loops: of the first k, and of the next by its first j arrows. -/
def LoopTo (G : List (List Int)) (ps : List Int) (k j : Nat) (m : Nat → Bool) : Prop :=
  ∀ x, x < G.length → (m x = true ↔ (x < k ∧ ∃ t ∈ adjOf G x, ps.getD t 0 = ps.getD x 0) ∨ (x = k ∧ ∃ t ∈ (adjOf G k).take j, ps.getD t 0 = ps.getD k 0))
theorem LoopTo.next {G : List (List Int)} {ps : List Int} {k : Nat} {m : Nat → Bool} (h : LoopTo G ps k (adjOf G k).length m) : LoopTo G ps (k + 1) 0 m := by
  intro x hx
  rw [h x hx, List.take_length]
  constructor
  · rintro (⟨a, b⟩ | ⟨rfl, b⟩)
    · exact .inl ⟨by omega, b⟩
    · exact .inl ⟨by omega, b⟩
  · rintro (⟨a, b⟩ | ⟨_, t, ht, _⟩)
    · by_cases e : x = k
      · subst e; exact .inr ⟨rfl, b⟩
      · exact .inl ⟨by omega, b⟩
    · simp at ht
theorem LoopTo.add {G : List (List Int)} {ps : List Int} {k j t : Nat} {m : Nat → Bool} (h : LoopTo G ps k j m) (ht : (adjOf G k)[j]? = some t) (m' : Nat → Bool)
    (hm : m' = if ps.getD t 0 = ps.getD k 0 then updN m k true else m) : LoopTo G ps k (j + 1) m' := by
  intro x hx
  have htk : (adjOf G k).take (j + 1) = (adjOf G k).take j ++ [t] := by rw [List.take_add_one, ht]; rfl
  by_cases hp : ps.getD t 0 = ps.getD k 0
  · rw [if_pos hp] at hm
    subst hm
    by_cases e : x = k
    · subst e
      rw [updN_same]
      exact ⟨fun _ => .inr ⟨rfl, t, by rw [htk]; simp, hp⟩, fun _ => rfl⟩
    · rw [updN_other _ _ _ e, h x hx]
      exact ⟨fun q => q.imp id (fun q => absurd q.1 e), fun q => q.imp id (fun q => absurd q.1 e)⟩
  · rw [if_neg hp] at hm
    subst hm
    rw [h x hx, htk]
    constructor
    · rintro (q | ⟨e, s, hs, hq⟩)
      · exact .inl q
      · exact .inr ⟨e, s, List.mem_append_left _ hs, hq⟩
    · rintro (q | ⟨e, s, hs, hq⟩)
      · exact .inl q
      · rcases List.mem_append.1 hs with hs | hs
        · exact .inr ⟨e, s, hs, hq⟩
        · cases List.mem_singleton.1 hs; exact absurd hq hp

end Go.Proofs.YtilpckngghffoaaGreatDoor

namespace Go.Proofs.YtilpckngghffoaaGreatDoor
open Go.RowKit
set_option maxRecDepth 100000

/-- The least of the first k neighbours that are nearer by one. -/
def BestTo (l : List Nat) (D : Nat → Int) (d : Int) (k : Nat) (b : Int) : Prop :=
  (b = -1 ∧ ∀ t ∈ l.take k, D t ≠ d) ∨ ∃ m : Nat, b = m ∧ m ∈ l.take k ∧ D m = d ∧ ∀ t ∈ l.take k, D t = d → m ≤ t
theorem BestTo.zero (l : List Nat) (D : Nat → Int) (d : Int) : BestTo l D d 0 (-1) := .inl ⟨rfl, fun t ht => by simp at ht⟩
theorem BestTo.low {l : List Nat} {D : Nat → Int} {d : Int} {k : Nat} {b : Int} (h : BestTo l D d k b) : -1 ≤ b := by
  rcases h with ⟨h, _⟩ | ⟨m, h, _⟩ <;> omega
theorem take_mem {l : List Nat} {k t : Nat} (ht : l[k]? = some t) (x : Nat) : x ∈ l.take (k + 1) ↔ x ∈ l.take k ∨ x = t := by
  rw [List.take_add_one, ht]; simp
theorem BestTo.skip {l : List Nat} {D : Nat → Int} {d : Int} {k : Nat} {b : Int} (h : BestTo l D d k b) {t : Nat} (ht : l[k]? = some t) (hd : D t ≠ d) : BestTo l D d (k + 1) b := by
  rcases h with ⟨h1, h2⟩ | ⟨m, h1, h2, h3, h4⟩
  · refine .inl ⟨h1, fun x hx => ?_⟩
    rcases (take_mem ht x).1 hx with hx | rfl
    · exact h2 x hx
    · exact hd
  · refine .inr ⟨m, h1, (take_mem ht m).2 (.inl h2), h3, fun x hx hxd => ?_⟩
    rcases (take_mem ht x).1 hx with hx | rfl
    · exact h4 x hx hxd
    · exact absurd hxd hd
theorem BestTo.take {l : List Nat} {D : Nat → Int} {d : Int} {k : Nat} {b : Int} (h : BestTo l D d k b) {t : Nat} (ht : l[k]? = some t) (hd : D t = d) (hb : b < 0 ∨ (t : Int) < b) : BestTo l D d (k + 1) t := by
  refine .inr ⟨t, rfl, (take_mem ht t).2 (.inr rfl), hd, fun x hx hxd => ?_⟩
  rcases (take_mem ht x).1 hx with hx | rfl
  · rcases h with ⟨h1, h2⟩ | ⟨m, h1, h2, h3, h4⟩
    · exact absurd hxd (h2 x hx)
    · have := h4 x hx hxd; omega
  · exact Nat.le_refl _
theorem BestTo.stay {l : List Nat} {D : Nat → Int} {d : Int} {k : Nat} {b : Int} (h : BestTo l D d k b) {t : Nat} (ht : l[k]? = some t) (hb : 0 ≤ b) (hbt : b ≤ t) : BestTo l D d (k + 1) b := by
  rcases h with ⟨h1, h2⟩ | ⟨m, h1, h2, h3, h4⟩
  · omega
  · refine .inr ⟨m, h1, (take_mem ht m).2 (.inl h2), h3, fun x hx hxd => ?_⟩
    rcases (take_mem ht x).1 hx with hx | rfl
    · exact h4 x hx hxd
    · omega

/-- Where the way stands. -/
structure Down (n : Nat) (adj : Nat → List Nat) (x y : Nat) (D : Nat → Int) (out : List Nat) (v : Nat) : Prop where
  low : v < n
  there : 0 ≤ D v
  len : (out.length : Int) + D v = D x + 1
  last : ∃ pre, out = pre ++ [v]
  ext : ∀ u, IsFirst adj v y u → ∀ pre, out = pre ++ [v] → IsFirst adj x y (pre ++ u)
theorem Down.start {n : Nat} {adj : Nat → List Nat} {x y : Nat} {D : Nat → Int} (hx : x < n) (h0 : 0 ≤ D x) : Down n adj x y D [x] x :=
  ⟨hx, h0, by simp; omega, ⟨[], rfl⟩, fun u hu pre hp => by
    cases pre with
    | nil => exact hu
    | cons a pre => simp at hp⟩
theorem Down.next {n : Nat} {adj : Nat → List Nat} {x y : Nat} {D : Nat → Int} {out : List Nat} {v m : Nat} (h : Down n adj x y D out v) (hT : ToOf n adj y D) (hlt : ∀ v, v < n → ∀ t ∈ adj v, t < n) (hm : m ∈ adj v) (hd : D m = D v - 1) (h1 : 1 ≤ D v)
    (hmin : ∀ t ∈ adj v, D t = D v - 1 → m ≤ t) : Down n adj x y D (out ++ [m]) m := by
  refine ⟨hlt v h.low m hm, by omega, by rw [List.length_append, List.length_singleton]; have := h.len; omega, ⟨out, rfl⟩, fun u hu pre hp => ?_⟩
  have hp2 : out = pre := List.append_inj_left' hp rfl
  subst hp2
  obtain ⟨pre, hpre⟩ := h.last
  have := h.ext (v :: u) (step_first hT hlt h.low hm hd (by omega) hmin hu) pre hpre
  rw [hpre, List.append_assoc]
  exact this
theorem IsFirst.one (adj : Nat → List Nat) (y : Nat) : IsFirst adj y y [y] := by
  refine ⟨.one y, fun u hu => hu.pos, fun u hu hl => ?_⟩
  obtain ⟨w, rfl⟩ := hu.ne
  cases w with
  | nil => exact lexLe_refl _
  | cons a w => simp at hl
theorem Down.stop {n : Nat} {adj : Nat → List Nat} {x y : Nat} {D : Nat → Int} {out : List Nat} (h : Down n adj x y D out y) : IsFirst adj x y out := by
  obtain ⟨pre, hpre⟩ := h.last
  rw [hpre]
  exact h.ext [y] (IsFirst.one adj y) pre hpre

theorem row_push {B : Nat} {w w1 : World} {f : Names} {i : Nat × Nat} {qv qv' : Value} {q : List Nat} (hr : Rows B w f) (hf : f i = some (rowI qv (castI q))) (t : Nat) (ho : OwnI B w1 qv' (castI q ++ [(t : Int)]))
    (hal : (roomOf qv' = roomOf qv ∧ w.grownBy w1 qv.ownBlock) ∨ (∃ k, qv'.ownBlock = some k ∧ w.heap.size ≤ k ∧ w.grownBy w1 none)) : Rows B w1 (upd f i (some (rowI qv' (castI (q ++ [t]))))) := by
  have hO := hr.ownI hf
  have hg : w.grownBy w1 qv.ownBlock := grown_via (hal.imp (·.2) (fun ⟨_, _, _, q⟩ => q))
  have hob : qv'.ownBlock = qv.ownBlock ∨ ∃ k, qv'.ownBlock = some k ∧ w.heap.size ≤ k := by
    rcases hal with ⟨q, _⟩ | ⟨k, h1, h2, _⟩
    · obtain ⟨a1, n1, c1, e1⟩ := hO.at.shape
      obtain ⟨a2, n2, c2, e2⟩ := ho.at.shape
      exact .inl (ownBlock_of_room e1 e2 q)
    · exact .inr ⟨k, h1, h2⟩
  have := hr.grown (r' := rowI qv' (castI q ++ [(t : Int)])) hf hg ho hob
  rwa [← castI_snoc] at this

end Go.Proofs.YtilpckngghffoaaGreatDoor

namespace Go.Proofs.YtilpckngghffoaaGreatDoor
open Go.RowKit
set_option maxRecDepth 100000

theorem OwnI.set3 {B b : Nat} {w : World} {v : Value} {xs : List Int} (h : OwnI B w v xs) (hb : b < B) (x y z : Value) : OwnI B (((w.setCell ⟨b, 0, none⟩ x).setCell ⟨b, 1, none⟩ y).setCell ⟨b, 2, none⟩ z) v xs :=
  OwnV.toI (((h.toV.setBelowBase (a := ⟨b, 0, none⟩) hb x).setBelowBase (a := ⟨b, 1, none⟩) hb y).setBelowBase (a := ⟨b, 2, none⟩) hb z)
theorem FirstPost.set3 {w w3 w4 : World} {adj : Nat → List Nat} {a b : Nat} {v : Value} (h : FirstPost w3 adj a b v w4) {c : Nat} (hb : c < w3.heap.size) (hs : w.heap.size ≤ w3.heap.size) (x y z : Value) : FirstPost w adj a b v (((w4.setCell ⟨c, 0, none⟩ x).setCell ⟨c, 1, none⟩ y).setCell ⟨c, 2, none⟩ z) := by
  rcases h with ⟨u, h1, h2⟩ | h
  · exact .inl ⟨u, h1, (h2.set3 hb x y z).mono hs⟩
  · exact .inr h
end Go.Proofs.YtilpckngghffoaaGreatDoor

namespace Go.Proofs.YtilpckngghffoaaGreatDoor
theorem Goes.loop {adj : Nat → List Nat} {x y : Nat} (h : Goes adj x y) (ha : x ∈ adj y) : OnLoop adj x := by
  obtain ⟨w, hw⟩ := h.way
  cases hw with
  | one => exact ⟨x, ha, .refl x⟩
  | @cons _ t _ w ht hw => exact ⟨t, ht, .step hw.goes ha⟩
end Go.Proofs.YtilpckngghffoaaGreatDoor

namespace Go.Proofs.YtilpckngghffoaaGreatDoor

/-- Between two rounds. -/
structure PS (n : Nat) (A B : Nat → List Nat) (inn out c d : Nat → Nat) (gone : Nat → Bool) (q : List Nat) (lives : Nat → Prop) (i : Nat) : Prop where
  peel : Peel n A B inn out c d gone q lives
  pos : ∀ t, t < n → gone t = false → 0 < inn t ∧ 0 < out t
  done : ∀ j x, j < i → q[j]? = some x → c x = (A x).length ∧ d x = (B x).length
  rest : ∀ j x, i ≤ j → q[j]? = some x → c x = 0 ∧ d x = 0
/-- Within a round. -/
structure Mid (n : Nat) (A B : Nat → List Nat) (inn out c d : Nat → Nat) (gone : Nat → Bool) (q : List Nat) (lives : Nat → Prop) (i v : Nat) : Prop where
  peel : Peel n A B inn out c d gone q lives
  pos : ∀ t, t < n → gone t = false → 0 < inn t ∧ 0 < out t
  cur : q[i]? = some v
  done : ∀ j x, j < i → q[j]? = some x → c x = (A x).length ∧ d x = (B x).length
  rest : ∀ j x, i < j → q[j]? = some x → c x = 0 ∧ d x = 0
section
variable {n : Nat} {A B : Nat → List Nat} {inn out c d : Nat → Nat} {gone : Nat → Bool} {q : List Nat} {lives : Nat → Prop} {i v : Nat}
theorem PS.enter (h : PS n A B inn out c d gone q lives i) (hv : q[i]? = some v) : Mid n A B inn out c d gone q lives i v ∧ c v = 0 ∧ d v = 0 ∧ v < n :=
  ⟨⟨h.peel, h.pos, hv, h.done, fun j x hj hx => h.rest j x (by omega) hx⟩, (h.rest i v (Nat.le_refl _) hv).1, (h.rest i v (Nat.le_refl _) hv).2, h.peel.low v (List.mem_of_getElem? hv)⟩
theorem Mid.leave (h : Mid n A B inn out c d gone q lives i v) (hc : c v = (A v).length) (hd : d v = (B v).length) : PS n A B inn out c d gone q lives (i + 1) := by
  refine ⟨h.peel, h.pos, fun j x hj hx => ?_, fun j x hj hx => h.rest j x (by omega) hx⟩
  by_cases e : j = i
  · subst e
    rw [h.cur] at hx; cases hx
    exact ⟨hc, hd⟩
  · exact h.done j x (by omega) hx
/-- An arrow of v is gone through. -/
theorem Mid.step (h : Mid n A B inn out c d gone q lives i v) (hL : LiveSet n A B lives) {k t : Nat} (hk : c v = k) (ht : (A v)[k]? = some t) (htn : t < n) :
    0 < inn t ∧ (inn t = 1 → gone t = false → Mid n A B (updN inn t (inn t - 1)) out (updN c v (k + 1)) d (updN gone t true) (q ++ [t]) lives i v) ∧
    ((inn t = 1 → gone t = true) → Mid n A B (updN inn t (inn t - 1)) out (updN c v (k + 1)) d gone q lives i v) := by
  have hvq := List.mem_of_getElem? h.cur
  obtain ⟨h0, hp⟩ := h.peel.arrow1 hvq hk ht htn
  have hne : ∀ j x, j ≠ i → q[j]? = some x → x ≠ v := fun j x hj hx e => hj (get_inj h.peel.nodup (by rw [hx, e]) h.cur)
  have hdone : ∀ j x, j < i → q[j]? = some x → updN c v (k + 1) x = (A x).length ∧ d x = (B x).length := fun j x hj hx => by
    rw [updN_other _ _ _ (hne j x (by omega) hx)]; exact h.done j x hj hx
  have hrest : ∀ j x, i < j → q[j]? = some x → updN c v (k + 1) x = 0 ∧ d x = 0 := fun j x hj hx => by
    rw [updN_other _ _ _ (hne j x (by omega) hx)]; exact h.rest j x hj hx
  refine ⟨h0, fun h1 hg => ?_, fun h1 => ?_⟩
  · have htq : t ∉ q := fun hm => by have := (h.peel.goneq t).2 hm; rw [hg] at this; cases this
    have htv : t ≠ v := fun e => htq (by rw [e]; exact hvq)
    have hil := get_of h.cur
    have hga : ∀ j x, (q ++ [t])[j]? = some x → q[j]? = some x ∨ j = q.length ∧ x = t := fun j x hx => by
      by_cases e : j < q.length
      · rw [List.getElem?_append_left e] at hx; exact .inl hx
      · rw [List.getElem?_append_right (by omega)] at hx
        by_cases e2 : j = q.length
        · rw [e2] at hx; simp at hx; exact .inr ⟨e2, hx.symm⟩
        · rw [List.getElem?_eq_none (by simp; omega)] at hx; cases hx
    refine ⟨hp.goes hL htn hg (.inl (by rw [updN_same]; omega)), fun x hx hgx => ?_, by rw [List.getElem?_append_left hil]; exact h.cur, fun j x hj hx => ?_, fun j x hj hx => ?_⟩
    · by_cases e : x = t
      · subst e; rw [updN_same] at hgx; cases hgx
      · rw [updN_other _ _ _ e] at hgx ⊢; exact h.pos x hx hgx
    · rcases hga j x hx with hx | ⟨hj2, _⟩
      · exact hdone j x hj hx
      · omega
    · rcases hga j x hx with hx | ⟨_, rfl⟩
      · exact hrest j x hj hx
      · rw [updN_other _ _ _ htv]; exact h.peel.fresh x htq
  · refine ⟨hp, fun x hx hgx => ?_, h.cur, hdone, hrest⟩
    by_cases e : x = t
    · subst e
      rw [updN_same]
      have := (h.pos x hx hgx).2
      have : inn x ≠ 1 := fun e => by have := h1 e; rw [hgx] at this; cases this
      omega
    · rw [updN_other _ _ _ e]; exact h.pos x hx hgx
end
/-- The beginning: the first k have been looked at. -/
structure PStart (n : Nat) (A B : Nat → List Nat) (gone : Nat → Bool) (q : List Nat) (lives : Nat → Prop) (k : Nat) : Prop where
  peel : Peel n A B (fun t => (B t).length) (fun t => (A t).length) (fun _ => 0) (fun _ => 0) gone q lives
  pos : ∀ t, t < k → gone t = false → 0 < (B t).length ∧ 0 < (A t).length
  below : ∀ x ∈ q, x < k
section
variable {n : Nat} {A B : Nat → List Nat} {gone : Nat → Bool} {q : List Nat} {lives : Nat → Prop} {k : Nat}
theorem PStart.zero (hA : ∀ t, t < n → ∀ x ∈ A t, x < n) (hB : ∀ t, t < n → ∀ x ∈ B t, x < n) (hc : ∀ t v, t < n → v < n → (B t).count v = (A v).count t) : PStart n A B (fun _ => false) [] lives 0 :=
  ⟨⟨Deg.init hB (fun v t hv ht => hc t v ht hv), Deg.init hA (fun v t hv ht => (hc v t hv ht).symm), by simp, fun x => by simp, fun x hx => by simp at hx, fun _ _ => ⟨rfl, rfl⟩, fun _ _ _ => rfl⟩, fun t ht => by omega, fun x hx => by simp at hx⟩
theorem PStart.take (h : PStart n A B gone q lives k) (hL : LiveSet n A B lives) (hk : k < n) (h0 : (A k).length = 0 ∨ (B k).length = 0) : PStart n A B (updN gone k true) (q ++ [k]) lives (k + 1) := by
  have hg : gone k = false := by
    cases hgk : gone k with
    | false => rfl
    | true => have := h.below k ((h.peel.goneq k).1 hgk); omega
  refine ⟨h.peel.goes hL hk hg h0.symm, fun t ht hgt => ?_, fun x hx => ?_⟩
  · by_cases e : t = k
    · subst e; rw [updN_same] at hgt; cases hgt
    · rw [updN_other _ _ _ e] at hgt; exact h.pos t (by omega) hgt
  · rcases List.mem_append.1 hx with hx | hx
    · have := h.below x hx; omega
    · cases List.mem_singleton.1 hx; omega
theorem PStart.skip (h : PStart n A B gone q lives k) (hA : (A k).length ≠ 0) (hB : (B k).length ≠ 0) : PStart n A B gone q lives (k + 1) := by
  refine ⟨h.peel, fun t ht hgt => ?_, fun x hx => by have := h.below x hx; omega⟩
  by_cases e : t = k
  · subst e; omega
  · exact h.pos t (by omega) hgt
theorem PStart.all (h : PStart n A B gone q lives n) : PS n A B (fun t => (B t).length) (fun t => (A t).length) (fun _ => 0) (fun _ => 0) gone q lives 0 :=
  ⟨h.peel, h.pos, fun j x hj => by omega, fun _ _ _ _ => ⟨rfl, rfl⟩⟩
end
end Go.Proofs.YtilpckngghffoaaGreatDoor

namespace Go.Proofs.YtilpckngghffoaaGreatDoor
open Go.RowKit
set_option maxRecDepth 100000

/-- The memory of the peeling. -/
structure LvN (f : Names) (ov iv gv qv : Value) (n : Nat) (out inn : Nat → Nat) (gone : Nat → Bool) (q : List Nat) : Prop where
  outs : f (1, 0) = some (rowI ov (tab n out))
  inns : f (2, 0) = some (rowI iv (tab n inn))
  gones : f (3, 0) = some (rowV 4 gv (tabB n gone))
  queue : f (4, 0) = some (rowI qv (castI q))
section
variable {B : Nat} {w : World} {f : Names} {ov iv gv qv : Value} {n : Nat} {out inn : Nat → Nat} {gone : Nat → Bool} {q : List Nat}
theorem LvN.push (h : LvN f ov iv gv qv n out inn gone q) (hr : Rows B w f) {w1 : World} {qv' : Value} (t : Nat) (ho : OwnI B w1 qv' (castI q ++ [(t : Int)]))
    (hal : (roomOf qv' = roomOf qv ∧ w.grownBy w1 qv.ownBlock) ∨ (∃ k, qv'.ownBlock = some k ∧ w.heap.size ≤ k ∧ w.grownBy w1 none)) : ∃ f', Rows B w1 f' ∧ LvN f' ov iv gv qv' n out inn gone (q ++ [t]) :=
  ⟨_, row_push hr h.queue t ho hal, ⟨by rw [upd_ne _ _ (by simp)]; exact h.outs, by rw [upd_ne _ _ (by simp)]; exact h.inns, by rw [upd_ne _ _ (by simp)]; exact h.gones, upd_same _ _ _⟩⟩
end
/-- Box3 below another block. -/
theorem Box3.keep {B : Nat} {w w' : World} {b : Nat} {x0 x1 x2 : Value} (h : Box3 w b x0 x1 x2) (hb : Below B w w') (hlt : b < B) : Box3 w' b x0 x1 x2 := h.belowB hb hlt

end Go.Proofs.YtilpckngghffoaaGreatDoor

namespace Go.Proofs.YtilpckngghffoaaGreatDoor
open Go.RowKit Go.Shelf Go.Sort
set_option maxRecDepth 100000

end Go.Proofs.YtilpckngghffoaaGreatDoor

namespace Go.Proofs.YtilpckngghffoaaGreatDoor

/-- The search: the levels D, the queue q; the first i of it have been gone through, and of the next, v, the arrows to pre. -/
structure MIn (N : Nat) (adj : Nat → List Nat) (D : Nat → Nat) (q : List Nat) (i v : Nat) (pre : List Nat) : Prop where
  at_ : q[i]? = some v
  nodup : q.Nodup
  low : ∀ x ∈ q, x < N * N
  diag : ∀ x, x < N * N → Diag N x → x ∈ q ∧ D x = 0
  old : ∀ x, x < N * N → ¬ Diag N x → (x ∈ q ↔ 0 < D x)
  mono : ∀ (j k x y : Nat), j ≤ k → q[j]? = some x → q[k]? = some y → D x ≤ D y
  top : ∀ x ∈ q, D x ≤ D v + 1
  bnd : ∀ x ∈ q, D x ≤ q.length
  done : ∀ (k x : Nat), k < i → q[k]? = some x → ∀ t ∈ adj x, (¬ Diag N t → t ∈ q ∧ D t ≤ D x + 1) ∧ (Diag N t → Diag N x)
  now : ∀ t ∈ pre, (¬ Diag N t → t ∈ q ∧ D t ≤ D v + 1) ∧ (Diag N t → Diag N v)
/-- Between two of the queue: the first i have been gone through. -/
structure MOut (N : Nat) (adj : Nat → List Nat) (D : Nat → Nat) (q : List Nat) (i : Nat) : Prop where
  nodup : q.Nodup
  low : ∀ x ∈ q, x < N * N
  diag : ∀ x, x < N * N → Diag N x → x ∈ q ∧ D x = 0
  old : ∀ x, x < N * N → ¬ Diag N x → (x ∈ q ↔ 0 < D x)
  mono : ∀ (j k x y : Nat), j ≤ k → q[j]? = some x → q[k]? = some y → D x ≤ D y
  top : ∀ v : Nat, q[i]? = some v → ∀ x ∈ q, D x ≤ D v + 1
  bnd : ∀ x ∈ q, D x ≤ q.length
  done : ∀ (k x : Nat), k < i → q[k]? = some x → ∀ t ∈ adj x, (¬ Diag N t → t ∈ q ∧ D t ≤ D x + 1) ∧ (Diag N t → Diag N x)
section
variable {N : Nat} {adj : Nat → List Nat} {D : Nat → Nat} {q : List Nat} {i v : Nat} {pre : List Nat}
/-- The pairs of equal nodes, in order. -/
def diags (N : Nat) : List Nat := (List.range N).map fun u => u * N + u
theorem mem_diags {N x : Nat} : x ∈ diags N ↔ ∃ u, u < N ∧ x = u * N + u := by
  unfold diags; rw [List.mem_map]
  constructor
  · rintro ⟨u, h, rfl⟩; exact ⟨u, List.mem_range.1 h, rfl⟩
  · rintro ⟨u, h, rfl⟩; exact ⟨u, List.mem_range.2 h, rfl⟩
theorem MOut.init (N : Nat) (adj : Nat → List Nat) : MOut N adj (fun _ => 0) (diags N) 0 := by
  refine ⟨?_, fun x hx => ?_, fun x hx hd => ⟨mem_diags.2 ⟨x / N, div_lt_of hx, hd.eq⟩, rfl⟩, fun x hx hd => ⟨fun h => ?_, fun h => absurd h (by simp)⟩, fun _ _ _ _ _ _ _ => Nat.le_refl _, fun _ _ _ _ => by simp, fun _ _ => Nat.zero_le _, fun k x hk => by omega⟩
  · unfold diags
    rw [List.nodup_iff_pairwise_ne, List.pairwise_map]
    refine List.pairwise_lt_range.imp_of_mem fun {a b} ha hb h e => ?_
    have hb := List.mem_range.1 hb
    have := Nat.mul_le_mul_right N (show a + 1 ≤ b by omega)
    rw [Nat.add_mul] at this
    omega
  · obtain ⟨u, hu, rfl⟩ := mem_diags.1 hx
    exact pair_lt hu hu
  · obtain ⟨u, hu, rfl⟩ := mem_diags.1 h
    exact absurd (diag_mk hu) hd
theorem MOut.enter (h : MOut N adj D q i) (hv : q[i]? = some v) : MIn N adj D q i v [] :=
  ⟨hv, h.nodup, h.low, h.diag, h.old, h.mono, h.top v hv, h.bnd, h.done, fun _ ht => by cases ht⟩
theorem MIn.leave (h : MIn N adj D q i v pre) (hp : pre = adj v) : MOut N adj D q (i + 1) := by
  subst hp
  refine ⟨h.nodup, h.low, h.diag, h.old, h.mono, fun y hy x hx => ?_, h.bnd, fun k x hk hx => ?_⟩
  · have := h.mono i (i + 1) v y (by omega) h.at_ hy
    have := h.top x hx
    omega
  · by_cases e : k = i
    · subst e
      rw [h.at_] at hx; cases hx
      exact h.now
    · exact h.done k x (by omega) hx
/-- An arrow that is passed over: to a pair of equal nodes from one, to one that has come up. -/
theorem MIn.skip (h : MIn N adj D q i v pre) {t : Nat} (ht : (Diag N t ∧ Diag N v) ∨ (¬ Diag N t ∧ t ∈ q)) : MIn N adj D q i v (pre ++ [t]) := by
  refine ⟨h.at_, h.nodup, h.low, h.diag, h.old, h.mono, h.top, h.bnd, h.done, fun s hs => ?_⟩
  rcases List.mem_append.1 hs with hs | hs
  · exact h.now s hs
  · cases List.mem_singleton.1 hs
    rcases ht with ⟨h1, h2⟩ | ⟨h1, h2⟩
    · exact ⟨fun q => absurd h1 q, fun _ => h2⟩
    · exact ⟨fun _ => ⟨h2, h.top _ h2⟩, fun q => absurd q h1⟩
/-- A new one. -/
theorem MIn.add (h : MIn N adj D q i v pre) {t : Nat} (htl : t < N * N) (ht : ¬ Diag N t) (hq : t ∉ q) : MIn N adj (updN D t (D v + 1)) (q ++ [t]) i v (pre ++ [t]) := by
  have hi : i < q.length := (List.getElem?_eq_some_iff.1 h.at_).1
  have hvq : v ∈ q := List.mem_of_getElem? h.at_
  have hvt : v ≠ t := fun e => hq (by rw [← e]; exact hvq)
  have hD : ∀ x, x ∈ q → updN D t (D v + 1) x = D x := fun x hx => updN_other _ _ _ (fun e => hq (by rw [← e]; exact hx))
  have hget : ∀ k x, (q ++ [t])[k]? = some x → (q[k]? = some x ∧ k < q.length) ∨ (k = q.length ∧ x = t) := fun k x hx => by
    rw [List.getElem?_append] at hx
    split at hx
    · exact .inl ⟨hx, by assumption⟩
    · right
      cases hk : k - q.length with
      | zero => rw [hk] at hx; simp at hx; exact ⟨by omega, hx.symm⟩
      | succ n => rw [hk] at hx; simp at hx
  refine ⟨by rw [List.getElem?_append_left hi]; exact h.at_, List.nodup_append.2 ⟨h.nodup, by simp, fun a ha b hb e => by cases List.mem_singleton.1 hb; subst e; exact hq ha⟩, fun x hx => ?_, fun x hx hd => ?_, fun x hx hd => ?_, fun j k x y hjk hx hy => ?_, fun x hx => ?_, fun x hx => ?_, fun k x hk hx s hs => ?_, fun s hs => ?_⟩
  · rcases List.mem_append.1 hx with hx | hx
    · exact h.low x hx
    · cases List.mem_singleton.1 hx; exact htl
  · obtain ⟨h1, h2⟩ := h.diag x hx hd
    exact ⟨List.mem_append_left _ h1, by rw [hD x h1]; exact h2⟩
  · by_cases e : x = t
    · subst e; rw [updN_same]; simp
    · rw [updN_other _ _ _ e, ← h.old x hx hd]; simp [e]
  · rcases hget j x hx with ⟨a1, _⟩ | ⟨a1, rfl⟩
    · rw [hD x (List.mem_of_getElem? a1)]
      rcases hget k y hy with ⟨b1, _⟩ | ⟨b1, rfl⟩
      · rw [hD y (List.mem_of_getElem? b1)]; exact h.mono j k x y hjk a1 b1
      · rw [updN_same]; exact h.top x (List.mem_of_getElem? a1)
    · rcases hget k y hy with ⟨b1, b2⟩ | ⟨b1, rfl⟩
      · omega
      · exact Nat.le_refl _
  · rw [updN_other D t (D v + 1) hvt]
    rcases List.mem_append.1 hx with hx | hx
    · rw [hD x hx]; exact h.top x hx
    · cases List.mem_singleton.1 hx; rw [updN_same]; exact Nat.le_refl _
  · rw [List.length_append, List.length_singleton]
    rcases List.mem_append.1 hx with hx | hx
    · rw [hD x hx]; have := h.bnd x hx; omega
    · cases List.mem_singleton.1 hx; rw [updN_same]; have := h.bnd v hvq; omega
  · rcases hget k x hx with ⟨a1, _⟩ | ⟨a1, rfl⟩
    · rw [hD x (List.mem_of_getElem? a1)]
      obtain ⟨c1, c2⟩ := h.done k x hk a1 s hs
      exact ⟨fun q' => by
        obtain ⟨d1, d2⟩ := c1 q'
        exact ⟨List.mem_append_left _ d1, by rw [hD s d1]; exact d2⟩, c2⟩
    · omega
  · rw [updN_other D t (D v + 1) hvt]
    rcases List.mem_append.1 hs with hs | hs
    · obtain ⟨c1, c2⟩ := h.now s hs
      exact ⟨fun q' => by
        obtain ⟨d1, d2⟩ := c1 q'
        exact ⟨List.mem_append_left _ d1, by rw [hD s d1]; exact d2⟩, c2⟩
    · cases List.mem_singleton.1 hs
      exact ⟨fun _ => ⟨List.mem_append_right _ (by simp), by rw [updN_same]; exact Nat.le_refl _⟩, fun q' => absurd q' ht⟩
/-- Of a way, whose vertices are gone through as far as j, the next one lies in the queue. -/
theorem MOut.along (h : MOut N adj D q i) {u : List Nat} (hu : ApartWay N adj u) : ∀ j, j + 1 < u.length →
    (∃ k, k ≤ j ∧ u.getD k 0 ∈ q ∧ D (u.getD k 0) ≤ k ∧ ∀ m, m < i → q[m]? ≠ some (u.getD k 0)) ∨ (u.getD j 0 ∈ q ∧ D (u.getD j 0) ≤ j ∧ ∃ m, m < i ∧ q[m]? = some (u.getD j 0))
  | 0, h1 => by
    obtain ⟨a, b⟩ := h.diag _ (hu.low 0 (by omega)) hu.fst
    by_cases q' : ∃ m, m < i ∧ q[m]? = some (u.getD 0 0)
    · exact .inr ⟨a, by omega, q'⟩
    · exact .inl ⟨0, Nat.le_refl _, a, by omega, fun m hm e => q' ⟨m, hm, e⟩⟩
  | j + 1, h1 => by
    rcases h.along hu j (by omega) with ⟨k, k1, k2, k3, k4⟩ | ⟨_, a2, m, m1, m2⟩
    · exact .inl ⟨k, by omega, k2, k3, k4⟩
    · obtain ⟨c1, _⟩ := h.done m _ m1 m2 _ (hu.arr j (by omega))
      obtain ⟨d1, d2⟩ := c1 (hu.inn (j + 1) (by omega) h1)
      by_cases q' : ∃ m, m < i ∧ q[m]? = some (u.getD (j + 1) 0)
      · exact .inr ⟨d1, by omega, q'⟩
      · exact .inl ⟨j + 1, Nat.le_refl _, d1, by omega, fun m hm e => q' ⟨m, hm, e⟩⟩
/-- At the end of the queue: there is no such way. -/
theorem MOut.none (h : MOut N adj D q i) (hi : q.length ≤ i) (u : List Nat) : ¬ ApartWay N adj u := fun hu => by
  have h3 := hu.len
  rcases h.along hu (u.length - 2) (by omega) with ⟨k, _, k2, _, k4⟩ | ⟨_, _, m, m1, m2⟩
  · obtain ⟨m, hm⟩ := List.mem_iff_getElem?.1 k2
    have := (List.getElem?_eq_some_iff.1 hm).1
    exact k4 m (by omega) hm
  · obtain ⟨_, c2⟩ := h.done m _ m1 m2 _ (hu.arr (u.length - 2) (by omega))
    refine hu.inn (u.length - 2) (by omega) (by omega) (c2 ?_)
    rw [show u.length - 2 + 1 = u.length - 1 by omega]
    exact hu.lst
/-- Whoever is met from v: no way is shorter. -/
theorem MIn.best (h : MIn N adj D q i v pre) {u : List Nat} (hu : ApartWay N adj u) : D v + 3 ≤ u.length + 1 := by
  have h3 := hu.len
  have ho : MOut N adj D q i := ⟨h.nodup, h.low, h.diag, h.old, h.mono, fun y hy => by rw [h.at_] at hy; cases hy; exact h.top, h.bnd, h.done⟩
  rcases ho.along hu (u.length - 2) (by omega) with ⟨k, k1, k2, k3, k4⟩ | ⟨_, _, m, m1, m2⟩
  · obtain ⟨m, hm⟩ := List.mem_iff_getElem?.1 k2
    have hmi : i ≤ m := Nat.le_of_not_lt fun q' => k4 m q' hm
    have := h.mono i m v _ hmi h.at_ hm
    omega
  · obtain ⟨_, c2⟩ := h.done m _ m1 m2 _ (hu.arr (u.length - 2) (by omega))
    refine absurd (c2 ?_) (hu.inn (u.length - 2) (by omega) (by omega))
    rw [show u.length - 2 + 1 = u.length - 1 by omega]
    exact hu.lst

/-- From whom each came. -/
def CameOf (N : Nat) (adj : Nat → List Nat) (D : Nat → Nat) (q : List Nat) (came : Nat → Int) : Prop :=
  (∀ x, x < N * N → ((came x < 0 ↔ Diag N x ∨ x ∉ q) ∧ (came x < 0 → came x = -1))) ∧ ∀ x, x < N * N → 0 ≤ came x → ∃ p : Nat, came x = p ∧ p ∈ q ∧ x ∈ adj p ∧ D x = D p + 1
theorem CameOf.init (N : Nat) (adj : Nat → List Nat) : CameOf N adj (fun _ => 0) (diags N) (fun _ => -1) := by
  refine ⟨fun x hx => ⟨⟨fun _ => ?_, fun _ => (by show (-1 : Int) < 0; decide)⟩, fun _ => rfl⟩, fun x _ h => by simp at h⟩
  by_cases hd : Diag N x
  · exact .inl hd
  · right
    intro hm
    obtain ⟨u, hu, rfl⟩ := mem_diags.1 hm
    exact hd (diag_mk hu)
theorem CameOf.add (h : MIn N adj D q i v pre) {came : Nat → Int} (hc : CameOf N adj D q came) {t : Nat} (ht : ¬ Diag N t) (hq : t ∉ q) (ha : t ∈ adj v) : CameOf N adj (updN D t (D v + 1)) (q ++ [t]) (updN came t (v : Int)) := by
  have hvq : v ∈ q := List.mem_of_getElem? h.at_
  have hvt : v ≠ t := fun e => hq (by rw [← e]; exact hvq)
  refine ⟨fun x hx => ?_, fun x hx h0 => ?_⟩
  · by_cases e : x = t
    · subst e; rw [updN_same]
      exact ⟨⟨fun q' => by omega, fun q' => by rcases q' with q' | q'; exact absurd q' ht; exact absurd (List.mem_append_right _ (by simp)) q'⟩, fun q' => by omega⟩
    · rw [updN_other _ _ _ e]
      obtain ⟨a, b⟩ := hc.1 x hx
      refine ⟨?_, b⟩
      rw [a]; simp [e]
  · by_cases e : x = t
    · subst e
      refine ⟨v, updN_same .., List.mem_append_left _ hvq, ha, ?_⟩
      rw [updN_same, updN_other _ _ _ hvt]
    · rw [updN_other _ _ _ e] at h0 ⊢
      obtain ⟨p, p1, p2, p3, p4⟩ := hc.2 x hx h0
      refine ⟨p, p1, List.mem_append_left _ p2, p3, ?_⟩
      rw [updN_other _ _ _ e, updN_other _ _ _ (fun e' => hq (by rw [← e']; exact p2))]
      exact p4
/-- The way back from u to a pair of equal nodes. -/
inductive BackWay (N : Nat) (adj : Nat → List Nat) (came : Nat → Int) : Nat → List Nat → Prop
  | stop (x : Nat) (h : came x = -1) (hd : Diag N x) : BackWay N adj came x [x]
  | step (x p : Nat) (c : List Nat) (h : came x = p) (hd : ¬ Diag N x) (ha : x ∈ adj p) (hp : p < N * N) (hc : BackWay N adj came p c) : BackWay N adj came x (x :: c)
theorem CameOf.back {came : Nat → Int} (hq : ∀ x ∈ q, x < N * N) (h0 : ∀ x ∈ q, ¬ Diag N x → 0 < D x) (hc : CameOf N adj D q came) : ∀ n x, D x = n → x ∈ q → ∃ c, BackWay N adj came x c ∧ c.length ≤ n + 1
  | n, x, hn, hx => by
    obtain ⟨a, b⟩ := hc.1 x (hq x hx)
    by_cases hd : Diag N x
    · exact ⟨[x], .stop x (b (a.2 (.inl hd))) hd, by simp⟩
    · have h1 : 0 ≤ came x := by
        apply Classical.byContradiction
        intro q'
        rcases a.1 (by omega) with q' | q'
        · exact hd q'
        · exact q' hx
      obtain ⟨p, p1, p2, p3, p4⟩ := hc.2 x (hq x hx) h1
      obtain ⟨c, c1, c2⟩ := CameOf.back hq h0 hc (n - 1) p (by omega) p2
      exact ⟨x :: c, .step x p c p1 hd p3 (hq p p2) c1, by simp; omega⟩
termination_by n => n
decreasing_by all_goals (have := h0 x hx hd; omega)
theorem BackWay.ne {came : Nat → Int} {x : Nat} {c : List Nat} (h : BackWay N adj came x c) : ∃ c', c = x :: c' := by cases h <;> exact ⟨_, rfl⟩
theorem BackWay.next {came : Nat → Int} {x : Nat} {c : List Nat} (h : BackWay N adj came x c) (hx : x < N * N) : ∀ k y, c[k]? = some y → y < N * N ∧ ((k + 1 < c.length ∧ ∃ z, c[k + 1]? = some z ∧ came y = z) ∨ (k + 1 = c.length ∧ came y = -1)) := by
  induction h with
  | stop x h hd =>
    intro k y hy
    cases k with
    | zero => simp at hy; subst hy; exact ⟨hx, .inr ⟨rfl, h⟩⟩
    | succ k => simp at hy
  | step x p c hcm hnd ha hp hc ih =>
    intro k y hy
    obtain ⟨c', rfl⟩ := hc.ne
    cases k with
    | zero => simp at hy; subst hy; exact ⟨hx, .inl ⟨by simp, p, rfl, hcm⟩⟩
    | succ k =>
      have hy : (p :: c')[k]? = some y := by simpa using hy
      obtain ⟨h1, h2⟩ := ih hp k y hy
      refine ⟨h1, h2.imp ?_ ?_⟩
      · rintro ⟨a, z, b, d⟩; exact ⟨by simpa using a, z, by simpa using b, d⟩
      · rintro ⟨a, b⟩; exact ⟨by simpa using a, b⟩
/-- The whole way, from its first vertex on. -/
theorem BackWay.way {came : Nat → Int} {x : Nat} {c : List Nat} (h : BackWay N adj came x c) (hx : x < N * N) :
    (∀ i, i < c.length → c.reverse.getD i 0 < N * N) ∧ (∀ i, i + 1 < c.length → c.reverse.getD (i + 1) 0 ∈ adj (c.reverse.getD i 0)) ∧ Diag N (c.reverse.getD 0 0) ∧ (∀ i, 0 < i → i < c.length → ¬ Diag N (c.reverse.getD i 0)) ∧ c.reverse.getD (c.length - 1) 0 = x ∧ 0 < c.length := by
  induction h with
  | stop x _ hd => exact ⟨fun i hi => by simp at hi; subst hi; simpa using hx, fun i hi => by simp at hi, by simpa using hd, fun i h1 h2 => by simp at h2; omega, by simp, by simp⟩
  | step x p c hcm hnd ha hp hc ih =>
    obtain ⟨i1, i2, i3, i4, i5, i6⟩ := ih hp
    have g1 : ∀ i, i < c.length → (x :: c).reverse.getD i 0 = c.reverse.getD i 0 := fun i hi => by
      rw [List.reverse_cons, List.getD_eq_getElem?_getD, List.getElem?_append_left (by simpa using hi)]; rfl
    have g2 : (x :: c).reverse.getD c.length 0 = x := by
      rw [List.reverse_cons, List.getD_eq_getElem?_getD, List.getElem?_append_right (by simp)]; simp
    refine ⟨fun i hi => ?_, fun i hi => ?_, ?_, fun i h1 h2 => ?_, ?_, by simp⟩
    · by_cases e : i < c.length
      · rw [g1 i e]; exact i1 i e
      · obtain rfl : i = c.length := by simp at hi; omega
        rw [g2]; exact hx
    · have hi : i + 1 < c.length + 1 := by simpa using hi
      rw [g1 i (by omega)]
      by_cases e : i + 1 < c.length
      · rw [g1 _ e]; exact i2 i e
      · obtain rfl : i = c.length - 1 := by omega
        rw [i5, show c.length - 1 + 1 = c.length by omega, g2]; exact ha
    · rw [g1 0 i6]; exact i3
    · by_cases e : i < c.length
      · rw [g1 i e]; exact i4 i h1 e
      · obtain rfl : i = c.length := by simp at h2; omega
        rw [g2]; exact hnd
    · rw [List.length_cons, Nat.add_sub_cancel, g2]
/-- What is met: a way of the kind, and none is shorter. -/
theorem MIn.met (h : MIn N adj D q i v pre) {came : Nat → Int} (hc : CameOf N adj D q came) {t : Nat} (hv : ¬ Diag N v) (ht : Diag N t) (htl : t < N * N) (ha : t ∈ adj v) :
    ∃ c, BackWay N adj came v c ∧ ApartWay N adj (c.reverse ++ [t]) ∧ (c.reverse ++ [t]).length = D v + 2 ∧ ∀ u, ApartWay N adj u → (c.reverse ++ [t]).length ≤ u.length := by
  have hvq : v ∈ q := List.mem_of_getElem? h.at_
  obtain ⟨c, hb, hl⟩ := hc.back h.low (fun x hx hd => (h.old x (h.low x hx) hd).1 hx) (D v) v rfl hvq
  obtain ⟨w1, w2, w3, w4, w5, w6⟩ := hb.way (h.low v hvq)
  have h2 : 2 ≤ c.length := by
    obtain ⟨c', rfl⟩ := hb.ne
    cases hb with
    | stop _ _ hd => exact absurd hd hv
    | step _ p _ _ _ _ _ hc' => obtain ⟨_, rfl⟩ := hc'.ne; simp
  have g1 : ∀ i, i < c.length → (c.reverse ++ [t]).getD i 0 = c.reverse.getD i 0 := fun i hi => by
    rw [List.getD_eq_getElem?_getD, List.getElem?_append_left (by simpa using hi)]; rfl
  have g2 : (c.reverse ++ [t]).getD c.length 0 = t := by
    rw [List.getD_eq_getElem?_getD, List.getElem?_append_right (by simp)]; simp
  have hL : (c.reverse ++ [t]).length = c.length + 1 := by simp
  have hw : ApartWay N adj (c.reverse ++ [t]) := by
    refine ⟨by omega, fun i hi => ?_, fun i hi => ?_, ?_, ?_, fun i h1 h2 => ?_⟩
    · by_cases e : i < c.length
      · rw [g1 i e]; exact w1 i e
      · obtain rfl : i = c.length := by omega
        rw [g2]; exact htl
    · rw [g1 i (by omega)]
      by_cases e : i + 1 < c.length
      · rw [g1 _ e]; exact w2 i e
      · obtain rfl : i = c.length - 1 := by omega
        rw [w5, show c.length - 1 + 1 = c.length by omega, g2]; exact ha
    · rw [g1 0 (by omega)]; exact w3
    · rw [hL, Nat.add_sub_cancel, g2]; exact ht
    · rw [g1 i (by omega)]; exact w4 i h1 (by omega)
  have hmin : ∀ u, ApartWay N adj u → D v + 2 ≤ u.length := fun u hu => by have := h.best hu; omega
  have := hmin _ hw
  refine ⟨c, hb, hw, by omega, fun u hu => ?_⟩
  have := hmin u hu
  omega
end
end Go.Proofs.YtilpckngghffoaaGreatDoor

namespace Go.Proofs.YtilpckngghffoaaGreatDoor

end Go.Proofs.YtilpckngghffoaaGreatDoor

namespace Go.Proofs.YtilpckngghffoaaGreatDoor
open Go.RowKit
set_option maxRecDepth 100000

section
variable {K N : Nat} {T : List Int}
theorem pairG_len : (pairG K N T).length = N * N := rowsOf_len _ _
theorem pairG_row {p : Nat} (hp : p < N * N) : (pairG K N T).getD p [] = castI (pairL K N T p) := rowsOf_get _ _ _ hp
end
theorem pgraph_bad (r : Nat → Addr) (k R : Int) (va : Option Addr) (vn vc : Nat) (T : List Int) (t : Int × List (ByteArray × Int)) (w : World) (hg : Glob r w) (h : IntsAt w (.slice va vn vc) T) (hc : smallP k R T = some t) :
    Calls Tryz.prog 35 #[.agg #[.int .i64 k, .int .i64 R, .slice va vn vc]] w (Ret2 (fun x y w' => x = .slice none 0 0 ∧ ErrIs r w' (under sPairs 0 (some t)) y) w) := by
  have b0 := belowAlloc w (.cells #[.int .i64 k, .int .i64 R, .slice va vn vc] 24)
  replace hg := Lib.hid (hg.below b0)
  replace h := Lib.hid (h.below b0)
  replace hc := Lib.hid hc
  go_enter Tryz.func35, Tryz.ntmps35
  go_wp2_with fail
  refine (working_bad r k R va vn vc T t _ hg.out h.out hc.out).mono ?_
  rintro e w1 ⟨x, y, rfl, b1, rfl, hy⟩
  obtain ⟨T2, a2, rfl⟩ : ∃ T a, y = .iface T (.pointer (some a)) := by
    unfold under at hy
    exact ErrIs.some_shape hy
  have ba := belowAlloc w1 (.cells #[.int .i64 0, .int .i64 0, .slice none 0 0] 24)
  have hy2 := hy.below ba
  replace hy := Lib.hid hy
  replace hy2 := Lib.hid hy2
  go_wp2
  go_ret2
  exact ⟨_, _, rfl, Below.step b0 (Below.step b1 ba), rfl, hy2.out⟩

end Go.Proofs.YtilpckngghffoaaGreatDoor

namespace Go.Proofs.YtilpckngghffoaaGreatDoor
open Go.RowKit
set_option maxRecDepth 100000

theorem ListsFrom.shape {B : Nat} {w : World} {v : Value} {G : List (List Int)} (h : ListsFrom B w v G) : ∃ a c, v = .slice a G.length c := h.at.shape
theorem ListsFrom.mono {B B' : Nat} {w : World} {v : Value} {G : List (List Int)} (h : ListsFrom B w v G) (hB : B' ≤ B) : ListsFrom B' w v G := by
  obtain ⟨vs, h1, h2, h3⟩ := h
  exact ⟨vs, h1.mono hB, h2, fun i hi => (h3 i hi).mono hB⟩
theorem ListsFrom.set3 {B b : Nat} {w : World} {v : Value} {G : List (List Int)} (h : ListsFrom B w v G) (hb : b < B) (x y z : Value) : ListsFrom B (((w.setCell ⟨b, 0, none⟩ x).setCell ⟨b, 1, none⟩ y).setCell ⟨b, 2, none⟩ z) v G :=
  ((h.set (a := ⟨b, 0, none⟩) hb x).set (a := ⟨b, 1, none⟩) hb y).set (a := ⟨b, 2, none⟩) hb z
theorem dm9 (p N : Nat) (hp : p ≤ 100000000) : (p : Int).tdiv (N : Int) = ((p / N : Nat) : Int) ∧ (p : Int).tmod (N : Int) = ((p % N : Nat) : Int) ∧ (p : Int) / (N : Int) = ((p / N : Nat) : Int) ∧ (p : Int) % (N : Int) = ((p % N : Nat) : Int) ∧
    IntKind.i64.wrap ((p / N : Nat) : Int) = ((p / N : Nat) : Int) ∧ IntKind.i64.wrap ((p % N : Nat) : Int) = ((p % N : Nat) : Int) := by
  have h1 : p / N ≤ p := Nat.div_le_self _ _
  have h2 : p % N ≤ p := Nat.mod_le _ _
  refine ⟨by rw [Int.tdiv_eq_ediv_of_nonneg (by omega)]; simp, by rw [Int.tmod_eq_emod_of_nonneg (by omega)]; simp, by simp, by simp, ?_, ?_⟩
  · generalize p / N = a at *; exact wrapK (by omega) (by omega)
  · generalize p % N = a at *; exact wrapK (by omega) (by omega)
set_option maxHeartbeats 2000000 in
theorem ref13_graph_bad (k R : Int) (va : Option Addr) (vn vc : Nat) (T : List Int) (t : Int × List (ByteArray × Int)) (w : World) (h : IntsAt w (.slice va vn vc) T) (hc : smallP k R T = some t) :
    Calls Tryz.prog 39 #[.agg #[.int .i64 k, .int .i64 R, .slice va vn vc]] w (Ret2 (fun x y w' => x = .slice none 0 0 ∧ EOwn w.heap.size w' (under sPairs 0 (some t)) y) w) := by
  have bA := Below.step (belowAlloc w (.cells #[.int .i64 k, .int .i64 R, .slice va vn vc] 24)) (belowAlloc _ (.cells #[.int .i64 0, .slice none 0 0, .slice none 0 0] 33))
  have qA : Box3 ((w.alloc (.cells #[.int .i64 k, .int .i64 R, .slice va vn vc] 24)).alloc (.cells #[.int .i64 0, .slice none 0 0, .slice none 0 0] 33)) w.heap.size (.int .i64 k) (.int .i64 R) (.slice va vn vc) := by simp [Box3, go_sem]
  have q4 : Box3 ((w.alloc (.cells #[.int .i64 k, .int .i64 R, .slice va vn vc] 24)).alloc (.cells #[.int .i64 0, .slice none 0 0, .slice none 0 0] 33)) (w.heap.size + 1) (.int .i64 0) (.slice none 0 0) (.slice none 0 0) := by simp [Box3, go_sem]
  have s0 : ((w.alloc (.cells #[.int .i64 k, .int .i64 R, .slice va vn vc] 24)).alloc (.cells #[.int .i64 0, .slice none 0 0, .slice none 0 0] 33)).heap.size = w.heap.size + 2 := by simp
  obtain ⟨WA, hWA⟩ : ∃ W : World, ((w.alloc (.cells #[.int .i64 k, .int .i64 R, .slice va vn vc] 24)).alloc (.cells #[.int .i64 0, .slice none 0 0, .slice none 0 0] 33)) = W := ⟨_, rfl⟩
  replace h := h.below bA
  rw [hWA] at h bA qA q4 s0
  replace h := Lib.hid h
  replace s0 := Lib.hid s0
  replace hWA := Lib.hid hWA
  have qA0 := qA
  obtain ⟨⟨z0, z1, z2⟩, -, -, -⟩ := qA0
  replace hc := Lib.hid hc
  go_enter Tryz.func39, Tryz.ntmps39
  go_upto_region 1 with fail
  rw [hWA.out]
  go_wp2_with fail
  refine (ref08_fault _ k R va vn vc T WA h.out).mono ?_
  rintro e w1 ⟨x, rfl, b1, he⟩
  rw [hc.out] at he
  obtain ⟨n, l⟩ := t
  have hn := smallP_num hc.out
  have he' := he
  obtain ⟨a1, n1, c1, a2, n2, c2, rfl, _, _⟩ := he'
  obtain ⟨be, ⟨⟨y0, y1, y2⟩, -, -, -⟩⟩ := err_box8 w1 (.int .i64 n) (.slice a1 n1 c1) (.slice a2 n2 c2)
  have c1e := Below.step b1 be
  have hs1 := b1.size
  rw [s0.out] at hs1
  have hn0 : (n != 0) = true := by rw [bne_iff_ne]; omega
  have heb := he.below be
  obtain ⟨W2, hW2⟩ : ∃ W2 : World, w1.alloc (.cells #[.int .i64 n, .slice a1 n1 c1, .slice a2 n2 c2] 33) = W2 := ⟨_, rfl⟩
  rw [hW2] at be c1e heb y0 y1 y2
  replace hW2 := Lib.hid hW2
  replace he := Lib.hid he
  replace heb := Lib.hid heb
  clear z0 z1 z2
  go_upto_region 2 with fail
  rw [hW2.out]
  go_wp2_with fail
  refine (err_bad _ _ _ _ _ _ _ W2).mono ?_
  rintro e w3 ⟨_, rfl, b3, rfl⟩
  rw [hn0]
  have hey := heb.out.below b3
  have c3 := Below.step c1e b3
  obtain ⟨W, hW⟩ : ∃ W : World, w3.drew = W := ⟨_, rfl⟩
  have c4 : Below WA.heap.size WA W := by rw [← hW]; exact c3.drew
  have heW : EOwn WA.heap.size W (under sPairs 0 (some (n, l))) (.agg #[.int .i64 n, .slice a1 n1 c1, .slice a2 n2 c2]) := by rw [← hW]; exact hey.drew
  have hS : W.cell? ⟨w1.heap.size, 0, none⟩ = some (.int .i64 n) ∧ W.cell? ⟨w1.heap.size, 1, none⟩ = some (.slice a1 n1 c1) ∧ W.cell? ⟨w1.heap.size, 2, none⟩ = some (.slice a2 n2 c2) := by
    rw [← hW]
    exact ⟨(b3.cell (World.block_lt_of_cell? _ _ y0)).trans y0, (b3.cell (World.block_lt_of_cell? _ _ y1)).trans y1, (b3.cell (World.block_lt_of_cell? _ _ y2)).trans y2⟩
  obtain ⟨⟨u0, u1, u2⟩, f0, f1, f2⟩ := q4.below c4
  have sW := c4.size
  rw [s0.out] at sW
  replace hW := Lib.hid hW
  replace hey := Lib.hid hey
  replace heW := Lib.hid heW
  clear y0 y1 y2
  go_upto_region 3 with fail
  refine wp_region_plan (fun w' => w'.cell? ⟨w1.heap.size, 0, none⟩ = some (.int .i64 n) ∧ w'.cell? ⟨w1.heap.size, 1, none⟩ = some (.slice a1 n1 c1) ∧ w'.cell? ⟨w1.heap.size, 2, none⟩ = some (.slice a2 n2 c2)) 2 [(0, true), (1, true)] (by kernel_rfl) (by kernel_rfl) ?_
  rw [hW.out]
  refine headY (v := ?_) (some 9) rfl rfl (Or.inl ⟨by rfl, ?_⟩) hS ?_
  rotate_left
  · rintro W' ⟨s0, s1, s2⟩; go_simp; try with_reducible rfl
  simp only [Act.put, List.setIfInBounds_toArray, List.set_cons_zero, List.set_cons_succ]
  refine headY (v := ?_) (some 2) rfl rfl (Or.inl ⟨by rfl, ?_⟩) hS ?_
  rotate_left
  · rintro W' ⟨s0, s1, s2⟩; go_simp; try with_reducible rfl
  simp only [Act.put, List.setIfInBounds_toArray, List.set_cons_zero, List.set_cons_succ]
  refine head0 ?_
  simp only [List.drop_succ_cons, List.drop_zero]
  clear hS
  go_wp2
  refine NoPanic.normal ?_
  go_wp2
  (try simp only [Exit.inBlock, Exit.then])
  refine bodyPost_ret (v := .tuple #[.slice none 0 0, .agg #[.int .i64 n, .slice a1 n1 c1, .slice a2 n2 c2]]) (by simp [results, Tryz.results39, go_sem, u0, u1, u2]) rfl ⟨_, _, rfl, below_set3 (Below.step bA c4) (by omega) _ _ _, rfl, ?_⟩
  have := s0.out
  exact (heW.out.set3 (by omega) _ _ _).mono (by omega)

set_option maxHeartbeats 2000000 in
theorem ref13_graph_ok (K R : Nat) (va : Option Addr) (vn vc : Nat) (T : List Int) (w : World) (h : IntsAt w (.slice va vn vc) T) (hr : RuleOk K R T) (hl : T.length ≤ 256) :
    Calls Tryz.prog 39 #[.agg #[.int .i64 K, .int .i64 R, .slice va vn vc]] w (Ret2 (fun x y w' => y = .agg #[.int .i64 0, .slice none 0 0, .slice none 0 0] ∧ ListsFrom w.heap.size w' x (pairG K (pw K (2 * wkR R)) (wkT K R T))) w) := by
  have bA := Below.step (belowAlloc w (.cells #[.int .i64 K, .int .i64 R, .slice va vn vc] 24)) (belowAlloc _ (.cells #[.int .i64 0, .slice none 0 0, .slice none 0 0] 33))
  have qA : Box3 ((w.alloc (.cells #[.int .i64 K, .int .i64 R, .slice va vn vc] 24)).alloc (.cells #[.int .i64 0, .slice none 0 0, .slice none 0 0] 33)) w.heap.size (.int .i64 K) (.int .i64 R) (.slice va vn vc) := by simp [Box3, go_sem]
  have q4 : Box3 ((w.alloc (.cells #[.int .i64 K, .int .i64 R, .slice va vn vc] 24)).alloc (.cells #[.int .i64 0, .slice none 0 0, .slice none 0 0] 33)) (w.heap.size + 1) (.int .i64 0) (.slice none 0 0) (.slice none 0 0) := by simp [Box3, go_sem]
  have s0 : ((w.alloc (.cells #[.int .i64 K, .int .i64 R, .slice va vn vc] 24)).alloc (.cells #[.int .i64 0, .slice none 0 0, .slice none 0 0] 33)).heap.size = w.heap.size + 2 := by simp
  obtain ⟨WA, hWA⟩ : ∃ W : World, ((w.alloc (.cells #[.int .i64 K, .int .i64 R, .slice va vn vc] 24)).alloc (.cells #[.int .i64 0, .slice none 0 0, .slice none 0 0] 33)) = W := ⟨_, rfl⟩
  replace h := h.below bA
  rw [hWA] at h bA qA q4 s0
  replace h := Lib.hid h
  replace s0 := Lib.hid s0
  replace hWA := Lib.hid hWA
  have qA0 := qA
  obtain ⟨⟨z0, z1, z2⟩, -, -, -⟩ := qA0
  have hsm : smallP K R T = none := by rw [smallP_ok hr, if_neg (by omega)]
  have hwork := fun (w' : World) (h' : IntsAt w' (.slice va vn vc) T) => ref_working K R va vn vc T w' h' hr
  have hcall := fun (a : Option Addr) (n c : Nat) (w' : World) (h' : IntsAt w' (.slice a n c) (wkT K R T)) => ref_all K (wkR R) a n c (wkT K R T) w' h' (wk_ok hr) (wk_pos R) (wk_small hr hl)
  replace hsm := Lib.hid hsm
  replace hwork := Lib.hid hwork
  replace hcall := Lib.hid hcall
  replace hr := Lib.hid hr
  go_enter Tryz.func39, Tryz.ntmps39
  go_upto_region 1 with fail
  rw [hWA.out]
  go_wp2_with fail
  refine (ref08_fault _ K R va vn vc T WA h.out).mono ?_
  rintro e w1 ⟨x, rfl, b1, he⟩
  rw [hsm.out] at he
  obtain rfl : x = .agg #[.int .i64 0, .slice none 0 0, .slice none 0 0] := he
  obtain ⟨be, ⟨⟨y0, y1, y2⟩, -, -, -⟩⟩ := err_box8 w1 (.int .i64 0) (.slice none 0 0) (.slice none 0 0)
  have c1e := Below.step b1 be
  obtain ⟨W2, hW2⟩ : ∃ W2 : World, w1.alloc (.cells #[.int .i64 0, .slice none 0 0, .slice none 0 0] 33) = W2 := ⟨_, rfl⟩
  rw [hW2] at be c1e y0 y1 y2
  replace hW2 := Lib.hid hW2
  clear z0 z1 z2
  go_upto_region 2 with fail
  rw [hW2.out]
  go_wp2_with fail
  refine (err_bad _ _ _ _ _ _ _ W2).mono ?_
  rintro e w3 ⟨_, rfl, b3, rfl⟩
  rw [show ((0 : Int) != 0) = false from rfl]
  have c3 := Below.step c1e b3
  clear y0 y1 y2
  obtain ⟨⟨z0, z1, z2⟩, -, -, -⟩ := qA.below c3
  go_wp2_with fail
  refine (hwork.out w3 (h.out.below c3)).mono ?_
  rintro e w4 ⟨_, rfl, b4, a, n, c, rfl, hT⟩
  have c4 := Below.step c3 b4
  replace hT := Lib.hid hT
  clear z0 z1 z2
  go_wp2_with fail
  refine (hcall.out a n c w4 hT.out).mono ?_
  rintro e w5 ⟨x, rfl, b5, hx⟩
  have c5 := Below.step c4 b5
  obtain ⟨⟨u0, u1, u2⟩, f0, f1, f2⟩ := q4.below c5
  have sW := c5.size
  rw [s0.out] at sW
  obtain ⟨xa, xc, rfl⟩ := hx.shape
  have sE := c4.size
  rw [s0.out] at sE
  have hx9 := (hx.set3 (b := w.heap.size + 1) (by omega) (.int .i64 0) (.slice none 0 0) (.slice none 0 0)).mono (B' := w.heap.size) (by omega)
  replace hx := Lib.hid hx
  replace hx9 := Lib.hid hx9
  go_wp2
  (try simp only [Exit.inBlock, Exit.then])
  refine bodyPost_ret (v := .tuple #[.slice xa (pairG K (pw K (2 * wkR R)) (wkT K R T)).length xc, .agg #[.int .i64 0, .slice none 0 0, .slice none 0 0]]) (by simp [results, Tryz.results39, go_sem, u0, u1, u2]) rfl ⟨_, _, rfl, below_set3 (Below.step bA c5) (by omega) _ _ _, rfl, hx9.out⟩

end Go.Proofs.YtilpckngghffoaaGreatDoor

namespace Go.Proofs.YtilpckngghffoaaGreatDoor
open Go.RowKit
set_option maxRecDepth 100000

/-- The pairs that both answer. -/
def pgA (k R : Int) (T : List Int) (xs : List Int) : Prop :=
  match smallP k R T with
  | some _ => xs = []
  | none => ∃ L, LiveList (pw k.toNat (2 * wkR R.toNat) * pw k.toNat (2 * wkR R.toNat)) (adjOf (pairG k.toNat (pw k.toNat (2 * wkR R.toNat)) (wkT k.toNat R.toNat T))) L ∧ xs = castI (L.filter fun p => !decide (Diag (pw k.toNat (2 * wkR R.toNat)) p))
theorem pgA.unique {k R : Int} {T xs ys : List Int} (h : pgA k R T xs) (h' : pgA k R T ys) : xs = ys := by
  unfold pgA at h h'
  cases hc : smallP k R T with
  | some t =>
    rw [hc] at h h'
    exact h.trans h'.symm
  | none =>
    rw [hc] at h h'
    obtain ⟨L, h1, rfl⟩ := h
    obtain ⟨M, h2, rfl⟩ := h'
    rw [h1.unique h2]
end Go.Proofs.YtilpckngghffoaaGreatDoor

namespace Go.Proofs.YtilpckngghffoaaGreatDoor

/-- One arrow. -/
def stepM (N v : Nat) (s : (Nat → Int) × List Nat) (t : Nat) : (Nat → Int) × List Nat := if ¬ Diag N t ∧ s.1 t < 0 then (updN s.1 t (v : Int), s.2 ++ [t]) else s
def rowM (N : Nat) (adj : Nat → List Nat) (v : Nat) (s : (Nat → Int) × List Nat) (k : Nat) : (Nat → Int) × List Nat := ((adj v).take k).foldl (stepM N v) s
/-- The search behind its first j vertices. -/
def stM (N : Nat) (adj : Nat → List Nat) : Nat → (Nat → Int) × List Nat
  | 0 => (fun _ => -1, diags N)
  | j + 1 => match (stM N adj j).2[j]? with
    | some v => rowM N adj v (stM N adj j) (adj v).length
    | none => stM N adj j
theorem rowM_succ {N : Nat} {adj : Nat → List Nat} {v k t : Nat} {s : (Nat → Int) × List Nat} (h : (adj v)[k]? = some t) : rowM N adj v s (k + 1) = stepM N v (rowM N adj v s k) t := by
  unfold rowM
  rw [List.take_add_one, h, List.foldl_append]; rfl
theorem stM_succ {N : Nat} {adj : Nat → List Nat} {j v : Nat} (h : (stM N adj j).2[j]? = some v) : stM N adj (j + 1) = rowM N adj v (stM N adj j) (adj v).length := by
  rw [stM, h]
def NoHit (N : Nat) (adj : Nat → List Nat) (j : Nat) : Prop := ∀ v, (stM N adj j).2[j]? = some v → ∀ t ∈ adj v, Diag N t → Diag N v
/-- What is met. -/
def MeetIs (N : Nat) (adj : Nat → List Nat) (ws : List Nat) : Prop :=
  ∃ j v k t c, (stM N adj j).2[j]? = some v ∧ (adj v)[k]? = some t ∧ Diag N t ∧ ¬ Diag N v ∧ BackWay N adj (rowM N adj v (stM N adj j) k).1 v c ∧ ws = c.reverse ++ [t] ∧ (∀ i, i < j → NoHit N adj i) ∧ ∀ i x, i < k → (adj v)[i]? = some x → Diag N x → Diag N v
theorem BackWay.unique {N : Nat} {adj : Nat → List Nat} {came : Nat → Int} {x : Nat} {c : List Nat} (h : BackWay N adj came x c) : ∀ {d : List Nat}, BackWay N adj came x d → c = d := by
  induction h with
  | stop x h hd =>
    intro d k
    cases k with
    | stop => rfl
    | step _ p c' h' hd' _ _ _ => exact absurd hd hd'
  | step x p c hcm hnd ha hp hc ih =>
    intro d k
    cases k with
    | stop _ _ hd => exact absurd hd hnd
    | step _ p' c' h' _ _ _ hc' =>
      rw [hcm] at h'
      obtain rfl : p = p' := by omega
      rw [ih hc']
theorem MeetIs.unique {N : Nat} {adj : Nat → List Nat} {ws us : List Nat} (h : MeetIs N adj ws) (k : MeetIs N adj us) : ws = us := by
  obtain ⟨j, v, m, t, c, a1, a2, a3, a4, a5, rfl, a7, a8⟩ := h
  obtain ⟨j', v', m', t', c', b1, b2, b3, b4, b5, rfl, b7, b8⟩ := k
  have ej : j = j' := by
    rcases Nat.lt_trichotomy j j' with e | e | e
    · exact absurd (b7 j e v a1 t (List.mem_of_getElem? a2) a3) a4
    · exact e
    · exact absurd (a7 j' e v' b1 t' (List.mem_of_getElem? b2) b3) b4
  subst ej
  rw [a1] at b1
  obtain rfl : v = v' := Option.some.inj b1
  have em : m = m' := by
    rcases Nat.lt_trichotomy m m' with e | e | e
    · exact absurd (b8 m t e a2 a3) a4
    · exact e
    · exact absurd (a8 m' t' e b2 b3) b4
  subst em
  rw [a2] at b2
  obtain rfl : t = t' := Option.some.inj b2
  rw [a5.unique b5]
end Go.Proofs.YtilpckngghffoaaGreatDoor

namespace Go.Proofs.YtilpckngghffoaaGreatDoor
open Go.RowKit
set_option maxRecDepth 100000

end Go.Proofs.YtilpckngghffoaaGreatDoor

namespace Go.Proofs.YtilpckngghffoaaGreatDoor
open Go.RowKit
set_option maxRecDepth 100000

end Go.Proofs.YtilpckngghffoaaGreatDoor

namespace Go.Proofs.YtilpckngghffoaaGreatDoor
open Go.RowKit
set_option maxRecDepth 100000

/-- The first place of x. -/
def invP (p : List Int) (x : Int) : Int := idxOf (fun y => x == y) p

theorem index_any (v : Value) (xs : List Int) (x : Int) (w : World) (h : IntsAt w v xs) :
    Calls Tryz.prog 82 #[v, .int .i64 x] w fun e w' => e = .returned (.int .i64 (invP xs x)) ∧ w = w' := by
  have hlen := h.len
  have hm := h.len_le
  replace h := Lib.hid h
  go_enter Tryz.func82, Tryz.ntmps82
  go_wp2
  go_loop [8] (fun i => ∃ j : Nat, j ≤ xs.length ∧ i = .int .i64 j ∧ ∀ t (ht : t < xs.length), t < j → (x == xs[t]) = false) (fun i => xs.length - (intOf i).toNat)
  case atStart => exact ⟨0, by omega, rfl, fun t ht h => by omega⟩
  case round =>
    obtain ⟨j, hj, rfl, hne⟩ := hrel
    by_cases hjl : j < xs.length
    · have i1 := h.out.idx j hjl
      have c1 := h.out.cell j hjl
      by_cases he : (x == xs[j]) = true
      · have hr : Hid (invP xs x = j) := Lib.hid (idxOf_at j hjl he (fun t ht htj => hne t ht htj))
        have he' : x = xs[j] := by simpa using he
        rw [← he'] at c1
        clear he he'
        replace hne := Lib.hid hne
        go_wp2
        go_ret
        exact ⟨ret_int hr.out.symm, rfl⟩
      · have hn : Hid (∀ t (ht : t < xs.length), t < j + 1 → (x == xs[t]) = false) := Lib.hid (fun t ht htj => by
          by_cases e : t = j
          · subst e; simpa using he
          · exact hne t ht (by omega))
        have he' : (x == xs[j]) = false := by simpa using he
        obtain ⟨y, hy⟩ : ∃ y, y = xs[j] := ⟨_, rfl⟩
        rw [← hy] at c1 he'
        clear he hne hy
        go_wp2
        go_round
        case rel => exact ⟨j + 1, by omega, by go_num, hn.out⟩
        case measure => simp [intOf]; omega
    · have hr : Hid (invP xs x = -1) := Lib.hid (idxOf_neg (fun y hy => by
        obtain ⟨t, ht, rfl⟩ := List.mem_iff_getElem.1 hy
        exact hne t ht (by omega)))
      replace hne := Lib.hid hne
      go_wp2
      go_ret
      exact ⟨ret_int hr.out.symm, rfl⟩

end Go.Proofs.YtilpckngghffoaaGreatDoor

namespace Go.Proofs.YtilpckngghffoaaGreatDoor

theorem invP_at {T : List Int} {j : Nat} (hj : j < T.length) : ∃ i : Nat, invP T (T.getD j 0) = i ∧ i ≤ j ∧ T.getD i 0 = T.getD j 0 := by
  have ej : T.getD j 0 = T[j] := by simp [List.getD, hj]
  rw [ej]
  rcases idxOf_cases (fun y => T[j] == y) T with ⟨_, hn⟩ | ⟨k, hk, hkl, hp, hm⟩
  · have := hn _ (List.getElem_mem hj); simp at this
  · refine ⟨k, hk, ?_, ?_⟩
    · apply Classical.byContradiction
      intro e
      have := hm j hj (by omega)
      simp at this
    · simp only [List.getD, List.getElem?_eq_getElem hkl, Option.getD_some]
      exact (show T[j] = T[k] by simpa using hp).symm
/-- The first symbol whose image is that of a lower one. -/
def SingleIs (T : List Int) (x y : Nat) : Prop := y < T.length ∧ invP T (T.getD y 0) = x ∧ x < y ∧ ∀ i, i < y → (i : Int) ≤ invP T (T.getD i 0)
theorem SingleIs.unique {T : List Int} {x y u v : Nat} (h : SingleIs T x y) (k : SingleIs T u v) : x = u ∧ y = v := by
  obtain ⟨h1, h2, h3, h4⟩ := h
  obtain ⟨k1, k2, k3, k4⟩ := k
  have e : y = v := by
    rcases Nat.lt_trichotomy y v with e | e | e
    · have := k4 y e; rw [h2] at this; omega
    · exact e
    · have := h4 v e; rw [k2] at this; omega
  subst e
  rw [h2] at k2
  exact ⟨by omega, rfl⟩
theorem img0_get {K : Nat} {T a : List Int} {i : Nat} (hi : i < a.length) : (imgP K 0 T a).getD i 0 = T.getD (a.getD i 0).toNat 0 := by
  rw [imgP_getD K 0 T a i (by omega)]
  have e : (a.drop i).take (2 * 0 + 1) = [a.getD i 0] := by
    rw [List.drop_eq_getElem_cons hi, show 2 * 0 + 1 = 0 + 1 from rfl, List.take_succ_cons, List.take_zero]
    simp [List.getD, hi]
  rw [e]
  simp [numW]
theorem SingleIs.twins {K : Nat} {T : List Int} {x y : Nat} (hK : T.length = K) (h : SingleIs T x y) : IsTwins K 0 T [(x : Int)] [(y : Int)] := by
  obtain ⟨h1, h2, h3, h4⟩ := h
  have sx : Syms K [(x : Int)] := fun z hz => by simp at hz; subst hz; omega
  have sy : Syms K [(y : Int)] := fun z hz => by simp at hz; subst hz; omega
  refine ⟨sx, sy, rfl, by simp; omega, by simp, by simp, by simp, ?_⟩
  have he : T.getD x 0 = T.getD y 0 := by
    obtain ⟨i, i1, i2, i3⟩ := invP_at h1
    rw [h2] at i1
    obtain rfl : x = i := by omega
    exact i3
  refine List.ext_getElem (by rw [imgP_length, imgP_length]; rfl) fun i h1 h2 => ?_
  rw [imgP_length] at h1
  have hi : i = 0 := by simp at h1; omega
  subst hi
  have g1 := img0_get (K := K) (T := T) (a := [(x : Int)]) (i := 0) (by simp)
  have g2 := img0_get (K := K) (T := T) (a := [(y : Int)]) (i := 0) (by simp)
  simp [List.getD] at g1 g2 he
  have l1 : 0 < (imgP K 0 T [(x : Int)]).length := by rw [imgP_length]; simp
  have l2 : 0 < (imgP K 0 T [(y : Int)]).length := by rw [imgP_length]; simp
  simp [List.getElem?_eq_getElem l1] at g1
  simp [List.getElem?_eq_getElem l2] at g2
  rw [g1, g2]
  exact he
theorem twins_pos {K R : Nat} {T a b : List Int} (h : IsTwins K R T a b) : 1 ≤ a.length := by
  have hl := h.len
  have hn := h.ne
  rcases a with _ | ⟨x, a⟩
  · cases b with
    | nil => exact absurd rfl hn
    | cons _ _ => simp at hl
  · simp
theorem no_single {K : Nat} {T : List Int} (hK : T.length = K) (h : ∀ i, i < T.length → (i : Int) ≤ invP T (T.getD i 0)) (a b : List Int) : ¬ IsTwins K 0 T a b := by
  intro t
  apply t.ne
  have hinj : ∀ i j, i < T.length → j < T.length → T.getD i 0 = T.getD j 0 → i ≤ j := fun i j hi hj e => by
    obtain ⟨p, p1, p2, _⟩ := invP_at hj
    have := h i hi
    rw [e, p1] at this
    omega
  refine List.ext_getElem t.len fun i h1 h2 => ?_
  have e := congrArg (fun l => l.getD i 0) t.img
  simp only [img0_get h1, img0_get h2] at e
  simp only [List.getD, List.getElem?_eq_getElem h1, List.getElem?_eq_getElem h2, Option.getD_some] at e
  have s1 := t.sa _ (List.getElem_mem h1)
  have s2 := t.sb _ (List.getElem_mem h2)
  have l1 := hinj a[i].toNat b[i].toNat (by omega) (by omega) e
  have l2 := hinj b[i].toNat a[i].toNat (by omega) (by omega) e.symm
  omega
/-- Twins are longer than both their ends. -/
theorem IsTwins.long {K R : Nat} {T a b : List Int} (h : IsTwins K R T a b) : 4 * R + 1 ≤ a.length := by
  apply Classical.byContradiction
  intro hl
  apply h.ne
  have hlen := h.len
  have hlow := h.low
  refine List.ext_getElem? fun i => ?_
  by_cases hi : i < 2 * R
  · have := congrArg (·[i]?) h.front
    simpa [List.getElem?_take, hi] using this
  · by_cases hi2 : i < a.length
    · have := congrArg (·[i - (a.length - 2 * R)]?) h.back
      simp only [List.getElem?_drop] at this
      rw [show a.length - 2 * R + (i - (a.length - 2 * R)) = i by omega, show b.length - 2 * R + (i - (a.length - 2 * R)) = i by omega] at this
      exact this
    · rw [List.getElem?_eq_none (by omega), List.getElem?_eq_none (by omega)]
/-- What twins.Finite tells, determined by the rule. -/
def FinIs (K R : Nat) (T a b : List Int) : Prop :=
  (R = 0 ∧ ∃ x y, SingleIs T x y ∧ a = [(x : Int)] ∧ b = [(y : Int)]) ∨
  (R ≠ 0 ∧ ∃ ws, MeetIs (pw K (2 * R)) (pairL K (pw K (2 * R)) T) ws ∧ a = alongW K (2 * R) (· / pw K (2 * R)) ws ∧ b = alongW K (2 * R) (· % pw K (2 * R)) ws)
theorem FinIs.unique {K R : Nat} {T a b c d : List Int} (h : FinIs K R T a b) (k : FinIs K R T c d) : a = c ∧ b = d := by
  rcases h with ⟨h0, x, y, h1, rfl, rfl⟩ | ⟨h0, ws, h1, rfl, rfl⟩ <;> rcases k with ⟨k0, u, v, k1, rfl, rfl⟩ | ⟨k0, us, k1, rfl, rfl⟩
  · obtain ⟨rfl, rfl⟩ := h1.unique k1; exact ⟨rfl, rfl⟩
  · exact absurd h0 k0
  · exact absurd k0 h0
  · obtain rfl := h1.unique k1; exact ⟨rfl, rfl⟩
end Go.Proofs.YtilpckngghffoaaGreatDoor

namespace Go.Proofs.YtilpckngghffoaaGreatDoor

theorem zero_twins {K : Nat} {T : List Int} {x y : Nat} (hK : T.length = K) (h1 : x < T.length) (h3 : y < x) (he : T.getD x 0 = T.getD y 0) : IsTwins K 0 T [(x : Int)] [(y : Int)] := by
  have sx : Syms K [(x : Int)] := fun z hz => by simp at hz; subst hz; omega
  have sy : Syms K [(y : Int)] := fun z hz => by simp at hz; subst hz; omega
  refine ⟨sx, sy, rfl, by simp; omega, by simp, by simp, by simp, ?_⟩
  refine List.ext_getElem (by rw [imgP_length, imgP_length]; rfl) fun i h1 h2 => ?_
  rw [imgP_length] at h1
  have hi : i = 0 := by simp at h1; omega
  subst hi
  have g1 := img0_get (K := K) (T := T) (a := [(x : Int)]) (i := 0) (by simp)
  have g2 := img0_get (K := K) (T := T) (a := [(y : Int)]) (i := 0) (by simp)
  simp [List.getD] at g1 g2 he
  have l1 : 0 < (imgP K 0 T [(x : Int)]).length := by rw [imgP_length]; simp
  have l2 : 0 < (imgP K 0 T [(y : Int)]).length := by rw [imgP_length]; simp
  simp [List.getElem?_eq_getElem l1] at g1
  simp [List.getElem?_eq_getElem l2] at g2
  rw [g1, g2]
  exact he
theorem zero_twinLen {K : Nat} {T : List Int} {x y : Nat} (hK : T.length = K) (h1 : x < T.length) (h3 : y < x) (he : T.getD x 0 = T.getD y 0) : TwinLen K 0 T 1 :=
  ⟨⟨_, _, zero_twins hK h1 h3 he, rfl⟩, fun _ _ hcd => twins_pos hcd⟩
theorem zero_none {K : Nat} {T : List Int} (hK : T.length = K) (h : ∀ i j, j < i → i < T.length → T.getD i 0 ≠ T.getD j 0) (a b : List Int) : ¬ IsTwins K 0 T a b := by
  refine no_single hK (fun i hi => ?_) a b
  obtain ⟨p, p1, p2, p3⟩ := invP_at hi
  rw [p1]
  rcases Nat.lt_or_ge p i with hp | hp
  · exact absurd p3.symm (h i p hp hi)
  · omega
end Go.Proofs.YtilpckngghffoaaGreatDoor

namespace Go.Proofs.YtilpckngghffoaaGreatDoor
open Go.RowKit
set_option maxRecDepth 100000

/-- No vertex of G. -/
def outG (G : List (List Int)) (a : Int) : Prop := a < 0 ∨ (G.length : Int) ≤ a
instance (G : List (List Int)) (a : Int) : Decidable (outG G a) := by unfold outG; infer_instance
theorem FirstPost.step {w1 w2 w3 : World} {adj : Nat → List Nat} {a b : Nat} {x : Value} (h : FirstPost w2 adj a b x w3) (hs : w1.heap.size ≤ w2.heap.size) : FirstPost w1 adj a b x w3 := by
  rcases h with ⟨u, h1, h2⟩ | h
  · exact .inl ⟨u, h1, h2.mono hs⟩
  · exact .inr h
theorem FirstPost.shape {w w' : World} {adj : Nat → List Nat} {a b : Nat} {x : Value} (h : FirstPost w adj a b x w') : ∃ p n c, x = .slice p n c := by
  rcases h with ⟨u, _, h2⟩ | ⟨_, h⟩
  · exact h2.at.shape
  · exact ⟨_, _, _, h⟩

end Go.Proofs.YtilpckngghffoaaGreatDoor

namespace Go.Proofs.YtilpckngghffoaaGreatDoor
open Go.RowKit
set_option maxRecDepth 100000

/-- One's own slice, cut at its end. -/
theorem OwnI.cut {B : Nat} {w : World} {g m c : Nat} {xs : List Int} (h : OwnI B w (.slice (some ⟨g, 0, none⟩) (m + 1) c) xs) (hl : xs.length = m + 1) : OwnI B w (.slice (some ⟨g, 0, none⟩) m c) (xs.take m) := by
  rcases h.2 with ⟨e, _⟩ | ⟨g', cap', cur, e, hB, hg, hn, hm, hs, ht⟩
  · cases e
  · injection e with e1 e2 e3
    injection e1 with e1
    injection e1 with e1
    subst e1; subst e3
    have hml : (xs.take m).length = m := by simp; omega
    refine ⟨by simp, .inr ⟨g, c, cur, by rw [hml], hB, hg, by rw [hml]; omega, hm, hs, ?_⟩⟩
    rw [hml]
    rw [hl] at ht
    have := congrArg (List.take m) ht
    rw [List.take_take] at this
    simp only [Nat.mul_one] at this ⊢
    rw [Nat.min_eq_left (by omega)] at this
    rw [this, List.map_take]

end Go.Proofs.YtilpckngghffoaaGreatDoor

namespace Go.Proofs.YtilpckngghffoaaGreatDoor
open Go.RowKit
set_option maxRecDepth 100000

end Go.Proofs.YtilpckngghffoaaGreatDoor

namespace Go.Proofs.YtilpckngghffoaaGreatDoor
open Go.RowKit
set_option maxRecDepth 100000

theorem lit_ints (w : World) (xs : List Int) (cs : Array Value) (hc : cs.toList = xs.map (Value.int .i64)) (hl : xs.length ≤ 10) : IntsAt (w.alloc (.cells cs 3)) (.slice (some ⟨w.heap.size, 0, none⟩) xs.length xs.length) xs :=
  (OwnI.lit w.heap.size w (Nat.le_refl _) xs (by unfold maxLen; omega) cs hc xs.length rfl).at

end Go.Proofs.YtilpckngghffoaaGreatDoor

namespace Go.Proofs.YtilpckngghffoaaGreatDoor
open Go.RowKit
set_option maxRecDepth 100000

/-- Vertices, each led to by an arrow from the one ahead. -/
def ChainOk (G : List (List Int)) (u : List Nat) : Prop := ∀ i x, u[i]? = some x → x < G.length ∧ ∀ j y, i = j + 1 → u[j]? = some y → (x : Int) ∈ G.getD y []
theorem ChainOk.dropLast {G : List (List Int)} {u : List Nat} (h : ChainOk G u) : ChainOk G u.dropLast := by
  have up : ∀ i x, u.dropLast[i]? = some x → u[i]? = some x := fun i x hx => by
    rw [List.getElem?_dropLast] at hx
    split at hx
    · exact hx
    · cases hx
  intro i x hx
  exact ⟨(h i x (up i x hx)).1, fun j y e hy => (h i x (up i x hx)).2 j y e (up j y hy)⟩
theorem ChainOk.nil (G : List (List Int)) : ChainOk G [] := fun i x hx => by simp at hx

end Go.Proofs.YtilpckngghffoaaGreatDoor

namespace Go.Proofs.YtilpckngghffoaaGreatDoor
open Go.RowKit
set_option maxRecDepth 100000

/-- Quotient and rest of small numbers, as the machine reckons them. -/
theorem dm (p N : Nat) (hp : p ≤ 100000000) : (p : Int).tdiv (N : Int) = ((p / N : Nat) : Int) ∧ (p : Int).tmod (N : Int) = ((p % N : Nat) : Int) ∧ (p : Int) / (N : Int) = ((p / N : Nat) : Int) ∧ (p : Int) % (N : Int) = ((p % N : Nat) : Int) ∧
    IntKind.i64.wrap ((p / N : Nat) : Int) = ((p / N : Nat) : Int) ∧ IntKind.i64.wrap ((p % N : Nat) : Int) = ((p % N : Nat) : Int) := by
  have h1 : p / N ≤ p := Nat.div_le_self _ _
  have h2 : p % N ≤ p := Nat.mod_le _ _
  refine ⟨by rw [Int.tdiv_eq_ediv_of_nonneg (by omega)]; simp, by rw [Int.tmod_eq_emod_of_nonneg (by omega)]; simp, by simp, by simp, ?_, ?_⟩
  · generalize p / N = a at *; exact wrapK (by omega) (by omega)
  · generalize p % N = a at *; exact wrapK (by omega) (by omega)

theorem words1_any (x : Int) (b N : Nat) (w : World) (hN : N ≤ 10000) (hb : w.cell? ⟨b, 0, none⟩ = some (.int .i64 N)) :
    Calls Tryz.prog 62 #[.int .i64 x, .pointer (some ⟨b, 0, none⟩)] w fun e w' => e = .returned (.bool (odd1 ((N * N : Nat) : Int) x)) ∧ w = w' := by
  have hM : (N : Int) * (N : Int) = ((N * N : Nat) : Int) := by simp
  have hM2 := Nat.mul_le_mul hN hN
  by_cases h : x < 0
  · have e : odd1 ((N * N : Nat) : Int) x = true := by simp [odd1, h]
    rw [e]
    clear hM hM2
    go_enter Tryz.func62, Tryz.ntmps62
    go_wp2
    go_ret
    exact ⟨rfl, rfl⟩
  · have e : odd1 ((N * N : Nat) : Int) x = decide (((N * N : Nat) : Int) ≤ x) := by simp [odd1, h]
    rw [e]
    generalize N * N = M at *
    clear e
    go_enter Tryz.func62, Tryz.ntmps62
    go_wp2
    go_ret
    exact ⟨ret_bool (by simp), rfl⟩
theorem eg_words1 (args : Array Value) (w : World) : (callFunc 62 args).run Tryz.prog w = .ok (.enter 62 args) w := by kernel_rfl

set_option maxHeartbeats 1000000 in
theorem words2_any (K R x q : Nat) (w : World) (hk1 : 1 ≤ K) (hk4 : K ≤ 4) (hR : R ≤ 3) (hx : x ≤ 100000) (q0 : w.cell? ⟨q, 0, none⟩ = some (.int .i64 K)) (q1 : w.cell? ⟨q, 1, none⟩ = some (.int .i64 R)) :
    Calls Tryz.prog 64 #[.int .i64 x, .pointer (some ⟨q, 0, none⟩)] w (Ret1 (fun y w' => OwnI w.heap.size w' y (digs K (2 * R) x)) w) := by
  obtain ⟨ov, w1, mk, ho, hb1⟩ := run_makeI (2 * (R : Int)) (2 * R) w (by omega) (by omega)
  have lo := ho.at.len
  rw [List.length_replicate] at lo
  obtain ⟨oa, on, oc, rfl⟩ := ho.at.shape
  have hql := World.block_lt_of_cell? _ _ q0
  have hK0 : ((K : Int) == 0) = false := by rw [beq_eq_false_iff_ne]; omega
  have hK1 : ¬ (K : Int) = 0 := by omega
  have hK2 : (0 : Int) < K := by omega
  have hK3 : ¬ K = 0 := by omega
  obtain ⟨N, hN⟩ : ∃ N, 2 * R = N := ⟨_, rfl⟩
  have hN6 : N ≤ 6 := by omega
  rw [hN] at ho lo ⊢
  have hNi : 2 * (R : Int) = (N : Int) := by omega
  have hNw : IntKind.i64.wrap (N : Int) = N := wrapK (by omega) (by omega)
  rw [hNi] at mk
  replace ho := Lib.hid ho
  replace hN := Lib.hid hN
  go_enter Tryz.func64, Tryz.ntmps64
  go_wp2_with fail
  clear mk
  go_loopw [0, 12] (fun xv jv wr => ∃ j : Nat, j ≤ N ∧ jv = .int .i64 j ∧ xv = .int .i64 (x / pw K j : Nat) ∧ OwnI w.heap.size wr (.slice oa on oc) ((List.replicate N (0 : Int)).take (N - j) ++ (digs K N x).drop (N - j)) ∧ Below w.heap.size w wr) (fun _ jv _ => N - (intOf jv).toNat)
  case atStart => exact ⟨0, by omega, rfl, by simp [pw], by rw [Nat.sub_zero, List.drop_of_length_le (by rw [digs_length]; exact Nat.le_refl _), List.append_nil, List.take_of_length_le (by simp)]; exact ho.out, hb1⟩
  case round =>
    obtain ⟨j, hj, rfl, rfl, hO, hbI⟩ := hrel
    obtain ⟨wi, rfl⟩ : ∃ wi : World, wi = wr := ⟨_, rfl⟩
    by_cases hjl : j < N
    · have hXl : ((List.replicate N (0 : Int)).take (N - j) ++ (digs K N x).drop (N - j)).length = N := by simp only [List.length_append, List.length_take, List.length_replicate, List.length_drop, digs_length]; omega
      have i1 : ∀ w', (Instr.indexAt 22 (.slice oa on oc) (.int .i64 ((N : Int) - 1 - (j : Int)))).run Tryz.prog w' = .ok (.pointer (some (valAt (.slice oa on oc) (N - 1 - j)))) w' := by
        intro w'
        have := hO.at.idxI ((N : Int) - 1 - (j : Int)) (by omega) (by rw [hXl]; omega) w'
        rwa [show ((N : Int) - 1 - (j : Int)).toNat = N - 1 - j by omega] at this
      have c1 := hO.at.cellD (N - 1 - j) (by rw [hXl]; omega)
      have f1 := hO.frz (N - 1 - j) (by rw [hXl]; omega)
      have hS := hO.set (N - 1 - j) (by rw [hXl]; omega) ((x / pw K j % K : Nat) : Int)
      have hbS := hO.setBelow hbI (N - 1 - j) (by rw [hXl]; omega) (.int .i64 ((x / pw K j % K : Nat) : Int))
      rw [digs_fill K N x j hjl _ (by simp)] at hS
      have hqd : x / pw K j / K = x / pw K (j + 1) := by rw [Nat.div_div_eq_div_mul, ← pw_succ]
      have hql : x / pw K j ≤ 100000 := Nat.le_trans (Nat.div_le_self _ _) hx
      have y0 := (hbI.cell (p := ⟨q, 0, none⟩) (World.block_lt_of_cell? _ _ q0)).trans q0
      have hbe := hO.blkB (N - 1 - j) (by rw [hXl]; omega)
      generalize ((List.replicate N (0 : Int)).take (N - j) ++ (digs K N x).drop (N - j)).getD (N - 1 - j) 0 = y at c1
      have y0' : (wi.setCell (valAt (.slice oa on oc) (N - 1 - j)) (.int .i64 ((x / pw K j % K : Nat) : Int))).cell? ⟨q, 0, none⟩ = some (.int .i64 K) := (hbS.cell (p := ⟨q, 0, none⟩) (World.block_lt_of_cell? _ _ q0)).trans q0
      have hlen' := lo
      generalize valAt (.slice oa on oc) (N - 1 - j) = ya at *
      generalize x / pw K j = z at *
      obtain ⟨a1, a2, a3, a4, a5, a6⟩ := dm z K (by omega)
      obtain ⟨d, hd⟩ : ∃ d, z % K = d := ⟨_, rfl⟩
      obtain ⟨e, he⟩ : ∃ e, z / K = e := ⟨_, rfl⟩
      rw [hd] at a2 a4 a6 hS hbS y0'
      rw [he] at a1 a3 a5 hqd
      replace hS := Lib.hid hS
      replace hbS := Lib.hid hbS
      replace hqd := Lib.hid hqd
      replace hO := Lib.hid hO
      replace hd := Lib.hid hd
      replace he := Lib.hid he
      clear hXl
      go_wp2
      go_roundw
      case rel => exact ⟨j + 1, by omega, by go_num, by rw [← hqd.out], hS.out, hbS.out⟩
      case measure => simp [intOf]; omega
    · obtain rfl : j = N := by omega
      rw [Nat.sub_self, List.take_zero, List.drop_zero, List.nil_append] at hO
      replace hO := Lib.hid hO
      go_wp2
      go_ret
      exact ⟨_, rfl, hbI, hO.out⟩
end Go.Proofs.YtilpckngghffoaaGreatDoor
