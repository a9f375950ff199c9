/-
  Walk: pairs.arrows.
  Walks: slices.Reverse (its contract off the shelf), word.Back.
  Plain mathematics: an ascending list without its doubles.
  Walks: slices.Compact (its contract off the shelf) at a list of one's own.
  Walks: slices.Values, its iterator, slices.AppendSeq, slices.Collect, slices.Sorted over it (after the kit's worked examples GgSlicesIterAtTheDump and GgPosAtTheDump).
  Walks: slices.Sort (its contract off the shelf), slices.Sorted over slices.Values.
  Walk: slices.Repeat of a list of one number.
  Walk: graph.first: breadth first.
  Walk: pairs.Graph.
  Plain mathematics: how far it is; the first of the shortest ways by going down; the first of the shortest loops.
  Plain mathematics: what stays where again and again vertices are taken away to which, or from which, no arrow leads.
  Walk: edenref12.turned: the arrows the other way round, each as often.
  Walk: edenref13.All: the graph of pairs of a working rule.
  Walk: edenref12.Check.
  Walk: edenref12.far: how far it is from a vertex.
  Walk: graph's search begins a vertex.
-/
import Derived.Test.YtilpckngghffoaaGreatDoorMIk3
import Derived.Ground.NamesProg
import Derived.Shelf.Slices.Cells
import Derived.RangeFuncBox
import Derived.RangeFuncLeaves
import Derived.Shelf.Abstract
import Derived.OwnWalkIn
import Derived.TacticsInMore
import Derived.LoopNIn
import Derived.LoopIn
import Derived.Maps.AppendAt
import Derived.Ground.SlgmProg
import Derived.Shelf.SlGeneric
import Derived.Shelf.SortM.Plain
import Derived.Shelf.SortM.SortNone
import Derived.Lib.SlKeysI
import Derived.Deep.DeepCutAuto
import Derived.Shelf.Bits.Mul64
import Derived.Deep.LoopGhost
namespace Go.Proofs.YtilpckngghffoaaGreatDoor
open Go.RowKit
set_option maxRecDepth 100000

/-- A node's first arrows: where to, and what is told. -/
def arrL (K N : Nat) (T : List Int) (u n : Nat) : List (Int × Int) := (List.range n).map fun s => ((toN K N u s : Int), labN K T u s)
theorem arrL_len (K N : Nat) (T : List Int) (u n : Nat) : (arrL K N T u n).length = n := by simp [arrL]
theorem arrL_succ (K N : Nat) (T : List Int) (u n : Nat) : arrL K N T u (n + 1) = arrL K N T u n ++ [((toN K N u n : Int), labN K T u n)] := by simp [arrL, List.range_succ]
/-- While they are written: all of the first k nodes, and the next node's first j. -/
def arrTo (K N : Nat) (T : List Int) (k j : Nat) (u : Nat) : List (Int × Int) := if u < k then arrL K N T u K else if u = k then arrL K N T u j else []
theorem arrTo_zero (K N : Nat) (T : List Int) : arrTo K N T 0 0 = fun _ => [] := by
  funext u; unfold arrTo
  rw [if_neg (by omega)]
  split
  · simp [arrL]
  · rfl
theorem arrTo_next (K N : Nat) (T : List Int) (k : Nat) : arrTo K N T k K = arrTo K N T (k + 1) 0 := by
  funext u; unfold arrTo
  by_cases h : u < k
  · rw [if_pos h, if_pos (by omega)]
  · rw [if_neg h]
    by_cases e : u = k
    · rw [if_pos e, if_pos (by omega)]
    · rw [if_neg e, if_neg (by omega)]
      split
      · simp [arrL]
      · rfl
theorem arrTo_at (K N : Nat) (T : List Int) (k j : Nat) : arrTo K N T k j k = arrL K N T k j := by unfold arrTo; rw [if_neg (by omega), if_pos rfl]
theorem arrTo_step (K N : Nat) (T : List Int) (k j : Nat) : updN (arrTo K N T k j) k (arrL K N T k (j + 1)) = arrTo K N T k (j + 1) := by
  funext u
  by_cases e : u = k
  · subst e; rw [updN_same, arrTo_at]
  · rw [updN_other _ _ _ e]; unfold arrTo
    by_cases h : u < k
    · rw [if_pos h, if_pos h]
    · rw [if_neg h, if_neg h, if_neg e, if_neg e]

theorem twoArrow : TwoInts 119 121 := twoInts_mk (by kernel_rfl) (by kernel_rfl)
theorem oneArrows : OneCell 117 119 (.slice none 0 0) 24 := ⟨by kernel_rfl, by kernel_rfl, rfl, by decide, fun _ => by kernel_rfl⟩
/-- What the names name: the outer row, the nodes' arrows. -/
structure AN (f : Names) (ov : Value) (vals : List Value) (n : Nat) (F : Nat → List (Int × Int)) : Prop where
  outer : f (1, 0) = some (rowV 119 ov vals)
  len : vals.length = n
  rows : ∀ u, u < n → f (2, u) = some ⟨121, 2, vAt vals u, (F u).length, flat2 (F u)⟩
section
variable {B : Nat} {w : World} {f : Names} {ov : Value} {vals : List Value} {n : Nat} {F : Nat → List (Int × Int)}
def nils2 (n : Nat) : Names := fun i => if i.1 = 2 ∧ i.2 < n then some ⟨121, 2, .slice none 0 0, 0, []⟩ else none
theorem rows_nils2 (B : Nat) (w : World) (n : Nat) : Rows B w (nils2 n) := by
  refine ⟨fun i r hi => ?_, fun i j r s hi _ _ => ?_⟩
  · unfold nils2 at hi
    split at hi
    · injection hi with hi; subst hi; exact World.ownsRow_nil w B _ 2
    · cases hi
  · left
    unfold nils2 at hi
    split at hi
    · injection hi with hi; subst hi; rfl
    · cases hi
theorem AN.made {w1 : World} (n : Nat) (hb : Below w.heap.size w w1) (hB : B ≤ w.heap.size) (ho : OwnV 119 w.heap.size w1 ov (List.replicate n (.slice none 0 0))) :
    ∃ f, Rows B w1 f ∧ AN f ov (List.replicate n (.slice none 0 0)) n (fun _ => []) := by
  refine ⟨_, (rows_nils2 B w n).add (i := (1, 0)) (r' := rowV 119 ov (List.replicate n (.slice none 0 0))) hb (ho.mono hB) (fun k hk => (ho.lt k hk).1), ⟨upd_same _ _ _, by simp, fun u hu => ?_⟩⟩
  rw [upd_ne _ _ (by simp)]
  show nils2 n (2, u) = _
  unfold nils2
  rw [if_pos ⟨rfl, hu⟩]
  simp [vAt, List.getD, hu, flat2]
/-- out[u] = append(out[u], arrow). -/
theorem AN.app (h : AN f ov vals n F) (hr : Rows B w f) {w1 : World} {u g c : Nat} (hu : u < n) (x y : Int)
    (ho : w1.ownsRow B 121 2 (.slice (some ⟨g, 0, none⟩) ((F u).length + 1) c) ((F u).length + 1) (flat2 (F u) ++ [.int .i64 x, .int .i64 y]))
    (hal : ((vAt vals u).ownBlock = some g ∧ w.grownBy w1 (vAt vals u).ownBlock) ∨ (w.heap.size ≤ g ∧ w.grownBy w1 none)) :
    w1.cell? (valAt ov u) = some (vAt vals u) ∧ w1.frozen? (valAt ov u) = false ∧ B ≤ (valAt ov u).block ∧
    ∃ f' vals', Rows B (w1.setCell (valAt ov u) (.slice (some ⟨g, 0, none⟩) ((F u).length + 1) c)) f' ∧ AN f' ov vals' n (updN F u (F u ++ [(x, y)])) := by
  have hrow := h.rows u hu
  have hg : w.grownBy w1 (vAt vals u).ownBlock := grown_via (hal.imp (·.2) (·.2))
  have hob : (Value.slice (some ⟨g, 0, none⟩) ((F u).length + 1) c).ownBlock = (vAt vals u).ownBlock ∨ ∃ k, (Value.slice (some ⟨g, 0, none⟩) ((F u).length + 1) c).ownBlock = some k ∧ w.heap.size ≤ k := by
    rcases hal with ⟨q, _⟩ | ⟨q, _⟩
    · exact .inl q.symm
    · exact .inr ⟨g, rfl, q⟩
  have h1 := hr.grown (r' := ⟨121, 2, .slice (some ⟨g, 0, none⟩) ((F u).length + 1) c, (F u).length + 1, flat2 (F u) ++ [Value.int .i64 x, Value.int .i64 y]⟩) hrow hg (show Row.own B w1 ⟨_, _, _, _, _⟩ from ho) hob
  have ho' : upd f (2, u) (some ⟨121, 2, .slice (some ⟨g, 0, none⟩) ((F u).length + 1) c, (F u).length + 1, flat2 (F u) ++ [Value.int .i64 x, Value.int .i64 y]⟩) (1, 0) = some (rowV 119 ov vals) := by rw [upd_ne _ _ (by simp)]; exact h.outer
  have hl : u < vals.length := by rw [h.len]; exact hu
  have hO := h1.ownV ho'
  refine ⟨hO.at.cellV u hl, hO.frz u hl, (hO.blkB u hl).2, _, _, h1.setV ho' u hl _, ⟨upd_same _ _ _, by simpa using h.len, fun t ht => ?_⟩⟩
  rw [upd_ne _ _ (by simp)]
  by_cases e : t = u
  · subst e
    rw [upd_same, vAt_set_same hl, updN_same, flat2_snoc]; simp
  · rw [upd_ne _ _ (by simpa using e), vAt_set_ne e, updN_other _ _ _ e]
    exact h.rows t ht
end
/-- v reads each node's arrows. -/
def ArrowsAt (w : World) (v : Value) (K N : Nat) (T : List Int) : Prop :=
  ∃ vs, ValsAt w v vs ∧ vs.length = N ∧ ∀ u, u < N → ∃ g c, vAt vs u = .slice (some ⟨g, 0, none⟩) K c ∧ K ≤ c ∧ ∀ s, s < K → w.cell? ⟨g, s * 2, none⟩ = some (.int .i64 (toN K N u s)) ∧ w.cell? ⟨g, s * 2 + 1, none⟩ = some (.int .i64 (labN K T u s))
theorem ArrowsAt.below {w w' : World} {v : Value} {K N : Nat} {T : List Int} (h : ArrowsAt w v K N T) (hb : Below w.heap.size w w') : ArrowsAt w' v K N T := by
  obtain ⟨vs, h1, h2, h3⟩ := h
  refine ⟨vs, h1.below hb, h2, fun u hu => ?_⟩
  obtain ⟨g, c, e, hc, h4⟩ := h3 u hu
  exact ⟨g, c, e, hc, fun s hs => ⟨cell_keep hb (h4 s hs).1, cell_keep hb (h4 s hs).2⟩⟩
theorem AN.reads {B : Nat} {w : World} {f : Names} {ov : Value} {vals : List Value} {K N : Nat} {T : List Int} (hK : 1 ≤ K) (h : AN f ov vals N (arrTo K N T N 0)) (hr : Rows B w f) : ArrowsAt w ov K N T := by
  refine ⟨vals, (hr.ownV h.outer).at, h.len, fun u hu => ?_⟩
  have hrow := h.rows u hu
  have hF : arrTo K N T N 0 u = arrL K N T u K := by unfold arrTo; rw [if_pos hu]
  rw [hF, arrL_len] at hrow
  obtain ⟨g, c, e, hc⟩ := row_shape (hr.1 _ _ hrow) hK
  refine ⟨g, c, e, hc, fun s hs => ?_⟩
  have c0 := hr.cell hrow (g := g) (cap := c) e (s * 2) (by simp; omega)
  have c1 := hr.cell hrow (g := g) (cap := c) e (s * 2 + 1) (by simp; omega)
  have := flat2_get (arrL K N T u K) s (by rw [arrL_len]; exact hs)
  have ea : (arrL K N T u K)[s]'(by rw [arrL_len]; exact hs) = ((toN K N u s : Int), labN K T u s) := by simp [arrL]
  rw [ea] at this
  exact ⟨c0.trans this.1, c1.trans this.2⟩

set_option maxHeartbeats 2000000 in
theorem arrows_any (r : Nat → Addr) (K R : Nat) (va : Option Addr) (vn vc : Nat) (T : List Int) (w : World) (hg : Glob r w) (h : IntsAt w (.slice va vn vc) T) (hok : RuleOk K R T) (hl : T.length ≤ 256) :
    Calls Tryz.prog 79 #[.agg #[.int .i64 K, .int .i64 R, .slice va vn vc]] w (Ret1 (fun x w' => ArrowsAt w' x K (T.length / K) T) w) := by
  have b0 := belowAlloc w (.cells #[.int .i64 K, .int .i64 R, .slice va vn vc] 24)
  have q : Box3 (w.alloc (.cells #[.int .i64 K, .int .i64 R, .slice va vn vc] 24)) w.heap.size (.int .i64 K) (.int .i64 R) (.slice va vn vc) := by simp [Box3, go_sem]
  have hk1 := hok.k1
  have hk4 := hok.k4
  have hN0 : T.length / K ≤ 256 := Nat.le_trans (Nat.div_le_self _ _) hl
  have hEdge := fun (u s : Nat) (w' : World) (hgl : Glob r w') (hT : IntsAt w' (.slice va vn vc) T) (hu : u < T.length / K) (hs : s < K) => over_Edge r K R va vn vc T u s w' hgl hT hok hl hu hs
  have hNodes := fun (w' : World) (hgl : Glob r w') (hT : IntsAt w' (.slice va vn vc) T) => over_Nodes r K R va vn vc T w' hgl hT hok hl
  generalize T.length / K = N at *
  replace hEdge := Lib.hid hEdge
  replace hNodes := Lib.hid hNodes
  replace hg := Lib.hid (hg.below b0)
  replace h := Lib.hid (h.below b0)
  replace hok := Lib.hid hok
  go_enter Tryz.func79, Tryz.ntmps79
  go_wp2_with fail
  refine (hNodes.out _ hg.out h.out).mono ?_
  rintro e w1 ⟨x, y, rfl, b1, rfl, rfl⟩
  have q1 := q.below b1
  have b01 := Below.step b0 b1
  have hg1 := hg.out.below b1
  have hT1 := h.out.below b1
  clear q
  go_wp2_with fail
  obtain ⟨ov, w2, mk, ho, hb2⟩ := run_makeW oneArrows (N : Int) N w1 rfl (by omega)
  obtain ⟨f1, hr1, h1⟩ := AN.made N hb2 (Nat.le_refl _) ho
  obtain ⟨oa, on, oc, rfl⟩ := ho.shape
  have lo := fun w' => (ho.at).len oneArrows 3 w'
  rw [List.length_replicate] at lo
  rw [mk]
  simp only [Result.andThen]
  rw [← arrTo_zero K N T] at h1
  replace hr1 := Lib.hid hr1
  replace ho := Lib.hid ho
  replace q1 := Lib.hid q1
  replace hg1 := Lib.hid hg1
  replace hT1 := Lib.hid hT1
  clear mk
  go_wp2_with fail
  clear lo
  go_loopw [20] (fun kv wr => ∃ (k : Nat) (f : Names) (vals : List Value), k ≤ N ∧ kv = .int .i64 k ∧ Rows w1.heap.size wr f ∧ Below w1.heap.size w1 wr ∧ AN f (.slice oa on oc) vals N (arrTo K N T k 0)) (fun kv _ => N - (intOf kv).toNat)
  case atStart => exact ⟨0, f1, _, by omega, rfl, hr1.out, hb2, h1⟩
  case round =>
    clear h1 ho hr1 hb2
    obtain ⟨k, f2, vals, hk, rfl, hr2, b2, h2⟩ := hrel
    obtain ⟨wo, rfl⟩ : ∃ wo : World, wo = wr := ⟨_, rfl⟩
    by_cases hlt : k < N
    · have z0 := (q1.out.below b2).1.1
      replace hr2 := Lib.hid hr2
      go_wp2_with fail
      clear z0
      go_loopw [25] (fun jv wr => ∃ (j : Nat) (f : Names) (vals : List Value), j ≤ K ∧ jv = .int .i64 j ∧ Rows w1.heap.size wr f ∧ Below w1.heap.size w1 wr ∧ AN f (.slice oa on oc) vals N (arrTo K N T k j)) (fun jv _ => K - (intOf jv).toNat)
      case atStart => exact ⟨0, f2, vals, by omega, rfl, hr2.out, b2, h2⟩
      case round =>
        clear hr2 h2 b2
        obtain ⟨j, f3, vals, hj, rfl, hr3, b3, h3⟩ := hrel
        obtain ⟨wo, rfl⟩ : ∃ wo : World, wo = wr := ⟨_, rfl⟩
        by_cases hjl : j < K
        · obtain ⟨z0, z1, z2⟩ := (q1.out.below b3).1
          replace hr3 := Lib.hid hr3
          go_wp2_with fail
          refine (hEdge.out k j _ (hg1.out.below b3) (hT1.out.below b3) hlt hjl).mono ?_
          rintro e w4 ⟨x, y, z, rfl, b4, rfl, rfl, rfl⟩
          have hr4 := hr3.out.below b4
          have b34 := Below.trans b3 (b4.mono b3.size)
          clear z0 z1 z2
          have hOV := (hr4.ownV h3.outer).at
          have iO := fun w' => hOV.idx oneArrows k (by rw [h3.len]; exact hlt) w'
          have cO := hOV.cellV k (by rw [h3.len]; exact hlt)
          have hT := hr4.1 _ _ (h3.rows k hlt)
          have hB4 : w1.heap.size ≤ w4.heap.size := b34.size
          have happ := fun (w5 : World) (g c : Nat) => h3.app hr4 (w1 := w5) (g := g) (c := c) hlt (toN K N k j) (labN K T k j)
          rw [arrTo_at, ← arrL_succ, arrTo_step] at happ
          rw [arrTo_at] at hT
          unfold Row.own at hT
          simp only [arrL_len] at hT
          generalize vAt vals k = tv at *
          generalize valAt (.slice oa on oc) k = ua at *
          obtain ⟨X, hX⟩ : ∃ X, toN K N k j = X := ⟨_, rfl⟩
          obtain ⟨Y, hY⟩ : ∃ Y, labN K T k j = Y := ⟨_, rfl⟩
          rw [hX, hY] at happ ⊢
          replace happ := Lib.hid happ
          replace hr4 := Lib.hid hr4
          replace hOV := Lib.hid hOV
          replace hX := Lib.hid hX
          replace hY := Lib.hid hY
          go_wp2_with (at_builtin; go_loud (refine wpl_app2 twoArrow rfl _ _ rfl w1.heap.size tv j (flat2 (arrL K N T k j)) X Y _ hT rfl rfl (by simp) (by omega) hB4 ?_))
          intro g c w7 ho7 hal7
          obtain ⟨y1, y2, y3, f8, vals8, hr8, h8⟩ := happ.out w7 g c (by rw [arrL_len]; exact ho7) hal7
          rw [arrL_len] at hr8
          replace hr8 := Lib.hid hr8
          replace ho7 := Lib.hid ho7
          have b7 : Below w1.heap.size w4 w7 := by
            rcases hal7 with ⟨hv, hgr⟩ | ⟨_, hgr⟩
            · exact (Below.refl _ _).grown hgr hB4 (fun m hm => (World.ownsRow.lt hT m hm).1)
            · exact (Below.refl _ _).grown hgr hB4 (fun m hm => by cases hm)
          clear hal7 hT cO
          go_wp2
          go_roundw
          case measure => simp [intOf]; omega
          case rel => exact ⟨j + 1, f8, vals8, by omega, by go_num, hr8.out, (b34.trans b7).setCell y3 _, h8⟩
        · obtain rfl : j = K := by omega
          rw [arrTo_next] at h3
          replace hr3 := Lib.hid hr3
          go_wp2
          go_roundw
          case measure => simp [intOf]; omega
          case rel => exact ⟨k + 1, f3, vals, by omega, by go_num, hr3.out, b3, h3⟩
    · obtain rfl : k = N := by omega
      have hA := h2.reads hk1 hr2
      replace hA := Lib.hid hA
      replace hr2 := Lib.hid hr2
      have bE := Below.step b01 b2
      go_wp2
      go_ret
      exact ⟨_, rfl, bE, hA.out⟩
end Go.Proofs.YtilpckngghffoaaGreatDoor

namespace Go.Proofs.YtilpckngghffoaaGreatDoor
open Go.RowKit Go.Shelf
set_option maxRecDepth 100000

def Tryz.laysRev_ren : Go.Shelf.Ren := ⟨fun | 112 => 85 | n => n, fun | 28 => 22 | 3 => 3 | 4 => 4 | 0 => 0 | n => n, fun | n => n⟩
theorem Tryz.laysRev : Go.Proofs.Lays.n112 Tryz.prog Tryz.laysRev_ren := {
  mixed := by kernel_rfl
  f112 := Tryz.func85.trans (congrArg some (by kernel_rfl))
  t0 := Tryz.underlying0
  a0 := Tryz.isAgg0
  z0 := Tryz.sizeOf0
  v0 := Tryz.zeroValue0
  t3 := Tryz.underlying3
  a3 := Tryz.isAgg3
  z3 := Tryz.sizeOf3
  v3 := Tryz.zeroValue3
  t4 := Tryz.underlying4
  a4 := Tryz.isAgg4
  z4 := Tryz.sizeOf4
  v4 := Tryz.zeroValue4
  t28 := Tryz.underlying22
  a28 := Tryz.isAgg22
  z28 := Tryz.sizeOf22
  v28 := Tryz.zeroValue22 }

theorem setCells_own {B g n cap : Nat} {w0 : World} : ∀ (zs : List Int) (o : Nat) (xs : List Int) (w : World), xs.length = n → o + zs.length ≤ n → OwnI B w (.slice (some ⟨g, 0, none⟩) n cap) xs → Below B w0 w →
    OwnI B (w.setCells g o (zs.map (Value.int .i64))) (.slice (some ⟨g, 0, none⟩) n cap) (xs.take o ++ zs ++ xs.drop (o + zs.length)) ∧ Below B w0 (w.setCells g o (zs.map (Value.int .i64)))
  | [], o, xs, w, _, _, h, hb => ⟨by simpa [World.setCells] using h, hb⟩
  | z :: r, o, xs, w, hn, ho, h, hb => by
    have hol : o < xs.length := by simp at ho; omega
    have h1 := h.set o hol z
    have h2 := h.setBelow hb o hol (.int .i64 z)
    rw [valAt_row] at h1 h2
    have ih := setCells_own r (o + 1) (xs.set o z) _ (by simpa using hn) (by simp at ho; omega) h1 h2
    have e : (xs.set o z).take (o + 1) ++ r ++ (xs.set o z).drop (o + 1 + r.length) = xs.take o ++ (z :: r) ++ xs.drop (o + (z :: r).length) := by
      rw [List.take_set, List.drop_set_of_lt (by omega)]
      rw [show (xs.take (o + 1)).set o z = xs.take o ++ [z] by rw [take_snoc xs o hol, List.set_append_right _ _ (by simp; omega)]; simp [show o - min o xs.length = 0 by omega]]
      simp [show o + 1 + r.length = o + (r.length + 1) by omega]
    rw [e] at ih
    exact ih

/-- slices.Reverse at a list of one's own. -/
theorem reverse_own (B : Nat) (v : Value) (xs : List Int) (w : World) (h : OwnI B w v xs) (hl : xs.length ≤ 9223372036854775807) :
    Calls Tryz.prog 85 #[v] w fun e w' => e = .returned (.tuple #[]) ∧ OwnI B w' v xs.reverse ∧ Below B w w' := by
  rcases h.2 with ⟨rfl, hn⟩ | ⟨g, cap, cur, rfl, hb, hg, hn, hm, hs, ht⟩
  · obtain rfl := List.length_eq_zero_iff.1 hn
    refine Calls.mono (Any.slices_Reverse_int_empty Tryz.laysRev none 0 w) ?_
    rintro e w' ⟨rfl, rfl⟩
    exact ⟨rfl, h, Below.refl _ _⟩
  · refine Calls.mono (Any.slices_Reverse_int_cells Tryz.laysRev g 0 xs.length cap xs w (Nat.le_refl _) hl (fun j hj => ?_) (fun j hj => ?_)) ?_
    · have := h.at.cellD j hj
      rw [valAt_row] at this
      simpa using this
    · have := h.frz j hj
      rw [valAt_row] at this
      simpa using this
    · rintro e w' ⟨rfl, q, rfl⟩
      rw [List.take_length]
      have := setCells_own (w0 := w) xs.reverse 0 xs (w.drewN q) rfl (by simp) (h.drewN q) (below_drewN (Below.refl _ _) q)
      simp at this
      simpa using ⟨this.1, this.2⟩

end Go.Proofs.YtilpckngghffoaaGreatDoor

namespace Go.Proofs.YtilpckngghffoaaGreatDoor

/-- Of the first m places those that are the first or differ from the place before. -/
def ded (zs : List Int) : Nat → List Int
  | 0 => []
  | m + 1 => ded zs m ++ if m = 0 ∨ zs.getD m 0 ≠ zs.getD (m - 1) 0 then [zs.getD m 0] else []
theorem ded_len (zs : List Int) : ∀ m, (ded zs m).length ≤ m
  | 0 => Nat.le_refl _
  | m + 1 => by
    have := ded_len zs m
    rw [ded, List.length_append]
    split <;> simp <;> omega
theorem sorted_getD {zs : List Int} (h : zs.Pairwise (· ≤ ·)) {i j : Nat} (hij : i ≤ j) (hj : j < zs.length) : zs.getD i 0 ≤ zs.getD j 0 := by
  simp only [List.getD_eq_getElem?_getD, List.getElem?_eq_getElem hj, List.getElem?_eq_getElem (show i < zs.length by omega), Option.getD_some]
  by_cases e : i = j
  · subst e; exact Int.le_refl _
  · exact List.pairwise_iff_getElem.1 h i j (by omega) hj (by omega)
theorem ded_spec {zs : List Int} (h : zs.Pairwise (· ≤ ·)) : ∀ m, m ≤ zs.length → (ded zs m).Pairwise (· < ·) ∧ (∀ x, x ∈ ded zs m ↔ x ∈ zs.take m)
  | 0, _ => by simp [ded]
  | m + 1, hm => by
    obtain ⟨h1, h2⟩ := ded_spec h m (by omega)
    have ht : zs.take (m + 1) = zs.take m ++ [zs.getD m 0] := by
      rw [List.take_add_one, List.getElem?_eq_getElem (show m < zs.length by omega)]
      simp [List.getD, show m < zs.length by omega]
    have top : ∀ x ∈ zs.take m, m ≠ 0 ∧ x ≤ zs.getD (m - 1) 0 := fun x hx => by
      obtain ⟨i, hi, e⟩ := List.mem_iff_getElem.1 hx
      have hi' : i < m := by rw [List.length_take] at hi; omega
      have := sorted_getD h (show i ≤ m - 1 by omega) (by omega)
      rw [List.getElem_take] at e
      rw [List.getD_eq_getElem?_getD, List.getElem?_eq_getElem (show i < zs.length by omega), Option.getD_some, e] at this
      exact ⟨by omega, this⟩
    rw [ded, ht]
    by_cases c : m = 0 ∨ zs.getD m 0 ≠ zs.getD (m - 1) 0
    · rw [if_pos c]
      refine ⟨List.pairwise_append.2 ⟨h1, by simp, fun a ha b hb => ?_⟩, fun x => by simp [h2]⟩
      rw [List.mem_singleton] at hb
      subst hb
      obtain ⟨t1, t2⟩ := top a ((h2 a).1 ha)
      have := sorted_getD h (show m - 1 ≤ m by omega) (by omega)
      rcases c with c | c <;> omega
    · rw [if_neg c, List.append_nil]
      refine ⟨h1, fun x => ?_⟩
      rw [h2, List.mem_append, List.mem_singleton]
      constructor
      · exact .inl
      · rintro (q | q)
        · exact q
        · have c2 : m ≠ 0 ∧ zs.getD m 0 = zs.getD (m - 1) 0 := by
            refine ⟨fun e => c (.inl e), ?_⟩
            apply Classical.byContradiction
            intro e; exact c (.inr e)
          rw [q, c2.2, List.mem_iff_getElem]
          refine ⟨m - 1, by rw [List.length_take]; omega, ?_⟩
          rw [List.getElem_take]
          simp [List.getD, show m - 1 < zs.length by omega]
theorem sorted_eqI : ∀ {L M : List Int}, L.Pairwise (· < ·) → M.Pairwise (· < ·) → (∀ v, v ∈ L ↔ v ∈ M) → L = M
  | [], [], _, _, _ => rfl
  | [], b :: M, _, _, h => absurd ((h b).2 List.mem_cons_self) (by simp)
  | a :: L, [], _, _, h => absurd ((h a).1 List.mem_cons_self) (by simp)
  | a :: L, b :: M, hL, hM, h => by
    obtain ⟨a1, a2⟩ := List.pairwise_cons.1 hL
    obtain ⟨b1, b2⟩ := List.pairwise_cons.1 hM
    have hab : a = b := by
      rcases List.mem_cons.1 ((h a).1 List.mem_cons_self) with e | e
      · exact e
      · rcases List.mem_cons.1 ((h b).2 List.mem_cons_self) with e2 | e2
        · exact e2.symm
        · have := b1 a e; have := a1 b e2; omega
    subst hab
    rw [sorted_eqI a2 b2 fun v => ?_]
    have := h v
    simp only [List.mem_cons] at this
    constructor
    · intro hv
      rcases this.1 (.inr hv) with e | e
      · subst e; exact absurd (a1 v hv) (Int.lt_irrefl _)
      · exact e
    · intro hv
      rcases this.2 (.inr hv) with e | e
      · subst e; exact absurd (b1 v hv) (Int.lt_irrefl _)
      · exact e
/-- Sorted, the doubles gone: the ascending list of what leads there. -/
theorem ded_pair {K N : Nat} {T : List Int} (hN : 0 < N) {p : Nat} {zs : List Int} (hs : zs.Pairwise (· ≤ ·)) (hm : ∀ x, x ∈ zs ↔ x ∈ (rawP K N T (p / N) (p % N) K).map fun (n : Nat) => (n : Int)) :
    ded zs zs.length = (pairL K N T p).map fun (n : Nat) => (n : Int) := by
  obtain ⟨h1, h2⟩ := ded_spec hs zs.length (Nat.le_refl _)
  refine sorted_eqI h1 (List.pairwise_map.2 ((pairL_sorted K N T p).imp fun h => by omega)) fun v => ?_
  rw [h2, List.take_length, hm]
  simp only [List.mem_map]
  constructor
  · rintro ⟨q, hq, rfl⟩; exact ⟨q, (mem_pairL hN).2 (mem_rawP.1 hq), rfl⟩
  · rintro ⟨q, hq, rfl⟩; exact ⟨q, mem_rawP.2 ((mem_pairL hN).1 hq), rfl⟩
end Go.Proofs.YtilpckngghffoaaGreatDoor

namespace Go.Proofs.YtilpckngghffoaaGreatDoor
open Go.RowKit Go.Shelf
set_option maxRecDepth 100000

def Tryz.laysCompact_ren : Go.Shelf.Ren := ⟨fun | 20 => 81 | n => n, fun | 22 => 22 | 3 => 3 | 4 => 4 | 0 => 0 | n => n, fun | n => n⟩
theorem Tryz.laysCompact : Go.Proofs.Lays2.n20 Tryz.prog Tryz.laysCompact_ren := {
  mixed := by kernel_rfl
  f20 := Tryz.func81.trans (congrArg some (by kernel_rfl))
  t0 := Tryz.underlying0
  a0 := Tryz.isAgg0
  z0 := Tryz.sizeOf0
  v0 := Tryz.zeroValue0
  t3 := Tryz.underlying3
  a3 := Tryz.isAgg3
  z3 := Tryz.sizeOf3
  v3 := Tryz.zeroValue3
  t4 := Tryz.underlying4
  a4 := Tryz.isAgg4
  z4 := Tryz.sizeOf4
  v4 := Tryz.zeroValue4
  t22 := Tryz.underlying22
  a22 := Tryz.isAgg22
  z22 := Tryz.sizeOf22
  v22 := Tryz.zeroValue22
  i3 := by kernel_rfl }

theorem compact_ded (zs : List Int) : Lib.compact zs = ded zs zs.length := by
  have : ∀ m, m ≤ zs.length → Lib.compactUpTo zs.toArray m = ded zs m := by
    intro m
    induction m with
    | zero => intro _; rfl
    | succ m ih =>
      intro hm
      rw [Lib.compactUpTo_succ, ih (by omega), ded]
      have e1 : zs.toArray[m]! = zs.getD m 0 := by
        rw [getElem!_pos zs.toArray m (by simp; omega)]; simp [List.getD, show m < zs.length by omega]
      have e2 : zs.toArray[m - 1]! = zs.getD (m - 1) 0 := by
        rw [getElem!_pos zs.toArray (m - 1) (by simp; omega)]; simp [List.getD, show m - 1 < zs.length by omega]
      unfold Lib.keeps
      rw [e1, e2]
      by_cases c : m = 0 ∨ zs.getD m 0 ≠ zs.getD (m - 1) 0
      · rw [if_pos c, if_pos (by simpa using c)]
      · rw [if_neg c, if_neg (by simpa using c)]
  exact this _ (Nat.le_refl _)
/-- One's own slice, cut at its front. -/
theorem OwnI.cutTo {B : Nat} {w : World} {a : Option Addr} {n c : Nat} {xs : List Int} (h : OwnI B w (.slice a n c) xs) (m : Nat) (hm : m ≤ xs.length) : OwnI B w (.slice a m c) (xs.take m) := by
  rcases h.2 with ⟨e, e2⟩ | ⟨g, cap, cur, e, hB, hg, hn, hcm, hs, ht⟩
  · injection e with e1 e3 e4
    subst e1 e4
    obtain rfl := List.length_eq_zero_iff.1 e2
    obtain rfl : m = 0 := by simpa using hm
    exact OwnI.nil B w
  · injection e with e1 e3 e4
    subst e1 e4
    have hl : (xs.take m).length = m := by simp; omega
    refine ⟨by simp, .inr ⟨g, c, cur, by rw [hl], hB, hg, by rw [hl]; omega, hcm, hs, ?_⟩⟩
    rw [hl, List.map_take, ← ht, List.take_take]
    congr 1
    omega
/-- slices.Compact at a list of one's own. -/
theorem compact_own (B : Nat) (v : Value) (xs : List Int) (w : World) (h : OwnI B w v xs) (hl : xs.length ≤ 9223372036854775807) :
    Calls Tryz.prog 81 #[v] w fun e w' => ∃ x, e = .returned x ∧ x.ownBlock = v.ownBlock ∧ OwnI B w' x (ded xs xs.length) ∧ Below B w w' := by
  rcases h.2 with ⟨rfl, hn⟩ | ⟨g, cap, cur, rfl, hb, hg, hn, hm, hs, ht⟩
  · obtain rfl := List.length_eq_zero_iff.1 hn
    refine Calls.mono (Any.slices_Compact_int_empty Tryz.laysCompact none 0 w) ?_
    rintro e w' ⟨rfl, rfl⟩
    exact ⟨_, rfl, rfl, h, Below.refl _ _⟩
  · refine Calls.mono (Any.slices_Compact_int_cells Tryz.laysCompact g 0 xs.length cap xs w (Nat.le_refl _) hl hn (fun j hj => ?_) (fun j hj => ?_)) ?_
    · have := h.at.cellD j hj
      rw [valAt_row] at this
      simpa using this
    · have := h.frz j hj
      rw [valAt_row] at this
      simpa using this
    · rintro e w' ⟨rfl, q, rfl⟩
      rw [List.take_length, compact_ded]
      have hd := ded_len xs xs.length
      have hL : (ded xs xs.length ++ List.replicate (xs.length - (ded xs xs.length).length) (0 : Int)).length = xs.length := by simp; omega
      have := setCells_own (w0 := w) (ded xs xs.length ++ List.replicate (xs.length - (ded xs xs.length).length) 0) 0 xs (w.drewN q) rfl (by rw [hL]; omega) (h.drewN q) (below_drewN (Below.refl _ _) q)
      rw [hL, List.take_zero, List.nil_append, Nat.zero_add, List.drop_length, List.append_nil] at this
      have ho := this.1.cutTo (ded xs xs.length).length (by rw [hL]; exact hd)
      rw [List.take_left'  rfl] at ho
      exact ⟨_, rfl, rfl, ho, this.2⟩
end Go.Proofs.YtilpckngghffoaaGreatDoor

namespace Go.Proofs.YtilpckngghffoaaGreatDoor
open Go.RowKit Go.Shelf
attribute [local go_sem] Oper.semAt_some
set_option maxRecDepth 100000

set_option maxHeartbeats 2000000 in
/-- The iterator of slices.Values: for every loop body that keeps what lay below n0. -/
theorem vals1_in (F : Fence) (n : Nat) (hF : F.fn 185) (hro : F.round = none) (hn : 1 ≤ n) (l Bs n0 : Nat) (v : Value) (zs : List Int) (J Jx : List Int → World → Prop)
    (hY : ∀ pre x W, J pre W → pre.length < zs.length → YieldAt F (n - 1) Tryz.prog l #[.int .i64 x] W fun e W' =>
      (e = .returned (.bool true) ∧ J (pre ++ [x]) W' ∧ Below n0 W W') ∨ (e = .returned (.bool false) ∧ Jx (pre ++ [x]) W'))
    (W : World) (hBs : W.cell? ⟨Bs, 0, none⟩ = some v) (hv : IntsAt W v zs) (hb : ∀ i, i < zs.length → (valAt v i).block < n0) (h0 : J [] W) :
    CallsIn F n Tryz.prog 185 #[.func (.yield l) #[] #[], .pointer (some ⟨Bs, 0, none⟩)] W fun e W' => (∃ u, e = .returned u) ∧
      ((∃ ys, ys = zs ∧ J ys W') ∨ (∃ pre, pre <+: zs ∧ Jx pre W')) := by
  have hlen := hv.len
  have hmax := hv.len_le
  replace hv := Lib.hid hv
  refine callsIn_of_wp Tryz.func185 rfl hF ?_ hro
  simp only [Tryz.ntmps185, List.size_toArray, List.length_cons, List.length_nil, Nat.reduceAdd, Nat.reduceSub, Array.replicate_succ, Array.replicate_zero, List.push_toArray, List.append_toArray, List.nil_append, List.cons_append]
  gi_wp2
  gi_loopw [7] (fun i wr => ∃ k : Nat, k ≤ zs.length ∧ i = .int .i64 k ∧ J (zs.take k) wr ∧ Below n0 W wr)
    (fun i _ => zs.length - (intOf i).toNat)
  case atStart => exact ⟨0, Nat.zero_le _, rfl, h0, Below.refl _ _⟩
  case round =>
    obtain ⟨k, hk, rfl, hJs, hnx⟩ := hrel
    by_cases hlt : k < zs.length
    · have i1 := hv.out.idx k hlt
      have c1 := (hnx.cell (hb k hlt)).trans (hv.out.cell k hlt)
      have ht := Lib.hid (take_snoc zs k hlt)
      obtain ⟨x, hx⟩ : ∃ x, x = zs[k] := ⟨_, rfl⟩
      rw [← hx] at c1 ht
      clear hx
      obtain ⟨fn, tmps, assign, body, hy, hR⟩ := hY _ x wr hJs (by simp; omega)
      replace hJs := Lib.hid hJs
      gi_wp2
      refine hR.mono ?_
      rintro e W3 (⟨rfl, hJ3, hk3⟩ | ⟨rfl, hJx3⟩)
      · replace hJ3 := Lib.hid hJ3
        gi_wp2
        go_roundw
        case rel => exact ⟨k + 1, by omega, by go_num, by rw [ht.out]; exact hJ3.out, hnx.trans hk3⟩
        case measure => simp [intOf]; omega
      · replace hJx3 := Lib.hid hJx3
        gi_wp2
        refine bodyPost_ret (results_none rfl _ _ _) rfl ?_
        exact ⟨⟨_, rfl⟩, .inr ⟨_, by rw [← ht.out]; exact List.take_prefix _ _, hJx3.out⟩⟩
    · obtain rfl : k = zs.length := by omega
      rw [List.take_length] at hJs
      replace hJs := Lib.hid hJs
      gi_wp2
      go_end0
      exact ⟨⟨_, rfl⟩, .inl ⟨_, rfl, hJs.out⟩⟩

/-- slices.Values(s): the slice is boxed; the function value captures the box. -/
theorem vals_any (a : Option Addr) (n c : Nat) (w : World) :
    Calls Tryz.prog 169 #[.slice a n c] w fun e w' => e = .returned (.func (.func 185) #[] #[.pointer (some ⟨w.heap.size, 0, none⟩)]) ∧ w.alloc (.cells #[.slice a n c] 22) = w' := by
  go_enter Tryz.func169, Tryz.ntmps169
  go_wp2
  go_ret
  exact ⟨rfl, rfl⟩

theorem vals_stops (F : Fence) (n : Nat) (hF : F.fn 185) (hro : F.round = none) (hn : 1 ≤ n) (Bs n0 : Nat) (v : Value) (zs : List Int) (w : World) (hBs : Bs < w.heap.size)
    (hc : w.cell? ⟨Bs, 0, none⟩ = some v) (hv : IntsAt w v zs) (hb : ∀ i, i < zs.length → (valAt v i).block < n0) :
    SeqStopsK F n Tryz.prog 185 #[.pointer (some ⟨Bs, 0, none⟩)] (fun x : Int => #[Value.int .i64 x]) (Below n0) (fun ys => ys = zs) (fun pre => pre <+: zs) zs.length w := fun l J Jx W hW _ _ hY h0 =>
  vals1_in F n hF hro hn l Bs n0 v zs J Jx hY W ((hW.cell (p := ⟨Bs, 0, none⟩) hBs).trans hc) (hv.below hW) hb h0

set_option maxHeartbeats 2000000 in
/-- slices.AppendSeq(nil, slices.Values(s)): a new list of the same numbers. -/
theorem appendSeq_in (F : Fence) (n : Nat) (hA : F.fn 187) (hV : F.fn 185) (hro : F.round = none) (hn : 3 ≤ n) (Bs : Nat) (v : Value) (zs : List Int) (hlen : zs.length ≤ 17592186044416) (w : World)
    (hBs : Bs < w.heap.size) (hc : w.cell? ⟨Bs, 0, none⟩ = some v) (hv : IntsAt w v zs) :
    CallsIn F n Tryz.prog 187 #[.slice none 0 0, .func (.func 185) #[] #[.pointer (some ⟨Bs, 0, none⟩)]] w fun e w' => ∃ x, e = .returned x ∧ OwnI w.heap.size w' x zs ∧ Below w.heap.size w w' := by
  have h1 : 1 ≤ n := by omega
  obtain ⟨i0, hi, hz0, hz1, hz2⟩ := info_parts iInt
  refine callsIn_of_wp_marks Tryz.func187 rfl hA ?_ hro
  simp only [Tryz.ntmps187, List.size_toArray, List.length_cons, List.length_nil, Nat.reduceAdd, Nat.reduceSub, Array.replicate_succ, Array.replicate_zero, List.push_toArray, List.append_toArray, List.nil_append, List.cons_append]
  replace hv := Lib.hid hv
  gi_wp2
  have bO := Boxed.new w 22 (.slice none 0 0)
  have hB0 : Below w.heap.size w (w.alloc (.cells #[.slice none 0 0] 22)) := (Below.refl _ w).alloc (Nat.le_refl _) _
  refine wpIn_rangeFunc_ownG hro h1 (gf := 185) (lb := #[.pointer (some ⟨Bs, 0, none⟩)]) rfl hV (enters_of Tryz.func185 (by kernel_rfl) rfl)
    (vals_stops F (n - 1) hV hro (by omega) Bs w.heap.size v zs _ (by simp; omega) ((hB0.cell (p := ⟨Bs, 0, none⟩) hBs).trans hc) (hv.out.below hB0) (fun i hi => hv.out.blk i hi)) belowK_t (belowK_b (by simp)) (Below.refl _ _) (fun _ => rfl)
    (fun pre W => (∃ v, Boxed W w.heap.size 22 v ∧ W.ownsRow w.heap.size 3 1 v pre.length (pre.map (Value.int .i64)) ∧ (v = .slice none 0 0 ↔ pre = [])) ∧ Below w.heap.size w W)
    (fun _ _ _ => False)
    (OwnFrom.and (Own.from (holdsRow_own w.heap.size w.heap.size 22 3 1 (fun pre => pre.length) (fun pre => pre.map (Value.int .i64)) (fun pre v => v = .slice none 0 0 ↔ pre = [])) _) (ownFrom_below (Nat.le_refl _) (by simp)))
    (fun _ _ _ _ _ hs _ _ => hs)
    ⟨⟨_, bO, World.ownsRow_nil _ _ _ _, by simp⟩, hB0⟩
    (fun x => { tmps := #[.slice none 0 0, .func (.func 185) #[] #[.pointer (some ⟨Bs, 0, none⟩)], .pointer (some ⟨w.heap.size, 0, none⟩), undef, .slice none 0 0, .int .i64 x, .func (.func 185) #[] #[.pointer (some ⟨Bs, 0, none⟩)], .int .i64 x, undef, undef, undef, undef, undef], defers := [] }) ?assign ?body ?done ?stop
  case assign =>
    intro l x W K hK
    gi_wp2
    exact hK
  case body =>
    rintro l pre x W ⟨⟨v, hv, hrow, hnil⟩, hB⟩ hlt
    have hc := hv.cell
    gi_wp2_with (gi_at_builtin; refine wpListIn_append_own _ rfl _ _ 22 rfl w.heap.size 3 i0 (.int .i64 0) 1 8 uInts hi hz0 hz1 hz2 rfl (by decide) _ _ _ rfl (hrow.alloc _) ⟨W.heap.size, 0, none⟩ 1 1 [.int .i64 x] rfl rfl (cell_one_new _ _ _) (by simp [Value.oneCell']) (by unfold maxLen; omega) (by omega) (by have := hB.size; simp; omega) ?_; intro v' w1 hown' hgrow _; obtain ⟨g', cap', rfl⟩ := ownsRow_succ hown'; obtain ⟨hv1, hv2, hr2, hk2, hb2⟩ := hv.appended (by decide) hrow hB.size (Nat.le_refl _) hown' hgrow; have hc1 := hv1.cell; have hf1 := hv1.frozen)
    exact ⟨hk2.from _, hb2, ⟨_, hv2, by simpa using hr2, by simp⟩, hB.trans hb2⟩
  case done =>
    rintro D ys W hD rfl ⟨⟨v, hv, hrow, hnil⟩, hB⟩ hK
    have hc := hv.cell
    gi_wp2
    refine ⟨by simp, .inl ⟨_, _, rfl, run_takeDeferred hK, ?_⟩⟩
    exact ⟨_, results_tmp rfl _ _ _, v, rfl, ownsRow_putObj hrow _ hK rfl, hB.trans (belowK_b (w := w) (Nat.le_refl _) W D _ _ (by simp at hD; omega) hK rfl rfl)⟩
  case stop =>
    rintro D c pre W _ _ h _
    exact h.elim

theorem collect_any (Bs : Nat) (v : Value) (zs : List Int) (hlen : zs.length ≤ 17592186044416) (w : World) (hBs : Bs < w.heap.size) (hc : w.cell? ⟨Bs, 0, none⟩ = some v) (hv : IntsAt w v zs) :
    Calls Tryz.prog 184 #[.func (.func 185) #[] #[.pointer (some ⟨Bs, 0, none⟩)]] w (Ret1 (fun x w' => OwnI w.heap.size w' x zs) w) := by
  have hA := (callsIn_wide (n := 6)).1 (appendSeq_in Fence.wide 6 trivial trivial rfl (by omega) Bs v zs hlen w hBs hc hv)
  go_enter Tryz.func184, Tryz.ntmps184
  go_wp2_with fail
  refine hA.mono ?_
  clear hA
  rintro e w1 ⟨x, rfl, ho, hb⟩
  replace ho := Lib.hid ho
  go_wp2
  go_ret
  exact ⟨_, rfl, hb, ho.out⟩
end Go.Proofs.YtilpckngghffoaaGreatDoor

namespace Go.Proofs.YtilpckngghffoaaGreatDoor
open Go.RowKit Go.Shelf Go.Sort
set_option maxRecDepth 100000

def Tryz.laysSort_ren : Go.Shelf.Ren := ⟨fun | 5 => 80 | 8 => 126 | 7 => 125 | 19 => 160 | 20 => 161 | 10 => 151 | 11 => 152 | 12 => 153 | 13 => 154 | 14 => 155 | 15 => 156 | 16 => 157 | 17 => 158 | 18 => 159 | 30 => 176 | 31 => 177 | 32 => 178 | 33 => 179 | 34 => 180 | 35 => 181 | 40 => 186 | n => n, fun | 23 => 22 | 25 => 3 | 3 => 3 | 32 => 165 | 22 => 22 | 0 => 0 | 44 => 203 | 46 => 205 | 4 => 4 | 36 => 195 | 35 => 194 | 41 => 200 | 5 => 5 | 9 => 9 | 53 => 225 | 57 => 229 | 63 => 234 | 64 => 235 | n => n, fun | n => n⟩
theorem Tryz.laysSort : Go.Proofs.SlLaysM.n5 Tryz.prog Tryz.laysSort_ren := {
  mixed := by kernel_rfl
  f5 := ⟨Tryz.f80.name, by decide, Tryz.func80.trans (congrArg some (by kernel_rfl))⟩
  f7 := ⟨Tryz.f125.name, by decide, Tryz.func125.trans (congrArg some (by kernel_rfl))⟩
  f8 := Tryz.func126.trans (congrArg some (by kernel_rfl))
  f10 := ⟨Tryz.f151.name, by decide, Tryz.func151.trans (congrArg some (by kernel_rfl))⟩
  f11 := ⟨Tryz.f152.name, by decide, Tryz.func152.trans (congrArg some (by kernel_rfl))⟩
  f12 := ⟨Tryz.f153.name, by decide, Tryz.func153.trans (congrArg some (by kernel_rfl))⟩
  f13 := ⟨Tryz.f154.name, by decide, Tryz.func154.trans (congrArg some (by kernel_rfl))⟩
  f14 := ⟨Tryz.f155.name, by decide, Tryz.func155.trans (congrArg some (by kernel_rfl))⟩
  f15 := ⟨Tryz.f156.name, by decide, Tryz.func156.trans (congrArg some (by kernel_rfl))⟩
  f16 := ⟨Tryz.f157.name, by decide, Tryz.func157.trans (congrArg some (by kernel_rfl))⟩
  f17 := ⟨Tryz.f158.name, by decide, Tryz.func158.trans (congrArg some (by kernel_rfl))⟩
  f18 := ⟨Tryz.f159.name, by decide, Tryz.func159.trans (congrArg some (by kernel_rfl))⟩
  f19 := Tryz.func160.trans (congrArg some (by kernel_rfl))
  f20 := Tryz.func161.trans (congrArg some (by kernel_rfl))
  f30 := ⟨Tryz.f176.name, by decide, Tryz.func176.trans (congrArg some (by kernel_rfl))⟩
  f31 := Tryz.func177.trans (congrArg some (by kernel_rfl))
  f32 := Tryz.func178.trans (congrArg some (by kernel_rfl))
  f33 := ⟨Tryz.f179.name, by decide, Tryz.func179.trans (congrArg some (by kernel_rfl))⟩
  f34 := ⟨Tryz.f180.name, by decide, Tryz.func180.trans (congrArg some (by kernel_rfl))⟩
  f35 := ⟨Tryz.f181.name, by decide, Tryz.func181.trans (congrArg some (by kernel_rfl))⟩
  f40 := ⟨Tryz.f186.name, by decide, Tryz.func186.trans (congrArg some (by kernel_rfl))⟩
  t0 := Tryz.underlying0
  a0 := Tryz.isAgg0
  z0 := Tryz.sizeOf0
  v0 := Tryz.zeroValue0
  t3 := Tryz.underlying3
  a3 := Tryz.isAgg3
  z3 := Tryz.sizeOf3
  v3 := Tryz.zeroValue3
  t4 := Tryz.underlying4
  a4 := Tryz.isAgg4
  z4 := Tryz.sizeOf4
  v4 := Tryz.zeroValue4
  t5 := Tryz.underlying5
  a5 := Tryz.isAgg5
  z5 := Tryz.sizeOf5
  v5 := Tryz.zeroValue5
  t9 := Tryz.underlying9
  a9 := Tryz.isAgg9
  z9 := Tryz.sizeOf9
  v9 := Tryz.zeroValue9
  t22 := Tryz.underlying22
  a22 := Tryz.isAgg22
  z22 := Tryz.sizeOf22
  v22 := Tryz.zeroValue22
  t23 := Tryz.underlying22
  a23 := Tryz.isAgg22
  z23 := Tryz.sizeOf22
  v23 := Tryz.zeroValue22
  t25 := Tryz.underlying3
  a25 := Tryz.isAgg3
  z25 := Tryz.sizeOf3
  v25 := Tryz.zeroValue3
  t32 := Tryz.underlying165
  a32 := Tryz.isAgg165
  z32 := Tryz.sizeOf165
  v32 := Tryz.zeroValue165
  t35 := Tryz.underlying194
  a35 := Tryz.isAgg194
  z35 := Tryz.sizeOf194
  v35 := Tryz.zeroValue194
  t36 := Tryz.underlying195
  a36 := Tryz.isAgg195
  z36 := Tryz.sizeOf195
  v36 := Tryz.zeroValue195
  t41 := Tryz.underlying200
  a41 := Tryz.isAgg200
  z41 := Tryz.sizeOf200
  v41 := Tryz.zeroValue200
  t44 := Tryz.underlying203
  a44 := Tryz.isAgg203
  z44 := Tryz.sizeOf203
  v44 := Tryz.zeroValue203
  t46 := Tryz.underlying205
  a46 := Tryz.isAgg205
  z46 := Tryz.sizeOf205
  v46 := Tryz.zeroValue205
  t53 := Tryz.underlying225
  a53 := Tryz.isAgg225
  z53 := Tryz.sizeOf225
  v53 := Tryz.zeroValue225
  t57 := Tryz.underlying229
  a57 := Tryz.isAgg229
  z57 := Tryz.sizeOf229
  v57 := Tryz.zeroValue229
  t63 := Tryz.underlying234
  a63 := Tryz.isAgg234
  z63 := Tryz.sizeOf234
  v63 := Tryz.zeroValue234
  t64 := Tryz.underlying235
  a64 := Tryz.isAgg235
  z64 := Tryz.sizeOf235
  v64 := Tryz.zeroValue235 }

/-- Ascending. -/
def srt (xs : List Int) : List Int := xs.mergeSort fun x y => decide (x ≤ y)
theorem srt_length (xs : List Int) : (srt xs).length = xs.length := by simp [srt]

/-- slices.Sort at a list of one's own. -/
theorem sort_own (B : Nat) (v : Value) (xs : List Int) (w : World) (h : OwnI B w v xs) (hl : xs.length ≤ 17592186044416) (hB : B ≤ w.heap.size) :
    Calls Tryz.prog 80 #[v] w fun e w' => e = .returned (.tuple #[]) ∧ OwnI B w' v (srt xs) ∧ Below B w w' := by
  rcases h.2 with ⟨rfl, hn⟩ | ⟨g, cap, cur, rfl, hb, hg, hn, hcm, hs, ht⟩
  · obtain rfl := List.length_eq_zero_iff.1 hn
    refine Calls.mono (AnyM.slices_Sort_int_none Tryz.laysSort none 0 w) ?_
    rintro e w' ⟨rfl, rfl⟩
    exact ⟨rfl, by simpa [srt] using h, Below.refl _ _⟩
  · have hlen : xs.length < 4611686018427387904 := by omega
    refine Calls.mono (AnyM.slices_Sort_int Tryz.laysSort g 0 cap xs w (holds_of_block_i hg (by simpa using ht)) (Array.getElem?_eq_some_iff.1 hg).1 hlen) ?_
    rintro e w' ⟨rfl, n, os, rfl⟩
    refine ⟨rfl, ?_, (Below.refl _ _).grown (grownBy_sorted_i _) hB (fun j hj => by cases hj; exact hb)⟩
    have := ownsRow_sorted_i (n := n) (os := os) (ts := srt xs) (srt_length xs) hb hg hn hcm hs
    unfold OwnI
    rw [srt_length]
    exact this

theorem sorted_any (Bs : Nat) (v : Value) (zs : List Int) (hlen : zs.length ≤ 17592186044416) (w : World) (hBs : Bs < w.heap.size) (hc : w.cell? ⟨Bs, 0, none⟩ = some v) (hv : IntsAt w v zs) :
    Calls Tryz.prog 168 #[.func (.func 185) #[] #[.pointer (some ⟨Bs, 0, none⟩)]] w (Ret1 (fun x w' => OwnI w.heap.size w' x (srt zs)) w) := by
  have hA := collect_any Bs v zs hlen w hBs hc hv
  go_enter Tryz.func168, Tryz.ntmps168
  go_wp2_with fail
  refine hA.mono ?_
  clear hA
  rintro e w1 ⟨x, rfl, hb, ho⟩
  have hs := hb.size
  go_wp2_with fail
  refine (sort_own w.heap.size x zs _ ho hlen hs).mono ?_
  rintro e w2 ⟨rfl, ho2, hb2⟩
  replace ho2 := Lib.hid ho2
  go_wp2
  go_ret
  exact ⟨_, rfl, hb.trans hb2, ho2.out⟩
end Go.Proofs.YtilpckngghffoaaGreatDoor

namespace Go.Proofs.YtilpckngghffoaaGreatDoor
open Go.RowKit Go.Shelf
set_option maxRecDepth 100000

def Tryz.laysMul_ren : Go.Shelf.Ren := ⟨fun | 212 => 127 | 263 => 162 | 264 => 163 | n => n, fun | 46 => 165 | 51 => 203 | 146 => 206 | 53 => 205 | 148 => 208 | n => n, fun | n => n⟩
theorem Tryz.laysMul : Go.Proofs.Lays.n212 Tryz.prog Tryz.laysMul_ren := {
  mixed := by kernel_rfl
  f212 := Tryz.func127.trans (congrArg some (by kernel_rfl))
  f263 := Tryz.func162.trans (congrArg some (by kernel_rfl))
  f264 := Tryz.func163.trans (congrArg some (by kernel_rfl))
  t46 := Tryz.underlying165
  a46 := Tryz.isAgg165
  z46 := Tryz.sizeOf165
  v46 := Tryz.zeroValue165
  t51 := Tryz.underlying203
  a51 := Tryz.isAgg203
  z51 := Tryz.sizeOf203
  v51 := Tryz.zeroValue203
  t53 := Tryz.underlying205
  a53 := Tryz.isAgg205
  z53 := Tryz.sizeOf205
  v53 := Tryz.zeroValue205
  t146 := Tryz.underlying206
  a146 := Tryz.isAgg206
  z146 := Tryz.sizeOf206
  v146 := Tryz.zeroValue206
  t148 := Tryz.underlying208
  a148 := Tryz.isAgg208
  z148 := Tryz.sizeOf208
  v148 := Tryz.zeroValue208 }

/-- copy(d, u), d at place off of an owned slice, u longer perhaps than the room. -/
theorem run_copyMin {w : World} {B : Nat} {v u d : Value} {xs ys : List Int} (off : Nat) (ty : TypeId) (dp : Option Addr) (dLen dCap : Nat) (hown : OwnI B w v xs) (hu : IntsAt w u ys) (hd : d = .slice dp dLen dCap)
    (hfit : off + dLen ≤ xs.length) (h0 : 0 < dLen) (h1 : 0 < ys.length) (hdp : dp = some (valAt v off)) :
    ∃ w', (Builtin.copy_ #[22, 22] ty #[d, u]).run Tryz.prog w = .ok (.int .i64 ((ys.take dLen).length : Int)) w' ∧ OwnI B w' v (xs.take off ++ ys.take dLen ++ xs.drop (off + (ys.take dLen).length)) ∧ Below B w w' := by
  subst hd
  obtain ⟨sp, sCap, rfl, hc1, h2, h3, h4⟩ := hu
  subst hdp
  cases sp with
  | none => have := h3 rfl; omega
  | some p =>
    rcases hown.2 with ⟨rfl, hn⟩ | ⟨g, cap, cur, rfl, hb, hg, hn, hm, hcs, ht⟩
    · omega
    · rw [valAt_row]
      obtain ⟨zs, hzs⟩ : ∃ zs, zs = ys.take dLen := ⟨_, rfl⟩
      have hzl : zs.length = Nat.min ys.length dLen := by rw [hzs, List.length_take, Nat.min_comm]
      have hzd : zs.length ≤ dLen := by rw [hzl]; exact Nat.min_le_right _ _
      rw [← hzs]
      have hsrc : ∀ j u, (zs.map (Value.int .i64))[j]? = some u → w.cell? (p.add j) = some u := by
        intro j u hj
        have hjl : j < zs.length := by have := (List.getElem?_eq_some_iff.1 hj).1; simpa using this
        have hjy : j < ys.length := by rw [hzl] at hjl; exact Nat.lt_of_lt_of_le hjl (Nat.min_le_left _ _)
        have := h4 j hjy
        simp only [valAt] at this
        rw [this, ← hj, List.getElem?_map, List.getElem?_eq_getElem hjl]
        simp [hzs]
      have hcl : cur.toList.length = cap := by rw [Array.length_toList, hcs]; omega
      have hr := run_copy_row (P := Tryz.prog) w 22 22 ty 3 g off dLen dCap p ys.length sCap cur 3 (zs.map (.int .i64)) uInts sizeInt1 hg (by rw [List.length_map]; exact hzl) hsrc (by rw [hcs, List.length_map]; omega) (ints_oneCell _ _)
      rw [show goInt (zs.map (Value.int .i64)).length = .int .i64 zs.length by rw [List.length_map]; rfl] at hr
      have hst : w.grownBy (w.setRow g (cur.toList.take off ++ zs.map (Value.int .i64) ++ cur.toList.drop (off + (zs.map (Value.int .i64)).length)).toArray) (some g) :=
        ⟨rfl, rfl, rfl, by simp, fun k _ hk => setRow_other w g k _ (fun e => hk (by simp [e]))⟩
      refine ⟨_, hr, ?_, (Below.refl _ _).grown hst (by have := (Array.getElem?_eq_some_iff.1 hg).1; omega) (by intro k hk; simp at hk; omega)⟩
      have hlen : (xs.take off ++ zs ++ xs.drop (off + zs.length)).length = xs.length := by simp; omega
      refine ⟨by simp, .inr ⟨g, cap, _, by rw [hlen], hb, setRow_heap w g cur _ _ _ hg, by rw [hlen]; exact hn, hm, ?_, ?_⟩⟩
      · simp only [List.size_toArray, List.length_append, List.length_take, List.length_drop, List.length_map, hcl]; omega
      · rw [hlen]
        have e := splice_take cur.toList (zs.map (Value.int .i64)) off xs.length (by rw [List.length_map]; omega) (by omega)
        rw [Nat.mul_one] at ht ⊢
        rw [e, ht]
        simp [List.map_take, List.map_drop]

/-- Some copies, zeros behind. -/
def reps (x : Int) (m n : Nat) : List Int := List.replicate m x ++ List.replicate (n - m) 0
theorem reps_len (x : Int) {m n : Nat} (h : m ≤ n) : (reps x m n).length = n := by simp [reps]; omega
theorem reps_full (x : Int) (n : Nat) : reps x n n = List.replicate n x := by simp [reps]
theorem reps_splice (x : Int) {m n k : Nat} (hk : m + k ≤ n) : (reps x m n).take m ++ List.replicate k x ++ (reps x m n).drop (m + k) = reps x (m + k) n := by
  unfold reps
  rw [List.take_left' (by simp), List.drop_append, List.drop_eq_nil_of_le (by simp), List.nil_append, List.length_replicate, List.drop_replicate, List.replicate_append_replicate]
  congr 2
  omega

theorem mul_any (x y : Nat) (hx : x < 100000) (hy : y < 100000) (w : World) :
    Calls Tryz.prog 127 #[.int .u64 x, .int .u64 y] w fun e w' => e = .returned (.tuple #[.int .u64 0, .int .u64 ((x * y : Nat) : Int)]) ∧ w = w' := by
  refine (Any.bits_Mul Tryz.laysMul x y (by omega) (by omega) w).mono ?_
  rintro e w' ⟨rfl, rfl⟩
  have h : x * y < 10000000000 := by
    calc x * y ≤ 99999 * 99999 := Nat.mul_le_mul (by omega) (by omega)
      _ < _ := by decide
  rw [Nat.div_eq_of_lt (by omega), Nat.mod_eq_of_lt (by omega)]
  exact ⟨rfl, rfl⟩

set_option maxHeartbeats 1000000 in
theorem repeat_any (v : Value) (x : Int) (n : Nat) (w : World) (h : IntsAt w v [x]) (hn : n ≤ 10000) :
    Calls Tryz.prog 84 #[v, .int .i64 n] w (Ret1 (fun u w' => OwnI w.heap.size w' u (List.replicate n x)) w) := by
  have hl := h.len
  obtain ⟨u, w1, hmk, hu, hb1⟩ := run_makeI (n : Int) n w rfl (by omega)
  have hM := mul_any 1 n (by omega) (by omega) w
  rw [Nat.one_mul] at hM
  replace hM := Lib.hid hM
  obtain ⟨ua, un, uc, rfl⟩ := hu.at.shape
  go_enter Tryz.func84, Tryz.ntmps84
  have hcp : ∃ w2, (Builtin.copy_ #[22, 22] 3 #[.slice ua un uc, v]).run Tryz.prog w1 = .ok (.int .i64 ((min 1 n : Nat) : Int)) w2 ∧ OwnI w.heap.size w2 (.slice ua un uc) (reps x (min 1 n) n) ∧ Below w.heap.size w1 w2 := by
    have hun : un = n := by
      obtain ⟨a, c, e, _⟩ := hu.at
      injection e with _ e _
      rw [e]; simp
    have hv := h.below hb1
    by_cases h0 : n = 0
    · subst h0; subst hun
      obtain ⟨sp, sc, rfl, _⟩ := hv
      refine ⟨w1, run_copy_none (P := Tryz.prog) w1 22 22 3 3 ua sp 0 uc 1 sc uInts sizeInt1 (by simp), ?_, Below.refl _ _⟩
      simpa [reps] using hu
    · subst hun
      have hva : ua = some (valAt (.slice ua un uc) 0) := by
        rcases hu.2 with ⟨e, hn0⟩ | ⟨g, cap, cur, e, _⟩
        · rw [List.length_replicate] at hn0; exact absurd hn0 h0
        · injection e with e1 e2 e3
          subst e1; rfl
      obtain ⟨w2, h1, h2, h3⟩ := run_copyMin (ys := [x]) 0 3 ua un uc hu hv rfl (by rw [List.length_replicate]; omega) (by omega) (by simp) hva
      have ht : ([x] : List Int).take un = [x] := List.take_of_length_le (by show 1 ≤ un; omega)
      rw [ht] at h1 h2
      refine ⟨w2, ?_, ?_, h3⟩
      · rw [h1, Nat.min_eq_left (by omega)]; rfl
      · rw [Nat.min_eq_left (by omega)]
        have e := reps_splice x (m := 0) (n := un) (k := 1) (by omega)
        have e2 : reps x 0 un = List.replicate un 0 := by simp [reps]
        rw [e2] at e
        rw [← e]
        exact h2
  obtain ⟨w2, hcp, ho2, hb2⟩ := hcp
  replace hu := Lib.hid hu
  replace ho2 := Lib.hid ho2
  have hb := Lib.hid (hb1.trans hb2)
  go_wp2_with fail
  refine hM.out.mono ?_
  rintro e w' ⟨rfl, rfl⟩
  go_wp2_with fail
  go_loopw [8] (fun mv wr => ∃ m : Nat, min 1 n ≤ m ∧ m ≤ n ∧ mv = .int .i64 m ∧ OwnI w.heap.size wr (.slice ua un uc) (reps x m n) ∧ Below w.heap.size w wr) (fun mv _ => n - (intOf mv).toNat)
  case atStart => exact ⟨min 1 n, Nat.le_refl _, Nat.min_le_right _ _, rfl, ho2.out, hb.out⟩
  case round =>
    obtain ⟨m, hm1, hm2, rfl, ho, hbr⟩ := hrel
    obtain ⟨wo, rfl⟩ : ∃ wo : World, wo = wr := ⟨_, rfl⟩
    have hl2 := ho.at.len
    rw [reps_len x hm2] at hl2
    by_cases hlt : m < n
    · have hm0 : 1 ≤ m := by omega
      obtain ⟨g, cap, cur, e, hgB, _, hnc, _⟩ : ∃ g cap cur, Value.slice ua un uc = .slice (some ⟨g, 0, none⟩) (reps x m n).length cap ∧ w.heap.size ≤ g ∧ wo.heap[g]? = some (.cells cur 3 (0, 0)) ∧ (reps x m n).length ≤ cap ∧ True := by
        rcases ho.2 with ⟨_, hn0⟩ | ⟨g, cap, cur, e, h1, h2, h3, _⟩
        · rw [reps_len x hm2] at hn0; omega
        · exact ⟨g, cap, cur, e, h1, h2, h3, trivial⟩
      rw [reps_len x hm2] at e hnc
      injection e with e1 e2 e3
      subst e1; subst e2; subst e3
      have hfull := Lib.hid hu
      clear hfull hu ho2 hcp hmk
      have hu2 := ho.at.pre m (by rw [reps_len x hm2]; exact hm2)
      have htk : (reps x m un).take m = List.replicate m x := by unfold reps; exact List.take_left' (by simp)
      rw [htk] at hu2
      obtain ⟨k, hk⟩ : ∃ k, k = ((List.replicate m x).take (un - m)).length := ⟨_, rfl⟩
      have hkk : k = min (un - m) m := by rw [hk]; simp
      have hkr : (List.replicate m x).take (un - m) = List.replicate k x := by rw [hkk, List.take_replicate]
      have hcp : ∀ W : World, OwnI w.heap.size W (.slice (some ⟨g, 0, none⟩) un uc) (reps x m un) → IntsAt W (.slice (some ⟨g, 0, none⟩) m uc) (List.replicate m x) → ∃ w2, (Builtin.copy_ #[22, 22] 3 #[.slice (some ⟨g, m, none⟩) (un - m) (uc - m), .slice (some ⟨g, 0, none⟩) m uc]).run Tryz.prog W = .ok (.int .i64 (k : Int)) w2 ∧ OwnI w.heap.size w2 (.slice (some ⟨g, 0, none⟩) un uc) (reps x (m + k) un) ∧ Below w.heap.size W w2 := by
        intro W hW hW2
        obtain ⟨w2, a, b, c⟩ := run_copyMin m 3 (some ⟨g, m, none⟩) (un - m) (uc - m) hW hW2 rfl (by rw [reps_len x hm2]; omega) (by omega) (by rw [List.length_replicate]; omega) (by rw [valAt_row])
        rw [← hk] at a b
        rw [hkr, reps_splice x (by omega)] at b
        exact ⟨w2, a, b, c⟩
      obtain ⟨w3, hc3, ho3, hb3⟩ := hcp wo.drew ho hu2
      have hwr : IntKind.i64.wrap ((m : Int) + (k : Int)) = (m : Int) + k := wrapK (by omega) (by omega)
      have hb4 : Below w.heap.size w w3 := hbr.drew.trans hb3
      have hk1 : 1 ≤ k := by omega
      have hk2 : m + k ≤ un := by omega
      have hsl1 : (0 ≤ (m : Int) ∧ (m : Int) ≤ (un : Int)) := ⟨by omega, by omega⟩
      have hsl2 : (0 ≤ (m : Int) ∧ (m : Int) ≤ (uc : Int)) := ⟨by omega, by omega⟩
      have hmc : ¬ uc = m := by omega
      replace ho3 := Lib.hid ho3
      replace ho := Lib.hid ho
      clear hcp hu2 htk hk hkr hkk
      go_upto_region 9 with fail
      refine wp_region_plan (fun _ => True) 9 [(0, true), (1, true), (2, true), (3, true), (4, true), (5, true), (6, true), (7, false), (8, true)] (by kernel_rfl) (by kernel_rfl) ?_
      have hS := trivial
      refine headY (v := ?_) (some 38) rfl rfl (Or.inl ⟨by rfl, ?_⟩) hS ?_
      rotate_left
      · rintro W' _; go_simp; try with_reducible rfl
      simp only [Act.put, List.setIfInBounds_toArray, List.set_cons_zero, List.set_cons_succ]
      refine headY (v := ?_) (some 39) rfl rfl (Or.inl ⟨by rfl, ?_⟩) hS ?_
      rotate_left
      · rintro W' _; go_simp; try with_reducible rfl
      simp only [Act.put, List.setIfInBounds_toArray, List.set_cons_zero, List.set_cons_succ]
      refine headY (v := ?_) (some 40) rfl rfl (Or.inl ⟨by rfl, ?_⟩) hS ?_
      rotate_left
      · rintro W' _; go_simp; try with_reducible rfl
      simp only [Act.put, List.setIfInBounds_toArray, List.set_cons_zero, List.set_cons_succ]
      refine headY (v := ?_) (some 41) rfl rfl (Or.inl ⟨by rfl, ?_⟩) hS ?_
      rotate_left
      · rintro W' _; go_simp; try with_reducible rfl
      simp only [Act.put, List.setIfInBounds_toArray, List.set_cons_zero, List.set_cons_succ]
      refine headY (v := ?_) (some 42) rfl rfl (Or.inl ⟨by rfl, ?_⟩) hS ?_
      rotate_left
      · rintro W' _; go_simp; try with_reducible rfl
      simp only [Act.put, List.setIfInBounds_toArray, List.set_cons_zero, List.set_cons_succ]
      refine headY (v := ?_) (some 43) rfl rfl (Or.inl ⟨by rfl, ?_⟩) hS ?_
      rotate_left
      · rintro W' _; go_simp; try with_reducible rfl
      simp only [Act.put, List.setIfInBounds_toArray, List.set_cons_zero, List.set_cons_succ]
      refine headY (v := ?_) (some 44) rfl rfl (Or.inl ⟨by rfl, ?_⟩) hS ?_
      rotate_left
      · rintro W' _; go_simp; try with_reducible rfl
      simp only [Act.put, List.setIfInBounds_toArray, List.set_cons_zero, List.set_cons_succ]
      refine headC rfl (fun KK hK => ?_)
      -- CALL 7 slot (some 45)
      go_simp
      refine hK _ _ hS ?_
      clear hK KK
      refine headY (v := ?_) (some 46) rfl rfl (Or.inl ⟨by rfl, ?_⟩) hS ?_
      rotate_left
      · rintro W' _; go_simp; try with_reducible rfl
      simp only [Act.put, List.setIfInBounds_toArray, List.set_cons_zero, List.set_cons_succ]
      refine head0 ?_
      simp only [List.drop_succ_cons, List.drop_zero]
      go_wp2
      refine NoPanic.normal ?_
      go_wp2
      go_round
      case measure => simp [intOf]; omega
      case rel => exact ⟨m + k, by omega, hk2, by go_num, ho3.out, hb4⟩
    · obtain rfl : m = n := by omega
      rw [reps_full] at ho
      replace ho := Lib.hid ho
      go_wp2
      go_ret
      exact ⟨_, rfl, hbr, ho.out⟩
end Go.Proofs.YtilpckngghffoaaGreatDoor

namespace Go.Proofs.YtilpckngghffoaaGreatDoor
open Go.RowKit
set_option maxRecDepth 100000

/-- Plain numbers as ints. -/
def castI (l : List Nat) : List Int := l.map fun (x : Nat) => (x : Int)
theorem castI_len (l : List Nat) : (castI l).length = l.length := by simp [castI]
theorem castI_snoc (l : List Nat) (x : Nat) : castI (l ++ [x]) = castI l ++ [(x : Int)] := by simp [castI]
theorem castI_get {l : List Nat} {i x : Nat} (h : l[i]? = some x) : (castI l).getD i 0 = (x : Int) := by simp [castI, List.getD, h]
theorem castI_reverse (l : List Nat) : castI l.reverse = (castI l).reverse := by simp [castI]
theorem nodup_len : ∀ (n : Nat) (l : List Nat), l.Nodup → (∀ x ∈ l, x < n) → l.length ≤ n
  | 0, l, _, h => by
    cases l with
    | nil => exact Nat.le_refl _
    | cons a l => have := h a List.mem_cons_self; omega
  | n + 1, l, hn, h => by
    have hsub := nodup_len n (l.erase n) (hn.erase n) (fun x hx => by
      have h1 := h x (List.mem_of_mem_erase hx)
      have h2 : x ≠ n := fun e => by subst e; exact (List.Nodup.not_mem_erase hn) hx
      omega)
    have : l.length ≤ (l.erase n).length + 1 := by
      by_cases hm : n ∈ l
      · have := List.length_erase_of_mem hm; omega
      · rw [List.erase_of_not_mem hm]; omega
    omega
/-- The arrows from the least on, as plain numbers. -/
def srtN (l : List Int) : List Nat := (srt l).map Int.toNat
theorem srt_mem (l : List Int) (x : Int) : x ∈ srt l ↔ x ∈ l := by unfold srt; exact (List.mergeSort_perm l _).mem_iff
theorem srt_sorted (l : List Int) : (srt l).Pairwise (· ≤ ·) := by
  have := List.pairwise_mergeSort (le := fun (x y : Int) => decide (x ≤ y)) (fun a b c h1 h2 => by simp at *; omega) (fun a b => by simp; omega) l
  unfold srt
  exact this.imp (fun h => by simpa using h)
theorem srtN_sorted (l : List Int) (hp : ∀ x ∈ l, 0 ≤ x) : (srtN l).Pairwise (· ≤ ·) := by
  unfold srtN
  rw [List.pairwise_map]
  refine (srt_sorted l).imp_of_mem fun {a b} ha hb h => ?_
  have := hp a ((srt_mem l a).1 ha)
  omega
theorem srtN_mem (l : List Int) (t : Nat) : t ∈ srtN l ↔ t ∈ l.map Int.toNat := by
  unfold srtN
  simp only [List.mem_map, srt_mem]
theorem srtN_len (l : List Int) : (srtN l).length = l.length := by simp [srtN, srt_length]
theorem srtN_get (l : List Int) (hp : ∀ x ∈ l, 0 ≤ x) (j : Nat) (hj : j < l.length) : (srt l).getD j 0 = ((srtN l).getD j 0 : Int) := by
  have hj' : j < (srt l).length := by rw [srt_length]; exact hj
  have h0 := hp _ ((srt_mem l _).1 (List.getElem_mem hj'))
  simp only [srtN, List.getD_eq_getElem?_getD, List.getElem?_map, List.getElem?_eq_getElem hj', Option.map_some, Option.getD_some]
  omega

theorem tabI_neg1 (n : Nat) : tabI n (fun _ => -1) = List.replicate n (-1) := by
  unfold tabI; apply List.ext_getElem <;> simp
theorem rowsE (B : Nat) (w : World) : Rows B w (fun _ => none) := ⟨fun _ _ h => (by cases h), fun _ _ _ _ h => (by cases h)⟩
/-- What first leaves. -/
def FirstPost (w : World) (adj : Nat → List Nat) (a b : Nat) (x : Value) (w' : World) : Prop :=
  (∃ u, IsFirst adj a b u ∧ OwnI w.heap.size w' x (castI u)) ∨ (¬ Goes adj a b ∧ x = .slice none 0 0)
/-- The search's memory. -/
structure FN (f : Names) (cv qv : Value) (n : Nat) (came : Nat → Int) (q : List Nat) : Prop where
  came : f (1, 0) = some (rowI cv (tabI n came))
  queue : f (2, 0) = some (rowI qv (castI q))
section
variable {B : Nat} {w : World} {f : Names} {cv qv : Value} {n : Nat} {came : Nat → Int} {q : List Nat}
theorem FN.congr {f' : Names} (h : FN f cv qv n came q) (e1 : f' (1, 0) = f (1, 0)) (e2 : f' (2, 0) = f (2, 0)) : FN f' cv qv n came q := ⟨e1.trans h.came, e2.trans h.queue⟩
/-- came[t] = v. -/
theorem FN.set (h : FN f cv qv n came q) (hr : Rows B w f) (t : Nat) (ht : t < n) (v : Int) : ∃ f', Rows B (w.setCell (valAt cv t) (.int .i64 v)) f' ∧ FN f' cv qv n (updN came t v) q ∧ ∀ i, i ≠ (1, 0) → f' i = f i := by
  have hs := hr.setI h.came t (by rw [tabI_len]; exact ht) v
  rw [tabI_upd] at hs
  exact ⟨_, hs, ⟨upd_same _ _ _, by rw [upd_ne _ _ (by simp)]; exact h.queue⟩, fun i hi => upd_ne _ _ hi⟩
/-- queue = append(queue, t). -/
theorem FN.push (h : FN f cv qv n came q) (hr : Rows B w f) {w1 : World} {qv' : Value} (t : Nat) (ho : OwnI B w1 qv' (castI q ++ [(t : Int)]))
    (hal : (roomOf qv' = roomOf qv ∧ w.grownBy w1 qv.ownBlock) ∨ (∃ k, qv'.ownBlock = some k ∧ w.heap.size ≤ k ∧ w.grownBy w1 none)) : ∃ f', Rows B w1 f' ∧ FN f' cv qv' n came (q ++ [t]) ∧ ∀ i, i ≠ (2, 0) → f' i = f i := by
  have hO := hr.ownI h.queue
  have hg : w.grownBy w1 qv.ownBlock := grown_via (hal.imp (·.2) (fun ⟨_, _, _, q⟩ => q))
  have hob : qv'.ownBlock = qv.ownBlock ∨ ∃ k, qv'.ownBlock = some k ∧ w.heap.size ≤ k := by
    rcases hal with ⟨q, _⟩ | ⟨k, h1, h2, _⟩
    · obtain ⟨a1, n1, c1, e1⟩ := hO.at.shape
      obtain ⟨a2, n2, c2, e2⟩ := ho.at.shape
      exact .inl (ownBlock_of_room e1 e2 q)
    · exact .inr ⟨k, h1, h2⟩
  exact ⟨_, hr.grown (r' := rowI qv' (castI q ++ [(t : Int)])) h.queue hg ho hob, ⟨by rw [upd_ne _ _ (by simp)]; exact h.came, by rw [upd_same, castI_snoc]⟩, fun i hi => upd_ne _ _ hi⟩
end

set_option maxHeartbeats 4000000 in
theorem first_any (na : Option Addr) (nc : Nat) (G : List (List Int)) (a b : Nat) (w : World) (h : ListsAt w (.slice na G.length nc) G) (hok : GraphOk G) (hn : G.length ≤ 8200) (ha : a < G.length) (hb : b < G.length) (hsz : ∀ k, k < G.length → (G.getD k []).length ≤ 17592186044416) :
    Calls Tryz.prog 140 #[.slice na G.length nc, .int .i64 a, .int .i64 b] w (Ret1 (FirstPost w (adjOf G) a b) w) := by
  have b0 := belowAlloc w (.cells #[.int .i64 (-1)] 3)
  have hI := (OwnI.lit w.heap.size w (Nat.le_refl _) [-1] (by simp [maxLen]) #[.int .i64 (-1)] rfl 1 rfl).at
  have hRep := repeat_any _ (-1) G.length _ hI (by omega)
  have hinit := BBase.init (adjOf G) a
  replace hI := Lib.hid hI
  replace h := Lib.hid h
  replace hok := Lib.hid hok
  replace hsz := Lib.hid hsz
  replace hinit := Lib.hid hinit
  replace hRep := Lib.hid hRep
  go_enter Tryz.func140, Tryz.ntmps140
  go_wp2_with fail
  refine hRep.out.mono ?_
  rintro e w1 ⟨cv, rfl, b1, hcv⟩
  obtain ⟨w0, hw0⟩ : ∃ w0 : World, w0 = w.alloc (.cells #[.int .i64 (-1)] 3) := ⟨_, rfl⟩
  rw [← hw0] at b0 b1 hcv
  rw [← tabI_neg1] at hcv
  clear hRep hI hw0
  have b01 := Below.step b0 b1
  have R1 := (rowsE w.heap.size w0).add (i := (1, 0)) (r' := rowI cv (tabI G.length fun _ => -1)) b1 (hcv.mono b0.size) (fun k hk => (hcv.lt k hk).1)
  have iA := fun w' => hcv.at.idx a (by rw [tabI_len]; exact ha) w'
  have cA := hcv.at.cellD a (by rw [tabI_len]; exact ha)
  have fA := hcv.frz a (by rw [tabI_len]; exact ha)
  have kA := (hcv.toV.blkB a (by rw [List.length_map, tabI_len]; exact ha)).2
  have R2 := R1.setI (upd_same _ _ _) a (by rw [tabI_len]; exact ha) (a : Int)
  rw [tabI_upd] at R2
  have b2 : Below w.heap.size w (w1.setCell (valAt cv a) (.int .i64 (a : Int))) := b01.setCell (Nat.le_trans b0.size kA) _
  generalize valAt cv a = ca at *
  generalize (tabI G.length fun _ => -1).getD a 0 = oa at cA
  obtain ⟨W2, hW2⟩ : ∃ W2 : World, W2 = w1.setCell ca (.int .i64 (a : Int)) := ⟨_, rfl⟩
  rw [← hW2] at R2 b2
  replace R2 := Lib.hid R2
  replace R1 := Lib.hid R1
  replace hcv := Lib.hid hcv
  go_upto_region 3 with fail
  rw [← hW2]
  clear hW2 iA cA fA
  have hB2 := b2.size
  have hal2 := belowAlloc W2 (.cells #[.int .i64 (a : Int)] 3)
  have hq2 := OwnI.lit W2.heap.size W2 (Nat.le_refl _) [(a : Int)] (by simp [maxLen]) #[.int .i64 (a : Int)] rfl 1 rfl
  have R3 := R2.out.add (i := (2, 0)) (r' := rowI (.slice (some ⟨W2.heap.size, 0, none⟩) 1 1) [(a : Int)]) hal2 (hq2.mono hB2) (fun k hk => (hq2.lt k hk).1)
  have b3 := b2.trans (hal2.mono hB2)
  obtain ⟨W3, hW3⟩ : ∃ W3 : World, W3 = W2.alloc (.cells #[.int .i64 (a : Int)] 3) := ⟨_, rfl⟩
  rw [← hW3] at R3 b3
  obtain ⟨q2, hq2e⟩ : ∃ q2, q2 = W2.heap.size := ⟨_, rfl⟩
  rw [← hq2e] at R3
  have hF0 : FN (upd (upd (upd (fun _ => none) (1, 0) (some (rowI cv (tabI G.length fun _ => -1)))) (1, 0) (some (rowI cv (tabI G.length (updN (fun _ => (-1 : Int)) a (a : Int)))))) (2, 0) (some (rowI (.slice (some ⟨q2, 0, none⟩) 1 1) [(a : Int)]))) cv (.slice (some ⟨q2, 0, none⟩) 1 1) G.length (updN (fun _ => (-1 : Int)) a (a : Int)) [a] :=
    ⟨by rw [upd_ne _ _ (by simp), upd_same], by rw [upd_same]; rfl⟩
  replace R3 := Lib.hid R3
  replace hq2 := Lib.hid hq2
  go_wp2_with fail
  rw [← hW3, ← hq2e]
  clear hW3 hq2e R2 R1 hal2 hq2
  go_loopw [8, 9] (fun qv iv wr => ∃ (i : Nat) (came : Nat → Int) (q : List Nat) (par dist : Nat → Nat) (f' : Names) (qw : Value), qw = qv ∧ iv = .int .i64 i ∧ i ≤ q.length ∧ Rows w.heap.size wr f' ∧ Below w.heap.size w wr ∧ FN f' cv qw G.length came q ∧ BOut (adjOf G) a came q par dist i ∧ ∀ x ∈ q, x < G.length) (fun _ iv _ => G.length + 1 - (intOf iv).toNat)
  case atStart => exact ⟨0, _, [a], _, _, _, _, rfl, rfl, by omega, R3.out, b3, hF0, hinit.out, fun x hx => by cases List.mem_singleton.1 hx; exact ha⟩
  case round =>
    obtain ⟨i, came, q, par, dist, f1, qv, rfl, rfl, hi, hr1, b1', h1, hO, hqn⟩ := hrel
    obtain ⟨wo, rfl⟩ : ∃ wo : World, wo = wr := ⟨_, rfl⟩
    have hql := nodup_len G.length q hO.nodup hqn
    have hOQ := hr1.ownI h1.queue
    have lQ := hOQ.at.len
    rw [castI_len] at lQ
    have hOC := hr1.ownI h1.came
    have iB := fun w' => hOC.at.idx b (by rw [tabI_len]; exact hb) w'
    have cB := hOC.at.cellD b (by rw [tabI_len]; exact hb)
    rw [tabI_get _ _ _ hb] at cB
    generalize valAt cv b = pb at *
    obtain ⟨cb, hcb⟩ : ∃ cb, came b = cb := ⟨_, rfl⟩
    rw [hcb] at cB
    by_cases hil : i < q.length
    · by_cases hneg : cb < 0
      · obtain ⟨v, hv⟩ : ∃ v, q[i]? = some v := ⟨_, List.getElem?_eq_getElem hil⟩
        have hvn := hqn v (List.mem_of_getElem? hv)
        have iV := fun w' => hOQ.at.idx i (by rw [castI_len]; exact hil) w'
        have cV := hOQ.at.cellD i (by rw [castI_len]; exact hil)
        rw [castI_get hv] at cV
        obtain ⟨mv, iR, cR, hM⟩ := (h.out.below (b1' : Below w.heap.size w wo)).row v hvn
        have hgx := hsz.out v hvn
        have hgp : ∀ x ∈ G.getD v [], 0 ≤ x ∧ x < G.length := hok.out v hvn
        have hadj : adjOf G v = (G.getD v []).map Int.toNat := rfl
        generalize G.getD v [] = gx at *
        obtain ⟨ma, mn, mc, rfl⟩ := hM.shape
        generalize valAt qv i = qa at *
        generalize valAt (.slice na G.length nc) v = ra at *
        replace hcb := Lib.hid hcb
        replace hr1 := Lib.hid hr1
        replace hOQ := Lib.hid hOQ
        replace hOC := Lib.hid hOC
        replace hM := Lib.hid hM
        replace hO := Lib.hid hO
        replace hqn := Lib.hid hqn
        replace hgp := Lib.hid hgp
        replace hadj := Lib.hid hadj
        replace hv := Lib.hid hv
        go_wp2_with fail
        refine (vals_any ma mn mc _).mono ?_
        rintro e w2 ⟨rfl, rfl⟩
        have hbv := belowAlloc wo (.cells #[.slice ma mn mc] 22)
        clear iB cB iV cV iR cR
        go_wp2_with fail
        refine (sorted_any wo.heap.size (.slice ma mn mc) gx hgx _ (by simp) (by simp) (hM.out.below hbv)).mono ?_
        rintro e w3 ⟨lv, rfl, b3', hL⟩
        have b4 : Below wo.heap.size wo w3 := hbv.trans (b3'.mono hbv.size)
        have hBo : w.heap.size ≤ wo.heap.size := b1'.size
        have R4 := hr1.out.add (i := (3, 0)) (r' := rowI lv (srt gx)) b4 (hL.mono (Nat.le_trans hBo hbv.size)) (fun k hk => Nat.le_trans hbv.size (hL.lt k hk).1)
        have h4 : FN (upd f1 (3, 0) (some (rowI lv (srt gx)))) cv qv G.length came q := h1.congr (upd_ne _ _ (by simp)) (upd_ne _ _ (by simp))
        have e4 : upd f1 (3, 0) (some (rowI lv (srt gx))) (3, 0) = some (rowI lv (srt gx)) := upd_same _ _ _
        have b5 := b1'.trans (b4.mono hBo)
        have hIn := hO.out.enter hv.out (l := (srtN gx).drop 0) (fun t => by rw [List.drop_zero, hadj.out]; exact srtN_mem gx t) (by rw [List.drop_zero]; exact srtN_sorted gx fun x hx => (hgp.out x hx).1)
        have lL := hL.at.len
        have hsl : (srt gx).length = gx.length := srt_length gx
        generalize upd f1 (3, 0) (some (rowI lv (srt gx))) = f4 at *
        replace R4 := Lib.hid R4
        replace hIn := Lib.hid hIn
        replace hL := Lib.hid hL
        replace e4 := Lib.hid e4
        go_wp2_with fail
        clear lL lQ
        go_loopw [8, 49] (fun qv jv wr => ∃ (j : Nat) (came : Nat → Int) (q : List Nat) (par dist : Nat → Nat) (f' : Names) (qw : Value), qw = qv ∧ jv = .int .i64 j ∧ j ≤ gx.length ∧ Rows w.heap.size wr f' ∧ Below w.heap.size w wr ∧ FN f' cv qw G.length came q ∧ f' (3, 0) = some (rowI lv (srt gx)) ∧ BIn (adjOf G) a came q par dist i v ((srtN gx).drop j) ∧ ∀ x ∈ q, x < G.length) (fun _ jv _ => gx.length - (intOf jv).toNat)
        case atStart => exact ⟨0, came, q, par, dist, f4, qv, rfl, rfl, by omega, R4.out, b5, h4, e4.out, hIn.out, hqn.out⟩
        case round =>
          clear hIn R4 e4 h4 b5 h1 hi hil hO hqn hv hOQ hOC hneg hcb
          obtain ⟨j, came, q, par, dist, f4, qv, rfl, rfl, hj, hr4, b5, h4, e4, hIn, hqn⟩ := hrel
          obtain ⟨wo, rfl⟩ : ∃ wo : World, wo = wr := ⟨_, rfl⟩
          have hOL := hr4.ownI e4
          have lL := hOL.at.len
          rw [hsl] at lL
          by_cases hjl : j < gx.length
          · have hjs : j < (srtN gx).length := by rw [srtN_len]; exact hjl
            obtain ⟨t, ht⟩ : ∃ t, (srtN gx)[j]? = some t := ⟨_, List.getElem?_eq_getElem hjs⟩
            have htd : (srtN gx).getD j 0 = t := by simp [List.getD, ht]
            have hdr : (srtN gx).drop j = t :: (srtN gx).drop (j + 1) := by
              rw [List.drop_eq_getElem_cons hjs]
              rw [List.getElem?_eq_getElem hjs] at ht
              injection ht with ht
              rw [ht]
            have htn : t < G.length := by
              have hm := (srtN_mem gx t).1 (List.mem_of_getElem? ht)
              obtain ⟨x, hx, rfl⟩ := List.mem_map.1 hm
              have := hgp.out x hx
              omega
            have iT := fun w' => hOL.at.idx j (by rw [hsl]; exact hjl) w'
            have cT := hOL.at.cellD j (by rw [hsl]; exact hjl)
            rw [srtN_get gx (fun x hx => (hgp.out x hx).1) j hjl, htd] at cT
            rw [hdr] at hIn
            have hOC := hr4.ownI h4.came
            have iC := fun w' => hOC.at.idx t (by rw [tabI_len]; exact htn) w'
            have cC := hOC.at.cellD t (by rw [tabI_len]; exact htn)
            rw [tabI_get _ _ _ htn] at cC
            have fC := hOC.frz t (by rw [tabI_len]; exact htn)
            have kC := (hOC.toV.blkB t (by rw [List.length_map, tabI_len]; exact htn)).2
            obtain ⟨f5, hr5, h5, k5⟩ := h4.set hr4 t htn (v : Int)
            have e5 : f5 (3, 0) = some (rowI lv (srt gx)) := (k5 _ (by simp)).trans e4
            have b6 : Below w.heap.size w (wo.setCell (valAt cv t) (.int .i64 (v : Int))) := b5.setCell kC _
            generalize valAt lv j = la at *
            generalize valAt cv t = ta at *
            obtain ⟨ct, hct⟩ : ∃ ct, came t = ct := ⟨_, rfl⟩
            rw [hct] at cC
            by_cases htc : ct < 0
            · have hadd := hIn.add (by rw [hct]; exact htc)
              have hqn2 : ∀ x ∈ q ++ [t], x < G.length := fun x hx => by
                rcases List.mem_append.1 hx with hx | hx
                · exact hqn x hx
                · cases List.mem_singleton.1 hx; exact htn
              have hql2 := nodup_len G.length q hIn.base.nodup hqn
              replace hadd := Lib.hid hadd
              replace hqn2 := Lib.hid hqn2
              replace hIn := Lib.hid hIn
              replace hqn := Lib.hid hqn
              replace hr4 := Lib.hid hr4
              replace hr5 := Lib.hid hr5
              replace hOC := Lib.hid hOC
              replace hOL := Lib.hid hOL
              replace hct := Lib.hid hct
              replace hdr := Lib.hid hdr
              replace htd := Lib.hid htd
              replace ht := Lib.hid ht
              replace k5 := Lib.hid k5
              replace e4 := Lib.hid e4
              replace e5 := Lib.hid e5
              go_upto_region 13 with fail
              obtain ⟨W5, hW5⟩ : ∃ W5 : World, W5 = wo.setCell ta (.int .i64 (v : Int)) := ⟨_, rfl⟩
              rw [← hW5]
              rw [← hW5] at hr5 b6
              clear hW5 iT cT iC cC fC lL
              have hOQ5 := hr5.out.ownI h5.queue
              have hB5 : w.heap.size ≤ W5.heap.size := b6.size
              go_wp2_with (at_builtin; refine wpl_app1 rfl _ _ rfl w.heap.size qv (castI q) t hOQ5 rfl rfl (by rw [castI_len]; omega) hB5 ?_)
              intro qv' w7 ho7 b7 hal7
              obtain ⟨f7, hr7, h7, k7⟩ := h5.push hr5.out t ho7 hal7
              replace hr7 := Lib.hid hr7
              replace ho7 := Lib.hid ho7
              replace k7 := Lib.hid k7
              clear hal7
              go_wp2
              go_roundw
              case measure => simp [intOf]; omega
              case rel => exact ⟨j + 1, _, _, _, _, f7, qv', rfl, by go_num, by omega, hr7.out, b6.trans b7, h7, (k7.out _ (by simp)).trans e5.out, hadd.out, hqn2.out⟩
            · have hold := hIn.old (by rw [hct]; omega)
              replace hold := Lib.hid hold
              replace hIn := Lib.hid hIn
              replace hqn := Lib.hid hqn
              replace hr4 := Lib.hid hr4
              replace hr5 := Lib.hid hr5
              replace hOC := Lib.hid hOC
              replace hOL := Lib.hid hOL
              replace hct := Lib.hid hct
              replace hdr := Lib.hid hdr
              replace htd := Lib.hid htd
              replace ht := Lib.hid ht
              replace k5 := Lib.hid k5
              replace e4 := Lib.hid e4
              replace e5 := Lib.hid e5
              go_wp2
              go_roundw
              case measure => simp [intOf]; omega
              case rel => exact ⟨j + 1, came, q, par, dist, f4, qv, rfl, by go_num, by omega, hr4.out, b5, h4, e4.out, hold.out, hqn.out⟩
          · obtain rfl : j = gx.length := by omega
            rw [List.drop_eq_nil_of_le (by rw [srtN_len]; exact Nat.le_refl _)] at hIn
            have hOut := hIn.leave
            have hil := get_of hIn.cur
            have hql2 := nodup_len G.length q hIn.base.nodup hqn
            replace hOut := Lib.hid hOut
            replace hIn := Lib.hid hIn
            replace hqn := Lib.hid hqn
            replace hr4 := Lib.hid hr4
            replace hOL := Lib.hid hOL
            replace e4 := Lib.hid e4
            go_wp2
            go_roundw
            case measure => simp [intOf]; omega
            case rel => exact ⟨i + 1, came, q, par, dist, f4, qv, rfl, by go_num, by omega, hr4.out, b5, h4, hOut.out, hqn.out⟩
      · have hcb0 : ¬ came b < 0 := by rw [hcb]; exact hneg
        have hbq := (hO.cameIff b).1 (by omega)
        obtain ⟨k0, hk0⟩ := List.mem_iff_getElem?.1 hbq
        have hlit := OwnI.lit wo.heap.size wo (Nat.le_refl _) [(b : Int)] (by simp [maxLen]) #[.int .i64 (b : Int)] rfl 1 rfl
        have halw := belowAlloc wo (.cells #[.int .i64 (b : Int)] 3)
        have hBo : w.heap.size ≤ wo.heap.size := b1'.size
        have R8 := hr1.add (i := (4, 0)) (r' := rowI (.slice (some ⟨wo.heap.size, 0, none⟩) 1 1) (castI [b].reverse)) halw (hlit.mono hBo) (fun k hk => (hlit.lt k hk).1)
        have b8 := b1'.trans (halw.mono hBo)
        have hcame8 : (upd f1 (4, 0) (some (rowI (.slice (some ⟨wo.heap.size, 0, none⟩) 1 1) (castI [b].reverse)))) (1, 0) = some (rowI cv (tabI G.length came)) := (upd_ne _ _ (by simp)).trans h1.came
        have hway8 := upd_same f1 (4, 0) (some (rowI (.slice (some ⟨wo.heap.size, 0, none⟩) 1 1) (castI [b].reverse)))
        generalize upd f1 (4, 0) (some (rowI (.slice (some ⟨wo.heap.size, 0, none⟩) 1 1) (castI [b].reverse))) = f8 at *
        obtain ⟨W8, hW8⟩ : ∃ W8 : World, W8 = wo.alloc (.cells #[.int .i64 (b : Int)] 3) := ⟨_, rfl⟩
        obtain ⟨s8, hs8⟩ : ∃ s8, s8 = wo.heap.size := ⟨_, rfl⟩
        rw [← hW8] at R8 b8
        rw [← hs8] at hway8
        have htree : Tree came q (adjOf G) b b [b] := .one b hbq
        replace hcb := Lib.hid hcb
        replace hr1 := Lib.hid hr1
        replace hOQ := Lib.hid hOQ
        replace hOC := Lib.hid hOC
        replace hO := Lib.hid hO
        replace hqn := Lib.hid hqn
        replace hlit := Lib.hid hlit
        replace R8 := Lib.hid R8
        replace hk0 := Lib.hid hk0
        replace hcame8 := Lib.hid hcame8
        replace hway8 := Lib.hid hway8
        replace htree := Lib.hid htree
        clear halw
        go_wp2_with fail
        rw [← hW8, ← hs8]
        clear hW8 hs8 iB cB lQ
        go_loopg [13, 14] k0 (fun k wv vv wr => ∃ (x : Nat) (u : List Nat) (f' : Names) (ww : Value), ww = wv ∧ vv = .int .i64 x ∧ q[k]? = some x ∧ Tree came q (adjOf G) x b u ∧ Rows w.heap.size wr f' ∧ Below w.heap.size w wr ∧ f' (1, 0) = some (rowI cv (tabI G.length came)) ∧ f' (4, 0) = some (rowI ww (castI u.reverse)) ∧ u.length ≤ G.length + 1 - k)
        case atStart => exact ⟨b, [b], f8, _, rfl, rfl, hk0.out, htree.out, R8.out, b8, hcame8.out, hway8.out, by have := get_of hk0.out; simp only [List.length_cons, List.length_nil]; omega⟩
        case round =>
          clear R8 b8 hcame8 hway8 htree hk0
          obtain ⟨x, u, f9, wv, rfl, rfl, hk, hT, hr9, b9, hc9, hw9, hul⟩ := hrel
          obtain ⟨wo, rfl⟩ : ∃ wo : World, wo = wr := ⟨_, rfl⟩
          obtain ⟨k, rfl⟩ : ∃ k : Nat, k = gk := ⟨_, rfl⟩
          have hxn := hqn.out x (List.mem_of_getElem? hk)
          have hkl := get_of hk
          by_cases hxa : x = a
          · subst hxa
            have hfirst := hO.out.first hT
            have hOW := hr9.ownI hw9
            have hrev := reverse_own w.heap.size wv (castI u.reverse) wo hOW (by rw [castI_len, List.length_reverse]; omega)
            have hrr : (castI u.reverse).reverse = castI u := by rw [castI_reverse, List.reverse_reverse]
            rw [hrr] at hrev
            replace hrev := Lib.hid hrev
            replace hfirst := Lib.hid hfirst
            replace hT := Lib.hid hT
            replace hr9 := Lib.hid hr9
            replace hOW := Lib.hid hOW
            replace hc9 := Lib.hid hc9
            replace hw9 := Lib.hid hw9
            replace hk := Lib.hid hk
            replace hrr := Lib.hid hrr
            go_wp2_with fail
            refine hrev.out.mono ?_
            rintro e w10 ⟨rfl, ho10, b10⟩
            replace ho10 := Lib.hid ho10
            go_wp2
            go_ret
            exact ⟨_, rfl, b9.trans b10, .inl ⟨u, hfirst.out, ho10.out⟩⟩
          · have hk1 : 0 < k := by
              by_cases e : 0 < k
              · exact e
              · obtain rfl : k = 0 := by omega
                have := hO.out.hd
                rw [hk] at this
                injection this with this
                exact absurd this hxa
            obtain ⟨p1, p2, p, p3, p4, p5, p6⟩ := hO.out.parLt k x hk1 hk
            have hT2 := Tree.cons _ _ p3 hk hk1 p4 hT
            have hpn := hqn.out p (List.mem_of_getElem? p3)
            have hne : ((x : Int) != (a : Int)) = true := by rw [bne_iff_ne]; omega
            have hOC9 := hr9.ownI hc9
            have iX := fun w' => hOC9.at.idx x (by rw [tabI_len]; exact hxn) w'
            have cX := hOC9.at.cellD x (by rw [tabI_len]; exact hxn)
            rw [tabI_get _ _ _ hxn, p4] at cX
            have hOW := hr9.ownI hw9
            have hB9 : w.heap.size ≤ wo.heap.size := b9.size
            have hlu : (castI u.reverse).length < 4398046511104 := by rw [castI_len, List.length_reverse]; omega
            have hgrow := fun (w' : World) (wv' : Value) (ho : OwnI w.heap.size w' wv' (castI u.reverse ++ [(p : Int)])) (hal : (roomOf wv' = roomOf wv ∧ wo.grownBy w' wv.ownBlock) ∨ (∃ k, wv'.ownBlock = some k ∧ wo.heap.size ≤ k ∧ wo.grownBy w' none)) => show ∃ f', Rows w.heap.size w' f' ∧ f' (1, 0) = some (rowI cv (tabI G.length came)) ∧ f' (4, 0) = some (rowI wv' (castI (p :: u).reverse)) from by
              have hg : wo.grownBy w' wv.ownBlock := grown_via (hal.imp (·.2) (fun ⟨_, _, _, q⟩ => q))
              have hob : wv'.ownBlock = wv.ownBlock ∨ ∃ k, wv'.ownBlock = some k ∧ wo.heap.size ≤ k := by
                rcases hal with ⟨q, _⟩ | ⟨k, h1, h2, _⟩
                · obtain ⟨a1, n1, c1, e1⟩ := hOW.at.shape
                  obtain ⟨a2, n2, c2, e2⟩ := ho.at.shape
                  exact .inl (ownBlock_of_room e1 e2 q)
                · exact .inr ⟨k, h1, h2⟩
              exact ⟨_, hr9.grown (r' := rowI wv' (castI u.reverse ++ [(p : Int)])) hw9 hg ho hob, by rw [upd_ne _ _ (by simp)]; exact hc9, by rw [upd_same, List.reverse_cons, castI_snoc]⟩
            generalize valAt cv x = xa at *
            replace hgrow := Lib.hid hgrow
            replace hT := Lib.hid hT
            replace hT2 := Lib.hid hT2
            replace hr9 := Lib.hid hr9
            replace hOC9 := Lib.hid hOC9
            replace hc9 := Lib.hid hc9
            replace hw9 := Lib.hid hw9
            replace hk := Lib.hid hk
            replace p3 := Lib.hid p3
            replace p4 := Lib.hid p4
            replace p6 := Lib.hid p6
            go_wp2_with (at_builtin; refine wpl_app1 rfl _ _ rfl w.heap.size wv (castI u.reverse) p hOW rfl rfl hlu hB9 ?_)
            intro wv' w11 ho11 b11 hal11
            obtain ⟨f11, hr11, hc11, hw11⟩ := hgrow.out w11 wv' ho11 hal11
            replace ho11 := Lib.hid ho11
            replace hr11 := Lib.hid hr11
            replace hc11 := Lib.hid hc11
            replace hw11 := Lib.hid hw11
            clear hal11
            go_wp2
            go_roundg (par k)
            case measure => exact p2
            case rel => exact ⟨p, p :: u, f11, wv', rfl, rfl, p3.out, hT2.out, hr11.out, b9.trans b11, hc11.out, hw11.out, by simp only [List.length_cons]; omega⟩
    · by_cases hneg : cb < 0
      · have hnone := hO.none (by omega) (by rw [hcb]; exact hneg)
        replace hnone := Lib.hid hnone
        replace hcb := Lib.hid hcb
        replace hr1 := Lib.hid hr1
        replace hOQ := Lib.hid hOQ
        replace hOC := Lib.hid hOC
        replace hO := Lib.hid hO
        replace hqn := Lib.hid hqn
        go_wp2
        go_ret
        exact ⟨_, rfl, b1', .inr ⟨hnone.out, rfl⟩⟩
      · have hcb0 : ¬ came b < 0 := by rw [hcb]; exact hneg
        have hbq := (hO.cameIff b).1 (by omega)
        obtain ⟨k0, hk0⟩ := List.mem_iff_getElem?.1 hbq
        have hlit := OwnI.lit wo.heap.size wo (Nat.le_refl _) [(b : Int)] (by simp [maxLen]) #[.int .i64 (b : Int)] rfl 1 rfl
        have halw := belowAlloc wo (.cells #[.int .i64 (b : Int)] 3)
        have hBo : w.heap.size ≤ wo.heap.size := b1'.size
        have R8 := hr1.add (i := (4, 0)) (r' := rowI (.slice (some ⟨wo.heap.size, 0, none⟩) 1 1) (castI [b].reverse)) halw (hlit.mono hBo) (fun k hk => (hlit.lt k hk).1)
        have b8 := b1'.trans (halw.mono hBo)
        have hcame8 : (upd f1 (4, 0) (some (rowI (.slice (some ⟨wo.heap.size, 0, none⟩) 1 1) (castI [b].reverse)))) (1, 0) = some (rowI cv (tabI G.length came)) := (upd_ne _ _ (by simp)).trans h1.came
        have hway8 := upd_same f1 (4, 0) (some (rowI (.slice (some ⟨wo.heap.size, 0, none⟩) 1 1) (castI [b].reverse)))
        generalize upd f1 (4, 0) (some (rowI (.slice (some ⟨wo.heap.size, 0, none⟩) 1 1) (castI [b].reverse))) = f8 at *
        obtain ⟨W8, hW8⟩ : ∃ W8 : World, W8 = wo.alloc (.cells #[.int .i64 (b : Int)] 3) := ⟨_, rfl⟩
        obtain ⟨s8, hs8⟩ : ∃ s8, s8 = wo.heap.size := ⟨_, rfl⟩
        rw [← hW8] at R8 b8
        rw [← hs8] at hway8
        have htree : Tree came q (adjOf G) b b [b] := .one b hbq
        replace hcb := Lib.hid hcb
        replace hr1 := Lib.hid hr1
        replace hOQ := Lib.hid hOQ
        replace hOC := Lib.hid hOC
        replace hO := Lib.hid hO
        replace hqn := Lib.hid hqn
        replace hlit := Lib.hid hlit
        replace R8 := Lib.hid R8
        replace hk0 := Lib.hid hk0
        replace hcame8 := Lib.hid hcame8
        replace hway8 := Lib.hid hway8
        replace htree := Lib.hid htree
        clear halw
        go_wp2_with fail
        rw [← hW8, ← hs8]
        clear hW8 hs8 iB cB lQ
        go_loopg [13, 14] k0 (fun k wv vv wr => ∃ (x : Nat) (u : List Nat) (f' : Names) (ww : Value), ww = wv ∧ vv = .int .i64 x ∧ q[k]? = some x ∧ Tree came q (adjOf G) x b u ∧ Rows w.heap.size wr f' ∧ Below w.heap.size w wr ∧ f' (1, 0) = some (rowI cv (tabI G.length came)) ∧ f' (4, 0) = some (rowI ww (castI u.reverse)) ∧ u.length ≤ G.length + 1 - k)
        case atStart => exact ⟨b, [b], f8, _, rfl, rfl, hk0.out, htree.out, R8.out, b8, hcame8.out, hway8.out, by have := get_of hk0.out; simp only [List.length_cons, List.length_nil]; omega⟩
        case round =>
          clear R8 b8 hcame8 hway8 htree hk0
          obtain ⟨x, u, f9, wv, rfl, rfl, hk, hT, hr9, b9, hc9, hw9, hul⟩ := hrel
          obtain ⟨wo, rfl⟩ : ∃ wo : World, wo = wr := ⟨_, rfl⟩
          obtain ⟨k, rfl⟩ : ∃ k : Nat, k = gk := ⟨_, rfl⟩
          have hxn := hqn.out x (List.mem_of_getElem? hk)
          have hkl := get_of hk
          by_cases hxa : x = a
          · subst hxa
            have hfirst := hO.out.first hT
            have hOW := hr9.ownI hw9
            have hrev := reverse_own w.heap.size wv (castI u.reverse) wo hOW (by rw [castI_len, List.length_reverse]; omega)
            have hrr : (castI u.reverse).reverse = castI u := by rw [castI_reverse, List.reverse_reverse]
            rw [hrr] at hrev
            replace hrev := Lib.hid hrev
            replace hfirst := Lib.hid hfirst
            replace hT := Lib.hid hT
            replace hr9 := Lib.hid hr9
            replace hOW := Lib.hid hOW
            replace hc9 := Lib.hid hc9
            replace hw9 := Lib.hid hw9
            replace hk := Lib.hid hk
            replace hrr := Lib.hid hrr
            go_wp2_with fail
            refine hrev.out.mono ?_
            rintro e w10 ⟨rfl, ho10, b10⟩
            replace ho10 := Lib.hid ho10
            go_wp2
            go_ret
            exact ⟨_, rfl, b9.trans b10, .inl ⟨u, hfirst.out, ho10.out⟩⟩
          · have hk1 : 0 < k := by
              by_cases e : 0 < k
              · exact e
              · obtain rfl : k = 0 := by omega
                have := hO.out.hd
                rw [hk] at this
                injection this with this
                exact absurd this hxa
            obtain ⟨p1, p2, p, p3, p4, p5, p6⟩ := hO.out.parLt k x hk1 hk
            have hT2 := Tree.cons _ _ p3 hk hk1 p4 hT
            have hpn := hqn.out p (List.mem_of_getElem? p3)
            have hne : ((x : Int) != (a : Int)) = true := by rw [bne_iff_ne]; omega
            have hOC9 := hr9.ownI hc9
            have iX := fun w' => hOC9.at.idx x (by rw [tabI_len]; exact hxn) w'
            have cX := hOC9.at.cellD x (by rw [tabI_len]; exact hxn)
            rw [tabI_get _ _ _ hxn, p4] at cX
            have hOW := hr9.ownI hw9
            have hB9 : w.heap.size ≤ wo.heap.size := b9.size
            have hlu : (castI u.reverse).length < 4398046511104 := by rw [castI_len, List.length_reverse]; omega
            have hgrow := fun (w' : World) (wv' : Value) (ho : OwnI w.heap.size w' wv' (castI u.reverse ++ [(p : Int)])) (hal : (roomOf wv' = roomOf wv ∧ wo.grownBy w' wv.ownBlock) ∨ (∃ k, wv'.ownBlock = some k ∧ wo.heap.size ≤ k ∧ wo.grownBy w' none)) => show ∃ f', Rows w.heap.size w' f' ∧ f' (1, 0) = some (rowI cv (tabI G.length came)) ∧ f' (4, 0) = some (rowI wv' (castI (p :: u).reverse)) from by
              have hg : wo.grownBy w' wv.ownBlock := grown_via (hal.imp (·.2) (fun ⟨_, _, _, q⟩ => q))
              have hob : wv'.ownBlock = wv.ownBlock ∨ ∃ k, wv'.ownBlock = some k ∧ wo.heap.size ≤ k := by
                rcases hal with ⟨q, _⟩ | ⟨k, h1, h2, _⟩
                · obtain ⟨a1, n1, c1, e1⟩ := hOW.at.shape
                  obtain ⟨a2, n2, c2, e2⟩ := ho.at.shape
                  exact .inl (ownBlock_of_room e1 e2 q)
                · exact .inr ⟨k, h1, h2⟩
              exact ⟨_, hr9.grown (r' := rowI wv' (castI u.reverse ++ [(p : Int)])) hw9 hg ho hob, by rw [upd_ne _ _ (by simp)]; exact hc9, by rw [upd_same, List.reverse_cons, castI_snoc]⟩
            generalize valAt cv x = xa at *
            replace hgrow := Lib.hid hgrow
            replace hT := Lib.hid hT
            replace hT2 := Lib.hid hT2
            replace hr9 := Lib.hid hr9
            replace hOC9 := Lib.hid hOC9
            replace hc9 := Lib.hid hc9
            replace hw9 := Lib.hid hw9
            replace hk := Lib.hid hk
            replace p3 := Lib.hid p3
            replace p4 := Lib.hid p4
            replace p6 := Lib.hid p6
            go_wp2_with (at_builtin; refine wpl_app1 rfl _ _ rfl w.heap.size wv (castI u.reverse) p hOW rfl rfl hlu hB9 ?_)
            intro wv' w11 ho11 b11 hal11
            obtain ⟨f11, hr11, hc11, hw11⟩ := hgrow.out w11 wv' ho11 hal11
            replace ho11 := Lib.hid ho11
            replace hr11 := Lib.hid hr11
            replace hc11 := Lib.hid hc11
            replace hw11 := Lib.hid hw11
            clear hal11
            go_wp2
            go_roundg (par k)
            case measure => exact p2
            case rel => exact ⟨p, p :: u, f11, wv', rfl, rfl, p3.out, hT2.out, hr11.out, b9.trans b11, hc11.out, hw11.out, by simp only [List.length_cons]; omega⟩
end Go.Proofs.YtilpckngghffoaaGreatDoor

namespace Go.Proofs.YtilpckngghffoaaGreatDoor
open Go.RowKit
set_option maxRecDepth 100000

theorem lenArr (g K c : Nat) (w : World) : (Builtin.len_ #[119] 3 #[.slice (some ⟨g, 0, none⟩) K c]).run Tryz.prog w = .ok (.int .i64 K) w := by
  rw [run_len_slice _ _ _ _ _ _ (by kernel_rfl)]; rfl
theorem idxArr (g K c s : Nat) (hs : s < K) (w : World) : (Instr.indexAt 119 (.slice (some ⟨g, 0, none⟩) K c) (.int .i64 s)).run Tryz.prog w = .ok (.pointer (some ⟨g, s * 2, none⟩)) w := by
  have e : Tryz.prog.elem 119 = 121 := by kernel_rfl
  have hz : ∀ w : World, (sizeOf 121).run Tryz.prog w = .ok 2 w := fun w => by kernel_rfl
  rw [run_indexAt_slice _ _ _ _ _ _ _ (by rw [e]; kernel_rfl), if_pos (by omega), e, hz]
  simp only [Result.andThen, Addr.add, Int.toNat_natCast]
  by_cases e : s * 2 = 0
  · rw [if_pos e]
    simp only [e]
  · rw [if_neg e]
    simp
/-- While the lists are written. -/
def pairTo (K N : Nat) (T : List Int) (k p : Nat) : List Int := if p < k then castI (pairL K N T p) else []
theorem pairTo_zero (K N : Nat) (T : List Int) : pairTo K N T 0 = fun _ => [] := by funext p; unfold pairTo; rw [if_neg (by omega)]
theorem pairTo_step (K N : Nat) (T : List Int) (k : Nat) : updN (pairTo K N T k) k (castI (pairL K N T k)) = pairTo K N T (k + 1) := by
  funext p
  unfold pairTo
  by_cases e : p = k
  · subst e; rw [updN_same, if_pos (by omega)]
  · rw [updN_other _ _ _ e]
    by_cases h : p < k
    · rw [if_pos h, if_pos (by omega)]
    · rw [if_neg h, if_neg (by omega)]
/-- The graph of pairs. -/
def pairG (K N : Nat) (T : List Int) : List (List Int) := rowsOf (N * N) fun p => castI (pairL K N T p)
theorem cell_grown {w w' : World} {row : Option Nat} {p : Addr} {v : Value} (hg : w.grownBy w' row) (h : w.cell? p = some v) (hne : row ≠ some p.block) : w'.cell? p = some v :=
  (World.cell?_of_block (hg.block _ (World.block_lt_of_cell? _ _ h) (fun e => hne e.symm))).trans h
theorem Rows.monoB {B B' : Nat} {w : World} {f : Names} (h : Rows B w f) (hB : B' ≤ B) : Rows B' w f :=
  ⟨fun i r hi => by
    have ho := h.1 i r hi
    refine ⟨ho.1, ?_⟩
    rcases ho.2 with h2 | ⟨g, cap, cur, e, hb, r⟩
    · exact .inl h2
    · exact .inr ⟨g, cap, cur, e, Nat.le_trans hB hb, r⟩, h.2⟩

set_option maxHeartbeats 1000000 in
theorem pgraph_ok (r : Nat → Addr) (K R : Nat) (va : Option Addr) (vn vc : Nat) (T : List Int) (w : World) (hg : Glob r w) (h : IntsAt w (.slice va vn vc) T) (hr : RuleOk K R T) (hl : T.length ≤ 256) :
    Calls Tryz.prog 35 #[.agg #[.int .i64 K, .int .i64 R, .slice va vn vc]] w (Ret2 (fun x y w' => y = .nilIface ∧ ∃ f vals, Rows w.heap.size w' f ∧ WN f x vals (pw K (2 * wkR R) * pw K (2 * wkR R)) (fun p => castI (pairL K (pw K (2 * wkR R)) (wkT K R T) p))) w) := by
  have b0 := belowAlloc w (.cells #[.int .i64 K, .int .i64 R, .slice va vn vc] 24)
  have q : Box3 (w.alloc (.cells #[.int .i64 K, .int .i64 R, .slice va vn vc] 24)) w.heap.size (.int .i64 K) (.int .i64 R) (.slice va vn vc) := by simp [Box3, go_sem]
  have hk1 := hr.k1
  have hk4 := hr.k4
  have hokW := wk_ok hr
  have hlW := wk_small hr hl
  have hRW := wk_pos R
  have hN81 := nodes_le hokW hRW hlW
  obtain ⟨hdiv, hlen⟩ := hokW.half
  have hN1 := pw_pos (K := K) (2 * wkR R) hk1
  have hwork := fun (w' : World) (hgl : Glob r w') (hT : IntsAt w' (.slice va vn vc) T) => working_ok r K R va vn vc T w' hgl hT hr hl
  have harr := fun (a : Option Addr) (n c : Nat) (w' : World) (hgl : Glob r w') (hT : IntsAt w' (.slice a n c) (wkT K R T)) => arrows_any r K (wkR R) a n c (wkT K R T) w' hgl hT hokW hlW
  rw [hdiv] at harr
  generalize pw K (2 * wkR R) = N at *
  generalize wkT K R T = T' at *
  generalize wkR R = R' at *
  replace hwork := Lib.hid hwork
  replace harr := Lib.hid harr
  replace hg := Lib.hid (hg.below b0)
  replace h := Lib.hid (h.below b0)
  replace hokW := Lib.hid hokW
  replace hr := Lib.hid hr
  replace hdiv := Lib.hid hdiv
  replace hlen := Lib.hid hlen
  go_enter Tryz.func35, Tryz.ntmps35
  go_wp2_with fail
  refine (hwork.out _ hg.out h.out).mono ?_
  rintro e w1 ⟨x, y, rfl, b1, rfl, a, n, c, rfl, hT1⟩
  have b01 := Below.step b0 b1
  have ba := belowAlloc w1 (.cells #[.int .i64 K, .int .i64 R', .slice a n c] 24)
  have q1 : Box3 (w1.alloc (.cells #[.int .i64 K, .int .i64 R', .slice a n c] 24)) w1.heap.size (.int .i64 K) (.int .i64 R') (.slice a n c) := by simp [Box3, go_sem]
  have b02 := Below.step b01 ba
  have b12 := Below.step b1 ba
  have hT2 := hT1.below ba
  clear q
  replace hT1 := Lib.hid hT1
  replace hT2 := Lib.hid hT2
  go_wp2_with fail
  refine (harr.out a n c _ (hg.out.below b12) hT2.out).mono ?_
  rintro e w3 ⟨lv, rfl, b3, hA⟩
  have b03 := Below.step b02 b3
  clear q1
  obtain ⟨vs, hvs, hvl, hrows⟩ := hA
  obtain ⟨la, ln, lc, rfl⟩ := hvs.shape
  have ll := fun w' => hvs.len oneArrows 3 w'
  rw [hvl] at ll
  have hNN : (N : Int) * (N : Int) = ((N * N : Nat) : Int) := by simp
  have hM6 : N * N ≤ 6561 := Nat.mul_le_mul hN81 hN81
  have hNz1 : ¬ (N : Int) = 0 := by omega
  have hNz2 : ((N : Int) == 0) = false := by rw [beq_eq_false_iff_ne]; omega
  have hNz3 : (0 : Int) < N := by omega
  have hNz4 : ¬ N = 0 := by omega
  obtain ⟨M, hM⟩ : ∃ M, N * N = M := ⟨_, rfl⟩
  rw [hM] at hNN hM6
  have hwM : IntKind.i64.wrap (M : Int) = M := wrapK (by omega) (by omega)
  obtain ⟨ov, w4, mk, ho, hb4⟩ := run_makeW oneLists (M : Int) M w3 rfl (by omega)
  obtain ⟨f1, hr1, h1⟩ := WN.made M hb4 (Nat.le_refl _) ho
  obtain ⟨oa, on, oc, rfl⟩ := ho.shape
  have lo := fun w' => (ho.at).len oneLists 3 w'
  rw [List.length_replicate] at lo
  rw [← pairTo_zero K N T'] at h1
  replace hvs := Lib.hid hvs
  replace hrows := Lib.hid hrows
  replace hr1 := Lib.hid hr1
  replace ho := Lib.hid ho
  replace hM := Lib.hid hM
  go_wp2_with fail
  clear mk lo ll
  go_loopw [33] (fun kv wr => ∃ (k : Nat) (f : Names) (vals : List Value), k ≤ M ∧ kv = .int .i64 k ∧ Rows w3.heap.size wr f ∧ Below w3.heap.size w3 wr ∧ WN f (.slice oa on oc) vals M (pairTo K N T' k)) (fun kv _ => M - (intOf kv).toNat)
  case atStart => exact ⟨0, f1, _, by omega, rfl, hr1.out, hb4, h1⟩
  case round =>
    clear h1 ho hr1 hb4
    obtain ⟨k, f2, vals, hk, rfl, hr2, b2, h2⟩ := hrel
    obtain ⟨wo, rfl⟩ : ∃ wo : World, wo = wr := ⟨_, rfl⟩
    by_cases hlt : k < M
    · obtain ⟨u, hu⟩ : ∃ u, k / N = u := ⟨_, rfl⟩
      obtain ⟨v, hv⟩ : ∃ v, k % N = v := ⟨_, rfl⟩
      have hun : u < N := by rw [← hu]; exact div_lt_of (by rw [hM.out]; exact hlt)
      have hvn : v < N := by rw [← hv]; exact Nat.mod_lt _ (by omega)
      have hqu : (k : Int) / (N : Int) = (u : Int) := by rw [← hu]; simp
      have hqv : (k : Int) % (N : Int) = (v : Int) := by rw [← hv]; simp
      have hqu2 : (k : Int).tdiv (N : Int) = (u : Int) := by rw [Int.tdiv_eq_ediv_of_nonneg (by omega)]; exact hqu
      have hqv2 : (k : Int).tmod (N : Int) = (v : Int) := by rw [Int.tmod_eq_emod_of_nonneg (by omega)]; exact hqv
      have hwu : IntKind.i64.wrap (u : Int) = u := wrapK (by omega) (by omega)
      have hwv : IntKind.i64.wrap (v : Int) = v := wrapK (by omega) (by omega)
      obtain ⟨gu, cu, eu, hcu, hcellU⟩ := hrows.out u hun
      obtain ⟨gv, cv, ev, hcv, hcellV⟩ := hrows.out v hvn
      have iU := fun w' => hvs.out.idx oneArrows u (by omega) w'
      have iV := fun w' => hvs.out.idx oneArrows v (by omega) w'
      have cU3 := hvs.out.cellV u (by omega)
      have cV3 := hvs.out.cellV v (by omega)
      rw [eu] at cU3
      rw [ev] at cV3
      have cU := (b2.cell (World.block_lt_of_cell? _ _ cU3)).trans cU3
      generalize valAt (.slice la ln lc) u = ua at *
      have lenU := lenArr gu K cu
      have lenV := lenArr gv K cv
      have idxU := fun s (hs : s < K) w' => idxArr gu K cu s hs w'
      have idxV := fun s (hs : s < K) w' => idxArr gv K cv s hs w'
      have hcU := fun (w' : World) (hb : Below w3.heap.size w3 w') s (hs : s < K) => (⟨cell_keep hb (hcellU s hs).1, cell_keep hb (hcellU s hs).2⟩ : w'.cell? ⟨gu, s * 2, none⟩ = some (.int .i64 (toN K N u s)) ∧ w'.cell? ⟨gu, s * 2 + 1, none⟩ = some (.int .i64 (labN K T' u s)))
      have hcV := fun (w' : World) (hb : Below w3.heap.size w3 w') s (hs : s < K) => (⟨cell_keep hb (hcellV s hs).1, cell_keep hb (hcellV s hs).2⟩ : w'.cell? ⟨gv, s * 2, none⟩ = some (.int .i64 (toN K N v s)) ∧ w'.cell? ⟨gv, s * 2 + 1, none⟩ = some (.int .i64 (labN K T' v s)))
      have cVk := fun (w' : World) (hb : Below w3.heap.size w3 w') => (hb.cell (World.block_lt_of_cell? _ _ cV3)).trans cV3
      generalize valAt (.slice la ln lc) v = va' at *
      replace hcU := Lib.hid hcU
      replace hcV := Lib.hid hcV
      replace cVk := Lib.hid cVk
      replace idxU := Lib.hid idxU
      replace idxV := Lib.hid idxV
      replace hcellU := Lib.hid hcellU
      replace hcellV := Lib.hid hcellV
      replace hr2 := Lib.hid hr2
      replace hu := Lib.hid hu
      replace hv := Lib.hid hv
      replace eu := Lib.hid eu
      replace ev := Lib.hid ev
      clear cU3 cV3
      go_wp2_with fail
      clear cU iU
      go_loopw [10, 43] (fun tv sv wr => ∃ (s : Nat) (tw : Value), s ≤ K ∧ sv = .int .i64 s ∧ tw = tv ∧ OwnI wo.heap.size wr tw (castI (rawP K N T' u v s)) ∧ Below wo.heap.size wo wr) (fun _ sv _ => K - (intOf sv).toNat)
      case atStart => exact ⟨0, _, by omega, rfl, rfl, OwnI.nil _ _, Below.refl _ _⟩
      case round =>
        obtain ⟨s, tv, hs, rfl, rfl, hoT, bT⟩ := hrel
        obtain ⟨wt, rfl⟩ : ∃ wt : World, wt = wr := ⟨_, rfl⟩
        by_cases hsl : s < K
        · have b3t := b2.trans (bT.mono b2.size)
          have iS := fun w' => idxU.out s hsl w'
          obtain ⟨cS0, cS1⟩ := hcU.out wt b3t s hsl
          obtain ⟨X, hX⟩ : ∃ X, toN K N u s = X := ⟨_, rfl⟩
          obtain ⟨Y, hY⟩ : ∃ Y, labN K T' u s = Y := ⟨_, rfl⟩
          rw [hX] at cS0
          rw [hY] at cS1
          have hXN : X < N := by rw [← hX]; exact toN_lt (by omega)
          have bA := belowAlloc wt (.cells #[.int .i64 X, .int .i64 Y] 121)
          have bTA := bT.trans (bA.mono bT.size)
          have b3A := b3t.trans (bA.mono b3t.size)
          have cA0 : (wt.alloc (.cells #[.int .i64 X, .int .i64 Y] 121)).cell? ⟨wt.heap.size, 0, none⟩ = some (.int .i64 X) := by simp [go_sem]
          have cA1 : (wt.alloc (.cells #[.int .i64 X, .int .i64 Y] 121)).cell? ⟨wt.heap.size, 1, none⟩ = some (.int .i64 Y) := by simp [go_sem]
          have cV := cVk.out _ b3A
          have hoA := hoT.below bA
          have hneT : tv.ownBlock ≠ some wt.heap.size := fun e => by have := (hoT.lt _ e).2; omega
          replace hoT := Lib.hid hoT
          replace hoA := Lib.hid hoA
          replace hX := Lib.hid hX
          replace hY := Lib.hid hY
          replace cA0 := Lib.hid cA0
          replace cA1 := Lib.hid cA1
          go_wp2_with fail
          obtain ⟨wa, hwa⟩ : ∃ wa : World, wa = wt.alloc (.cells #[.int .i64 X, .int .i64 Y] 121) := ⟨_, rfl⟩
          rw [← hwa] at bA bTA b3A cA0 cA1 cV hoA ⊢
          replace hwa := Lib.hid hwa
          go_loopw [10, 54] (fun tv' jv wr => ∃ (j : Nat) (tw : Value), j ≤ K ∧ jv = .int .i64 j ∧ tw = tv' ∧ OwnI wo.heap.size wr tw (castI (rawP K N T' u v s ++ rawS K N T' u v s j)) ∧ Below wo.heap.size wo wr ∧ tw.ownBlock ≠ some wt.heap.size ∧ wr.cell? ⟨wt.heap.size, 0, none⟩ = some (.int .i64 X) ∧ wr.cell? ⟨wt.heap.size, 1, none⟩ = some (.int .i64 Y)) (fun _ jv _ => K - (intOf jv).toNat)
          case atStart => exact ⟨0, _, by omega, rfl, rfl, by simpa [rawS] using hoA.out, bTA, hneT, cA0.out, cA1.out⟩
          case round =>
            obtain ⟨j, tj, hj, rfl, rfl, hoJ, bJ, hne, y0, y1⟩ := hrel
            obtain ⟨wj, rfl⟩ : ∃ wj : World, wj = wr := ⟨_, rfl⟩
            by_cases hjl : j < K
            · have b3j := b2.trans (bJ.mono b2.size)
              have iJ := fun w' => idxV.out j hjl w'
              obtain ⟨cJ0, cJ1⟩ := hcV.out wj b3j j hjl
              obtain ⟨X2, hX2⟩ : ∃ X, toN K N v j = X := ⟨_, rfl⟩
              obtain ⟨Y2, hY2⟩ : ∃ Y, labN K T' v j = Y := ⟨_, rfl⟩
              rw [hX2] at cJ0
              rw [hY2] at cJ1
              have hXN2 : X2 < N := by rw [← hX2]; exact toN_lt (by omega)
              have bA2 := belowAlloc wj (.cells #[.int .i64 X2, .int .i64 Y2] 121)
              have y0' := cell_keep bA2 y0
              have y1' := cell_keep bA2 y1
              have bJA := bJ.trans (bA2.mono bJ.size)
              have hoJA := hoJ.below bA2
              have hsz := bJA.size
              have hwt : wt.heap.size < wj.heap.size := World.block_lt_of_cell? _ _ y0
              have hlenJ : (castI (rawP K N T' u v s ++ rawS K N T' u v s j)).length ≤ 100 := by
                rw [castI_len, List.length_append]
                have e1 := rawP_len K N T' u v s
                have e2 := rawS_len K N T' u v s j
                have e3 := Nat.mul_le_mul hs hk4
                omega
              replace hoJ := Lib.hid hoJ
              replace hX2 := Lib.hid hX2
              replace hY2 := Lib.hid hY2
              have cB0 : (wj.alloc (.cells #[.int .i64 X2, .int .i64 Y2] 121)).cell? ⟨wj.heap.size, 0, none⟩ = some (.int .i64 X2) := by simp [go_sem]
              have cB1 : (wj.alloc (.cells #[.int .i64 X2, .int .i64 Y2] 121)).cell? ⟨wj.heap.size, 1, none⟩ = some (.int .i64 Y2) := by simp [go_sem]
              go_upto_region 17 with fail
              obtain ⟨wb, hwb⟩ : ∃ wb : World, wb = wj.alloc (.cells #[.int .i64 X2, .int .i64 Y2] 121) := ⟨_, rfl⟩
              rw [← hwb] at bA2 y0' y1' bJA hoJA hsz cB0 cB1 ⊢
              have hszb : wj.heap.size < wb.heap.size := World.block_lt_of_cell? _ _ cB0
              replace hszb := Lib.hid hszb
              replace hwb := Lib.hid hwb
              by_cases hYY : Y = Y2
              · have hYq : (Y == Y2) = true := by rw [beq_iff_eq]; exact hYY
                have hraw : rawS K N T' u v s (j + 1) = rawS K N T' u v s j ++ [X * N + X2] := by
                  rw [rawS_succ]; unfold rawT
                  rw [hY.out, hY2.out, hX.out, hX2.out, if_pos hYY]
                obtain ⟨m, hm⟩ : ∃ m, X * N = m := ⟨_, rfl⟩
                have hm1 : (X : Int) * (N : Int) = (m : Int) := by rw [← hm]; simp
                have hml : m ≤ 6561 := by rw [← hm]; exact Nat.le_trans (Nat.mul_le_mul (show X ≤ 81 by omega) hN81) (by decide)
                have hwm : IntKind.i64.wrap (m : Int) = m := wrapK (by omega) (by omega)
                have hsum : (m : Int) + (X2 : Int) = ((m + X2 : Nat) : Int) := by simp
                rw [hm] at hraw
                obtain ⟨z, hz⟩ : ∃ z, m + X2 = z := ⟨_, rfl⟩
                rw [hz] at hsum hraw
                have hzl : z ≤ 7000 := by omega
                have hwz : IntKind.i64.wrap (z : Int) = z := wrapK (by omega) (by omega)
                replace hraw := Lib.hid hraw
                replace hm := Lib.hid hm
                replace hz := Lib.hid hz
                replace hYY := Lib.hid hYY
                go_wp2_with (at_builtin; go_loud (refine wpl_app1 rfl _ _ rfl wo.heap.size tj _ z hoJA rfl rfl (by omega) hsz ?_))
                intro v' w7 ho7 b7 hal
                have hne' : v'.ownBlock ≠ some wt.heap.size := by
                  rcases hal with ⟨q1, _⟩ | ⟨m, q1, q2, _⟩
                  · rw [ownBlock_eq hoJA ho7 q1]; exact hne
                  · rw [q1]; intro e; injection e with e; have := hszb.out; omega
                have y07 : w7.cell? ⟨wt.heap.size, 0, none⟩ = some (.int .i64 X) ∧ w7.cell? ⟨wt.heap.size, 1, none⟩ = some (.int .i64 Y) := by
                  rcases hal with ⟨_, q2⟩ | ⟨_, _, _, q2⟩
                  · exact ⟨cell_grown q2 y0' hne, cell_grown q2 y1' hne⟩
                  · exact ⟨cell_grown q2 y0' (by simp), cell_grown q2 y1' (by simp)⟩
                obtain ⟨ta, tn, tc, rfl⟩ := ho7.at.shape
                replace ho7 := Lib.hid ho7
                replace y07 := Lib.hid y07
                clear hal
                go_wp2
                go_roundw
                case measure => simp [intOf]; omega
                case rel => exact ⟨j + 1, _, by omega, by go_num, rfl, by rw [hraw.out, ← List.append_assoc, castI_snoc]; exact ho7.out, bJA.trans b7, hne', y07.out.1, y07.out.2⟩
              · have hYq : (Y == Y2) = false := by rw [beq_eq_false_iff_ne]; exact hYY
                have hraw : rawS K N T' u v s (j + 1) = rawS K N T' u v s j := by
                  rw [rawS_succ]; unfold rawT
                  rw [hY.out, hY2.out, if_neg hYY, List.append_nil]
                replace hraw := Lib.hid hraw
                replace hoJA := Lib.hid hoJA
                replace hYY := Lib.hid hYY
                go_wp2
                go_roundw
                case measure => simp [intOf]; omega
                case rel => exact ⟨j + 1, _, by omega, by go_num, rfl, by rw [hraw.out]; exact hoJA.out, bJA, hne, y0', y1'⟩
            · obtain rfl : j = K := by omega
              rw [← rawP_succ] at hoJ
              replace hoJ := Lib.hid hoJ
              go_wp2
              go_roundw
              case measure => simp [intOf]; omega
              case rel => exact ⟨s + 1, _, by omega, by go_num, rfl, hoJ.out, bJ⟩
        · obtain rfl : s = K := by omega
          have hlT : (castI (rawP s N T' u v s)).length ≤ 17592186044416 := by
            rw [castI_len]
            have e1 := rawP_len s N T' u v s
            have e3 := Nat.mul_le_mul hk4 hk4
            omega
          have hsz := bT.size
          replace hoT := Lib.hid hoT
          go_wp2_with fail
          refine (sort_own wo.heap.size tv _ wt hoT.out hlT hsz).mono ?_
          rintro e w8 ⟨rfl, ho8, b8⟩
          have bT8 := bT.trans b8
          replace ho8 := Lib.hid ho8
          go_wp2_with fail
          refine (compact_own wo.heap.size tv _ w8 ho8.out (by rw [srt_length]; omega)).mono ?_
          rintro e w9 ⟨x, rfl, _, ho9, b9⟩
          have bT9 := bT8.trans b9
          have hded : ded (srt (castI (rawP s N T' u v s))) (srt (castI (rawP s N T' u v s))).length = castI (pairL s N T' k) := by
            refine ded_pair (by omega) (srt_sorted _) (fun x => ?_)
            rw [srt_mem, hu.out, hv.out]; rfl
          rw [hded] at ho9
          have hnew := h2.new hr2.out k bT9 b2.size ho9
          obtain ⟨y1, y2, y3, f8, hr8, h8, _⟩ := h2.put hlt hnew
          rw [pairTo_step] at h8
          have iO := fun w' => ((hr2.out.ownV h2.outer).at).idx oneLists k (by rw [h2.len]; exact hlt) w'
          generalize valAt (.slice oa on oc) k = ka at *
          obtain ⟨xa, xn, xc, rfl⟩ := ho9.at.shape
          have b39 := b2.trans (bT9.mono b2.size)
          replace hr8 := Lib.hid hr8
          replace ho9 := Lib.hid ho9
          replace hded := Lib.hid hded
          replace hnew := Lib.hid hnew
          go_wp2
          go_roundw
          case measure => simp [intOf]; omega
          case rel => exact ⟨k + 1, f8, _, by omega, by go_num, hr8.out, b39.setCell y3 _, h8⟩
    · obtain rfl : k = M := by omega
      have hR := hr2.monoB (Nat.le_trans b03.size (Nat.le_refl _))
      have hW : WN f2 (.slice oa on oc) vals (N * N) (fun p => castI (pairL K N T' p)) := by
        rw [hM.out]
        exact ⟨h2.outer, h2.len, fun u hu => by rw [h2.rows u hu]; unfold pairTo; rw [if_pos hu]⟩
      have bE := Below.step b03 b2
      replace hR := Lib.hid hR
      replace hr2 := Lib.hid hr2
      go_wp2
      go_ret2
      exact ⟨_, _, rfl, bE, rfl, _, _, hR.out, hW⟩
end Go.Proofs.YtilpckngghffoaaGreatDoor

namespace Go.Proofs.YtilpckngghffoaaGreatDoor

/-- D tells how far it is from s. -/
def FarOf (n : Nat) (adj : Nat → List Nat) (s : Nat) (D : Nat → Int) : Prop :=
  ∀ t, t < n → (D t = -1 ∧ ¬ Goes adj s t) ∨ ∃ w, Way adj s t w ∧ (w.length : Int) = D t + 1 ∧ ∀ u, Way adj s t u → w.length ≤ u.length
/-- D tells how far it is to s. -/
def ToOf (n : Nat) (adj : Nat → List Nat) (s : Nat) (D : Nat → Int) : Prop :=
  ∀ t, t < n → (D t = -1 ∧ ¬ Goes adj t s) ∨ ∃ w, Way adj t s w ∧ (w.length : Int) = D t + 1 ∧ ∀ u, Way adj t s u → w.length ≤ u.length
theorem ToOf.low {n : Nat} {adj : Nat → List Nat} {s : Nat} {D : Nat → Int} (h : ToOf n adj s D) {t : Nat} (ht : t < n) : -1 ≤ D t := by
  rcases h t ht with ⟨h1, _⟩ | ⟨w, h1, h2, _⟩
  · omega
  · have := h1.pos; omega
theorem ToOf.pos {n : Nat} {adj : Nat → List Nat} {s : Nat} {D : Nat → Int} (h : ToOf n adj s D) {t : Nat} (ht : t < n) : 0 ≤ D t ↔ Goes adj t s := by
  rcases h t ht with ⟨h1, h2⟩ | ⟨w, h1, h2, _⟩
  · exact ⟨fun q => by omega, fun q => absurd q h2⟩
  · exact ⟨fun _ => h1.goes, fun _ => by have := h1.pos; omega⟩
theorem ToOf.le {n : Nat} {adj : Nat → List Nat} {s : Nat} {D : Nat → Int} (h : ToOf n adj s D) {t : Nat} (ht : t < n) {u : List Nat} (hu : Way adj t s u) : 0 ≤ D t ∧ D t + 1 ≤ u.length := by
  rcases h t ht with ⟨_, h2⟩ | ⟨w, h1, h2, h3⟩
  · exact absurd hu.goes h2
  · have := h1.pos; have := h3 u hu; omega
theorem ToOf.first {n : Nat} {adj : Nat → List Nat} {s : Nat} {D : Nat → Int} (h : ToOf n adj s D) {t : Nat} (ht : t < n) {u : List Nat} (hu : IsFirst adj t s u) : (u.length : Int) = D t + 1 := by
  rcases h t ht with ⟨_, h2⟩ | ⟨w, h1, h2, h3⟩
  · exact absurd hu.way.goes h2
  · have := h3 u hu.way; have := hu.short w h1; omega
theorem FarOf.pos {n : Nat} {adj : Nat → List Nat} {s : Nat} {D : Nat → Int} (h : FarOf n adj s D) {t : Nat} (ht : t < n) : 0 ≤ D t ↔ Goes adj s t := by
  rcases h t ht with ⟨h1, h2⟩ | ⟨w, h1, h2, _⟩
  · exact ⟨fun q => by omega, fun q => absurd q h2⟩
  · exact ⟨fun _ => h1.goes, fun _ => by have := h1.pos; omega⟩

/-- Breadth first, how far only. -/
structure FBase (adj : Nat → List Nat) (s : Nat) (D : Nat → Int) (q : List Nat) (b i : Nat) : Prop where
  hd : q[0]? = some s
  nodup : q.Nodup
  there : ∀ x, 0 ≤ D x ↔ x ∈ q
  low : ∀ x, -1 ≤ D x
  d0 : D s = 0
  sound : ∀ x ∈ q, ∃ w, Way adj s x w ∧ (w.length : Int) = D x + 1
  par : ∀ x ∈ q, x = s ∨ ∃ p y, p < b ∧ q[p]? = some y ∧ D x = D y + 1
  mono : ∀ (j k x y : Nat), j ≤ k → q[j]? = some x → q[k]? = some y → D x ≤ D y
  closed : ∀ p x, p < i → q[p]? = some x → ∀ t ∈ adj x, 0 ≤ D t ∧ D t ≤ D x + 1
structure FIn (adj : Nat → List Nat) (s : Nat) (D : Nat → Int) (q : List Nat) (i v : Nat) (l : List Nat) : Prop where
  base : FBase adj s D q (i + 1) i
  cur : q[i]? = some v
  sub : ∀ t ∈ l, t ∈ adj v
  seen : ∀ t ∈ adj v, t ∈ l ∨ (0 ≤ D t ∧ D t ≤ D v + 1)
section
variable {adj : Nat → List Nat} {s : Nat} {D : Nat → Int} {q : List Nat} {i v b : Nat} {l : List Nat}
theorem FBase.init (adj : Nat → List Nat) (s : Nat) : FBase adj s (updN (fun _ => (-1 : Int)) s 0) [s] 0 0 := by
  have hg : ∀ j x, [s][j]? = some x → j = 0 ∧ x = s := fun j x hx => by
    cases j with
    | zero => simp at hx; exact ⟨rfl, hx.symm⟩
    | succ j => simp at hx
  refine ⟨rfl, by simp, fun x => ?_, fun x => ?_, updN_same _ _ _, fun x hx => ?_, fun x hx => ?_, fun j k x y _ hx hy => ?_, fun p x hp => by omega⟩
  · by_cases e : x = s
    · subst e; rw [updN_same]; simp
    · rw [updN_other _ _ _ e]; simp [e]
  · by_cases e : x = s
    · subst e; rw [updN_same]; omega
    · rw [updN_other _ _ _ e]; omega
  · cases List.mem_singleton.1 hx; exact ⟨_, .one _, by rw [updN_same]; simp⟩
  · exact .inl (List.mem_singleton.1 hx)
  · rw [(hg j x hx).2, (hg k y hy).2]; exact Int.le_refl _
theorem FBase.enter (h : FBase adj s D q i i) (hv : q[i]? = some v) : FIn adj s D q i v (adj v) :=
  ⟨⟨h.hd, h.nodup, h.there, h.low, h.d0, h.sound, fun x hx => (h.par x hx).imp id (fun ⟨p, y, h1, h2⟩ => ⟨p, y, by omega, h2⟩), h.mono, h.closed⟩, hv, fun t ht => ht, fun t ht => .inl ht⟩
theorem FIn.leave (h : FIn adj s D q i v []) : FBase adj s D q (i + 1) (i + 1) := by
  refine ⟨h.base.hd, h.base.nodup, h.base.there, h.base.low, h.base.d0, h.base.sound, h.base.par, h.base.mono, fun p x hp hx t ht => ?_⟩
  by_cases e : p = i
  · subst e
    rw [h.cur] at hx; cases hx
    exact (h.seen t ht).resolve_left (by simp)
  · exact h.base.closed p x (by omega) hx t ht
theorem FIn.top (h : FIn adj s D q i v l) : ∀ x ∈ q, D x ≤ D v + 1 := by
  intro x hx
  have hv0 := (h.base.there v).2 (List.mem_of_getElem? h.cur)
  rcases h.base.par x hx with rfl | ⟨p, y, h1, h2, h3⟩
  · have := h.base.d0; omega
  · have := h.base.mono p i y v (by omega) h2 h.cur; omega
theorem FIn.old {t : Nat} (h : FIn adj s D q i v (t :: l)) (ht : 0 ≤ D t) : FIn adj s D q i v l := by
  refine ⟨h.base, h.cur, fun x hx => h.sub x (List.mem_cons_of_mem _ hx), fun x hx => ?_⟩
  rcases h.seen x hx with q1 | q1
  · rcases List.mem_cons.1 q1 with e | e
    · subst e; exact .inr ⟨ht, h.top x ((h.base.there x).1 ht)⟩
    · exact .inl e
  · exact .inr q1
theorem FIn.add {t : Nat} (h : FIn adj s D q i v (t :: l)) (ht : D t < 0) : FIn adj s (updN D t (D v + 1)) (q ++ [t]) i v l := by
  have hB := h.base
  have htq : t ∉ q := fun hm => by have := (hB.there t).2 hm; omega
  have hil := get_of h.cur
  have hvq := List.mem_of_getElem? h.cur
  have hv0 := (hB.there v).2 hvq
  have hga : ∀ j x, (q ++ [t])[j]? = some x → q[j]? = some x ∧ j < q.length ∧ x ≠ t ∨ j = q.length ∧ x = t := fun j x hx => by
    by_cases e : j < q.length
    · rw [List.getElem?_append_left e] at hx
      exact .inl ⟨hx, e, fun e2 => htq (by rw [← e2]; exact List.mem_of_getElem? hx)⟩
    · rw [List.getElem?_append_right (by omega)] at hx
      by_cases e2 : j = q.length
      · rw [e2] at hx; simp at hx; exact .inr ⟨e2, hx.symm⟩
      · rw [List.getElem?_eq_none (by simp; omega)] at hx; cases hx
  have hgo : ∀ {j x}, q[j]? = some x → (q ++ [t])[j]? = some x := fun {j x} hx => by rw [List.getElem?_append_left (get_of hx)]; exact hx
  have hne : ∀ x, x ∈ q → x ≠ t := fun x hx e => htq (by rw [← e]; exact hx)
  have dq : ∀ x, x ∈ q → updN D t (D v + 1) x = D x := fun x hx => updN_other _ _ _ (hne x hx)
  have hsq : s ∈ q := List.mem_of_getElem? hB.hd
  have htop := h.top
  refine ⟨⟨hgo hB.hd, ?_, fun x => ?_, fun x => ?_, ?_, fun x hx => ?_, fun x hx => ?_, fun j k x y hjk hx hy => ?_, fun p x hp hx t' ht' => ?_⟩, hgo h.cur, fun x hx => h.sub x (List.mem_cons_of_mem _ hx), fun x hx => ?_⟩
  · exact List.nodup_append.2 ⟨hB.nodup, by simp, fun x hx y hy => by cases List.mem_singleton.1 hy; exact hne x hx⟩
  · by_cases e : x = t
    · subst e; rw [updN_same]; simp; omega
    · rw [updN_other _ _ _ e, hB.there]; simp [e]
  · by_cases e : x = t
    · subst e; rw [updN_same]; omega
    · rw [updN_other _ _ _ e]; exact hB.low x
  · rw [dq s hsq]; exact hB.d0
  · rcases List.mem_append.1 hx with hx | hx
    · rw [dq x hx]; exact hB.sound x hx
    · cases List.mem_singleton.1 hx
      obtain ⟨w, h1, h2⟩ := hB.sound v hvq
      refine ⟨w ++ [t], h1.snoc (h.sub _ List.mem_cons_self), ?_⟩
      rw [updN_same, List.length_append, List.length_singleton]; omega
  · rcases List.mem_append.1 hx with hx | hx
    · rcases hB.par x hx with e | ⟨p, y, h1, h2, h3⟩
      · exact .inl e
      · exact .inr ⟨p, y, h1, hgo h2, by rw [dq x hx, dq y (List.mem_of_getElem? h2)]; exact h3⟩
    · cases List.mem_singleton.1 hx
      exact .inr ⟨i, v, by omega, hgo h.cur, by rw [updN_same, dq v hvq]⟩
  · rcases hga k y hy with ⟨k1, k2, k3⟩ | ⟨rfl, rfl⟩
    · rcases hga j x hx with ⟨h1, h2, h3⟩ | ⟨rfl, rfl⟩
      · rw [dq x (List.mem_of_getElem? h1), dq y (List.mem_of_getElem? k1)]; exact hB.mono j k x y hjk h1 k1
      · omega
    · rcases hga j x hx with ⟨h1, h2, h3⟩ | ⟨h1, rfl⟩
      · rw [dq x (List.mem_of_getElem? h1), updN_same]; exact htop x (List.mem_of_getElem? h1)
      · exact Int.le_refl _
  · rcases hga p x hx with ⟨h1, h2, h3⟩ | ⟨h1, rfl⟩
    · have := hB.closed p x hp h1 t' ht'
      have e : t' ≠ t := fun e => by subst e; omega
      rw [updN_other _ _ _ e, dq x (List.mem_of_getElem? h1)]
      exact this
    · omega
  · by_cases e : x = t
    · subst e; right; rw [updN_same, dq v hvq]; omega
    · rcases h.seen x hx with q1 | q1
      · exact .inl ((List.mem_cons.1 q1).resolve_left e)
      · right; rw [updN_other _ _ _ e, dq v hvq]; exact q1
theorem FBase.far (h : FBase adj s D q b i) (hi : q.length ≤ i) {x y : Nat} {u : List Nat} (hu : Way adj x y u) (hx : x ∈ q) : y ∈ q ∧ D y + 1 ≤ D x + u.length := by
  induction hu with
  | one => exact ⟨hx, by simp⟩
  | @cons x t y w ht hu ih =>
    obtain ⟨j, hj⟩ := List.mem_iff_getElem?.1 hx
    have := h.closed j x (by have := get_of hj; omega) hj t ht
    have := ih ((h.there t).1 this.1)
    exact ⟨this.1, by simp only [List.length_cons]; omega⟩
end

/-- Going down: the least of the neighbours that are nearer by one. -/
theorem step_first {n : Nat} {adj : Nat → List Nat} {s : Nat} {D : Nat → Int} (h : ToOf n adj s D) (hlt : ∀ v, v < n → ∀ t ∈ adj v, t < n) {v best : Nat} (hv : v < n)
    (hb : best ∈ adj v) (hd : D best = D v - 1) (h0 : 0 ≤ D best) (hm : ∀ t ∈ adj v, D t = D v - 1 → best ≤ t) {u : List Nat} (hu : IsFirst adj best s u) : IsFirst adj v s (v :: u) := by
  have hbn := hlt v hv best hb
  have hul := h.first hbn hu
  refine ⟨.cons hb hu.way, fun x hx => ?_, fun x hx hl => ?_⟩
  · have := h.le hv hx
    simp only [List.length_cons]; omega
  · cases hx with
    | one => simp only [List.length_cons, List.length_nil] at hl; have := hu.way.pos; omega
    | @cons _ t _ x' ht hx' =>
      have htn := hlt v hv t ht
      have h1 := h.le htn hx'
      have h2 := h.le hv (.cons ht hx')
      simp only [List.length_cons] at hl h2
      have hdt : D t = D v - 1 := by
        rcases h t htn with ⟨_, q⟩ | ⟨w, w1, w2, w3⟩
        · exact absurd hx'.goes q
        · have := h.le hv (.cons ht w1)
          simp only [List.length_cons] at this
          omega
      have hbt := hm t ht hdt
      refine .inr ⟨rfl, ?_⟩
      by_cases e : best = t
      · subst e; exact hu.least x' hx' (by omega)
      · obtain ⟨_, rfl⟩ := hx'.ne
        obtain ⟨_, rfl⟩ := hu.way.ne
        exact .inl (by omega)
theorem ToOf.next {n : Nat} {adj : Nat → List Nat} {s : Nat} {D : Nat → Int} (h : ToOf n adj s D) (hlt : ∀ v, v < n → ∀ t ∈ adj v, t < n) {v : Nat} (hv : v < n) (hne : v ≠ s) (h0 : 0 ≤ D v) : 1 ≤ D v ∧ ∃ t ∈ adj v, D t = D v - 1 := by
  rcases h v hv with ⟨q, _⟩ | ⟨w, w1, w2, w3⟩
  · omega
  · cases w1 with
    | one => exact absurd rfl hne
    | @cons _ t _ w' ht hw =>
      have htn := hlt v hv t ht
      have := hw.pos
      simp only [List.length_cons] at w2 w3
      refine ⟨by omega, t, ht, ?_⟩
      rcases h t htn with ⟨_, q⟩ | ⟨x, x1, x2, x3⟩
      · exact absurd hw.goes q
      · have := x3 w' hw
        have := w3 _ (.cons ht x1)
        simp only [List.length_cons] at this
        omega
end Go.Proofs.YtilpckngghffoaaGreatDoor

namespace Go.Proofs.YtilpckngghffoaaGreatDoor

/-- The sum of F over the first n. -/
def sumN (F : Nat → Nat) : Nat → Nat
  | 0 => 0
  | n + 1 => sumN F n + F n
theorem sumN_congr {F F' : Nat → Nat} : ∀ {n}, (∀ v, v < n → F v = F' v) → sumN F n = sumN F' n
  | 0, _ => rfl
  | n + 1, h => by
    show sumN F n + F n = sumN F' n + F' n
    rw [sumN_congr (n := n) (fun v hv => h v (by omega)), h n (by omega)]
theorem sumN_pos {F : Nat → Nat} : ∀ {n}, 0 < sumN F n ↔ ∃ v, v < n ∧ 0 < F v
  | 0 => by simp [sumN]
  | n + 1 => by
    show 0 < sumN F n + F n ↔ _
    constructor
    · intro h
      by_cases e : 0 < sumN F n
      · obtain ⟨v, h1, h2⟩ := sumN_pos.1 e; exact ⟨v, by omega, h2⟩
      · exact ⟨n, by omega, by omega⟩
    · rintro ⟨v, h1, h2⟩
      by_cases e : v = n
      · subst e; omega
      · have := sumN_pos.2 ⟨v, show v < n by omega, h2⟩; omega
theorem sumN_upd {F F' : Nat → Nat} {v : Nat} (h : ∀ u, u ≠ v → F' u = F u) : ∀ {n}, v < n → sumN F' n + F v = sumN F n + F' v
  | 0, q => by omega
  | n + 1, q => by
    show sumN F' n + F' n + F v = sumN F n + F n + F' v
    by_cases e : v = n
    · subst e
      rw [sumN_congr (n := v) (fun u hu => h u (by omega))]; omega
    · have := sumN_upd h (n := n) (by omega)
      rw [h n (fun q => e q.symm)]; omega
theorem sumN_zero : ∀ n, sumN (fun _ => 0) n = 0
  | 0 => rfl
  | n + 1 => by show sumN _ n + 0 = 0; rw [sumN_zero n]
theorem sumN_add (F F' : Nat → Nat) : ∀ n, sumN (fun v => F v + F' v) n = sumN F n + sumN F' n
  | 0 => rfl
  | n + 1 => by show sumN _ n + (F n + F' n) = sumN F n + F n + (sumN F' n + F' n); rw [sumN_add F F' n]; omega
theorem sumN_one (x : Nat) : ∀ n, sumN (fun v => if v = x then 1 else 0) n = if x < n then 1 else 0
  | 0 => rfl
  | n + 1 => by
    show sumN _ n + (if n = x then 1 else 0) = _
    rw [sumN_one x n]
    by_cases e : n = x
    · subst e; simp
    · rw [if_neg e]
      by_cases q : x < n
      · rw [if_pos q, if_pos (by omega)]
      · rw [if_neg q, if_neg (by omega)]
/-- A list of numbers below n: its length, counted number by number. -/
theorem length_counts (n : Nat) : ∀ (l : List Nat), (∀ x ∈ l, x < n) → l.length = sumN (fun v => l.count v) n
  | [], _ => by simp [sumN_zero]
  | x :: l, h => by
    have ih := length_counts n l (fun y hy => h y (List.mem_cons_of_mem _ hy))
    have e : (fun v => (x :: l).count v) = fun v => l.count v + if v = x then 1 else 0 := by
      funext v
      rw [List.count_cons]
      by_cases q : x = v
      · simp [q]
      · rw [if_neg (by simpa using q), if_neg (fun r => q r.symm)]
    rw [e, sumN_add, sumN_one, if_pos (h x List.mem_cons_self), ← ih, List.length_cons]

/-- inn tells how many arrows lead to t, of those not gone through: the first c v of v's are. -/
def Deg (n : Nat) (A : Nat → List Nat) (c inn : Nat → Nat) : Prop := ∀ t, t < n → inn t = sumN (fun v => ((A v).drop (c v)).count t) n
theorem Deg.init {n : Nat} {A B : Nat → List Nat} (hB : ∀ t, t < n → ∀ x ∈ B t, x < n) (hc : ∀ v t, v < n → t < n → (B t).count v = (A v).count t) : Deg n A (fun _ => 0) (fun t => (B t).length) := by
  intro t ht
  show (B t).length = _
  rw [length_counts n _ (hB t ht)]
  exact sumN_congr fun v hv => by rw [hc v t hv ht, List.drop_zero]
theorem Deg.step {n : Nat} {A : Nat → List Nat} {c inn : Nat → Nat} {v j t : Nat} (h : Deg n A c inn) (hv : v < n) (hj : c v = j) (ht : (A v)[j]? = some t) (htn : t < n) :
    0 < inn t ∧ Deg n A (updN c v (j + 1)) (updN inn t (inn t - 1)) := by
  have hjl : j < (A v).length := get_of ht
  have hd : (A v).drop j = t :: (A v).drop (j + 1) := by
    rw [List.drop_eq_getElem_cons hjl]
    rw [List.getElem?_eq_getElem hjl] at ht; injection ht with ht; rw [ht]
  have key : ∀ x, sumN (fun u => ((A u).drop (updN c v (j + 1) u)).count x) n + (if x = t then 1 else 0) = sumN (fun u => ((A u).drop (c u)).count x) n := by
    intro x
    have := sumN_upd (F := fun u => ((A u).drop (c u)).count x) (F' := fun u => ((A u).drop (updN c v (j + 1) u)).count x) (v := v) (fun u hu => by simp only [updN_other _ _ _ hu]) hv
    simp only [updN_same, hj, hd, List.count_cons] at this
    by_cases e : x = t
    · subst e; rw [if_pos rfl]; simp at this; omega
    · rw [if_neg e]
      have e2 : (t == x) = false := by simpa using fun q => e q.symm
      rw [e2] at this; simp at this; omega
  have h1 := key t
  rw [if_pos rfl, ← h t htn] at h1
  refine ⟨by omega, fun x hx => ?_⟩
  have h2 := key x
  by_cases e : x = t
  · subst e; rw [updN_same]; omega
  · rw [updN_other _ _ _ e, h x hx]; rw [if_neg e] at h2; omega

/-- The peeling: what has gone stands in the queue; the first i of it have been gone through, and of the next the first j and k arrows. -/
structure Peel (n : Nat) (A B : Nat → List Nat) (inn out : Nat → Nat) (c d : Nat → Nat) (gone : Nat → Bool) (q : List Nat) (lives : Nat → Prop) : Prop where
  deg1 : Deg n A c inn
  deg2 : Deg n B d out
  nodup : q.Nodup
  goneq : ∀ x, gone x = true ↔ x ∈ q
  low : ∀ x ∈ q, x < n
  fresh : ∀ v, v ∉ q → c v = 0 ∧ d v = 0
  keep : ∀ t, t < n → lives t → gone t = false
/-- A live vertex has live neighbours on both sides. -/
structure LiveSet (n : Nat) (A B : Nat → List Nat) (lives : Nat → Prop) : Prop where
  behind : ∀ t, t < n → lives t → ∃ p, p < n ∧ lives p ∧ t ∈ A p
  ahead : ∀ t, t < n → lives t → ∃ p, p < n ∧ lives p ∧ t ∈ B p
section
variable {n : Nat} {A B : Nat → List Nat} {inn out c d : Nat → Nat} {gone : Nat → Bool} {q : List Nat} {lives : Nat → Prop}
theorem Peel.live_in (h : Peel n A B inn out c d gone q lives) (hL : LiveSet n A B lives) {t : Nat} (ht : t < n) (hl : lives t) : 0 < inn t ∧ 0 < out t := by
  have aux : ∀ p, p < n → lives p → c p = 0 ∧ d p = 0 := fun p hp hlp => h.fresh p (fun q => by have := (h.goneq p).2 q; rw [h.keep p hp hlp] at this; cases this)
  refine ⟨?_, ?_⟩
  · obtain ⟨p, hp, hlp, hm⟩ := hL.behind t ht hl
    rw [h.deg1 t ht]
    refine sumN_pos.2 ⟨p, hp, ?_⟩
    rw [(aux p hp hlp).1, List.drop_zero]
    exact List.count_pos_iff.2 hm
  · obtain ⟨p, hp, hlp, hm⟩ := hL.ahead t ht hl
    rw [h.deg2 t ht]
    refine sumN_pos.2 ⟨p, hp, ?_⟩
    rw [(aux p hp hlp).2, List.drop_zero]
    exact List.count_pos_iff.2 hm
/-- A vertex goes. -/
theorem Peel.goes (h : Peel n A B inn out c d gone q lives) (hL : LiveSet n A B lives) {t : Nat} (ht : t < n) (hg : gone t = false) (h0 : inn t = 0 ∨ out t = 0) : Peel n A B inn out c d (updN gone t true) (q ++ [t]) lives := by
  have htq : t ∉ q := fun r => by have := (h.goneq t).2 r; rw [hg] at this; cases this
  refine ⟨h.deg1, h.deg2, ?_, fun x => ?_, fun x hx => ?_, fun v hv => h.fresh v (fun r => hv (List.mem_append_left _ r)), fun x hx hl => ?_⟩
  · exact List.nodup_append.2 ⟨h.nodup, by simp, fun x hx y hy e => by cases List.mem_singleton.1 hy; subst e; exact htq hx⟩
  · by_cases e : x = t
    · subst e; rw [updN_same]; simp
    · rw [updN_other _ _ _ e, h.goneq]; simp [e]
  · rcases List.mem_append.1 hx with hx | hx
    · exact h.low x hx
    · cases List.mem_singleton.1 hx; exact ht
  · by_cases e : x = t
    · subst e
      have := h.live_in hL hx hl; omega
    · rw [updN_other _ _ _ e]; exact h.keep x hx hl
/-- An arrow of a vertex that has gone. -/
theorem Peel.arrow1 (h : Peel n A B inn out c d gone q lives) {v j t : Nat} (hv : v ∈ q) (hj : c v = j) (ht : (A v)[j]? = some t) (htn : t < n) :
    0 < inn t ∧ Peel n A B (updN inn t (inn t - 1)) out (updN c v (j + 1)) d gone q lives := by
  obtain ⟨h1, h2⟩ := h.deg1.step (h.low v hv) hj ht htn
  exact ⟨h1, h2, h.deg2, h.nodup, h.goneq, h.low, fun u hu => by
    have e : u ≠ v := fun e => hu (by rw [e]; exact hv)
    rw [updN_other _ _ _ e]; exact h.fresh u hu, h.keep⟩
/-- At the end each vertex that is left has neighbours that are left, on both sides. -/
theorem Peel.left (h : Peel n A B inn out c d gone q lives) (hall : ∀ v ∈ q, c v = (A v).length ∧ d v = (B v).length) (hpos : ∀ t, t < n → gone t = false → 0 < inn t ∧ 0 < out t) {t : Nat} (ht : t < n) (hg : gone t = false) :
    (∃ p, p < n ∧ gone p = false ∧ t ∈ A p) ∧ ∃ p, p < n ∧ gone p = false ∧ t ∈ B p := by
  obtain ⟨h1, h2⟩ := hpos t ht hg
  rw [h.deg1 t ht] at h1
  rw [h.deg2 t ht] at h2
  obtain ⟨p, hp, hc⟩ := sumN_pos.1 h1
  obtain ⟨p2, hp2, hc2⟩ := sumN_pos.1 h2
  refine ⟨⟨p, hp, ?_, List.mem_of_mem_drop (List.count_pos_iff.1 hc)⟩, ⟨p2, hp2, ?_, List.mem_of_mem_drop (List.count_pos_iff.1 hc2)⟩⟩
  · cases hgp : gone p with
    | false => rfl
    | true => rw [(hall p ((h.goneq p).1 hgp)).1, List.drop_length] at hc; simp at hc
  · cases hgp : gone p2 with
    | false => rfl
    | true => rw [(hall p2 ((h.goneq p2).1 hgp)).2, List.drop_length] at hc2; simp at hc2
end
end Go.Proofs.YtilpckngghffoaaGreatDoor

namespace Go.Proofs.YtilpckngghffoaaGreatDoor
open Go.RowKit
set_option maxRecDepth 100000

/-- How often what is told stands there. -/
def CntTo (G : List (List Int)) (k j : Nat) (F : Nat → List Int) : Prop :=
  ∀ t, t < G.length → ∀ v : Nat, (F t).count (v : Int) = if v < k then (G.getD v []).count (t : Int) else if v = k then ((G.getD k []).take j).count (t : Int) else 0
theorem CntTo.zero (G : List (List Int)) : CntTo G 0 0 (fun _ => []) := by
  intro t _ v
  rw [if_neg (by omega)]
  split <;> simp
theorem CntTo.next {G : List (List Int)} {k : Nat} {F : Nat → List Int} (h : CntTo G k (G.getD k []).length F) : CntTo G (k + 1) 0 F := by
  intro t ht v
  rw [h t ht v, List.take_length]
  by_cases e : v < k
  · rw [if_pos e, if_pos (by omega)]
  · rw [if_neg e]
    by_cases e2 : v = k
    · subst e2; rw [if_pos rfl, if_pos (by omega)]
    · rw [if_neg e2, if_neg (by omega)]
      split <;> simp
theorem CntTo.add {G : List (List Int)} {k j u : Nat} {F : Nat → List Int} (h : CntTo G k j F) (hj : (G.getD k [])[j]? = some (u : Int)) : CntTo G k (j + 1) (updN F u (F u ++ [(k : Int)])) := by
  have htk : (G.getD k []).take (j + 1) = (G.getD k []).take j ++ [(u : Int)] := by
    rw [List.take_add_one, hj]; rfl
  intro t ht v
  have h1 := h t ht v
  rw [htk, List.count_append]
  by_cases e : t = u
  · subst e
    rw [updN_same, List.count_append, h1]
    by_cases e1 : v < k
    · rw [if_pos e1, if_pos e1]
      have : ([(k : Int)] : List Int).count (v : Int) = 0 := by
        rw [List.count_eq_zero]; simp; omega
      omega
    · rw [if_neg e1, if_neg e1]
      by_cases e2 : v = k
      · subst e2; rw [if_pos rfl, if_pos rfl]; simp
      · rw [if_neg e2, if_neg e2]
        rw [Nat.zero_add, List.count_eq_zero]; simp; omega
  · rw [updN_other _ _ _ e, h1]
    have : ([(u : Int)] : List Int).count (t : Int) = 0 := by
      rw [List.count_eq_zero]; simp; omega
    rw [this, Nat.add_zero]
/-- Turned, with how often. -/
structure TurnedX (G H : List (List Int)) : Prop where
  t : TurnedOf G H
  cnt : ∀ t v, t < G.length → v < G.length → (adjOf H t).count v = (adjOf G v).count t
theorem count_toNat : ∀ (l : List Int) (x : Nat), (∀ y ∈ l, 0 ≤ y) → (l.map Int.toNat).count x = l.count (x : Int)
  | [], _, _ => rfl
  | a :: l, x, h => by
    rw [List.map_cons, List.count_cons, List.count_cons, count_toNat l x (fun y hy => h y (List.mem_cons_of_mem _ hy))]
    have ha := h a List.mem_cons_self
    by_cases e : a = (x : Int)
    · subst e; simp
    · have : ¬ a.toNat = x := by omega
      simp [e, this]
theorem TurnedX.of {G : List (List Int)} {F : Nat → List Int} (hok : GraphOk G) (h : BackTo G G.length 0 F) (hc : CntTo G G.length 0 F) : TurnedX G (rowsOf G.length F) := by
  have hT := h.turned
  refine ⟨hT, fun t v ht hv => ?_⟩
  unfold adjOf
  rw [rowsOf_get _ _ _ ht, count_toNat, count_toNat, hc t ht v, if_pos hv]
  · exact fun y hy => (hok v hv y hy).1
  · intro y hy
    obtain ⟨v, rfl, _⟩ := ((h t ht).2 y).1 hy
    omega

/-- Lists of which all was made from block B on. -/
def ListsFrom (B : Nat) (w : World) (v : Value) (G : List (List Int)) : Prop :=
  ∃ vs : List Value, OwnV 22 B w v vs ∧ vs.length = G.length ∧ ∀ i, i < G.length → OwnI B w (vAt vs i) (G.getD i [])
theorem ListsFrom.at {B : Nat} {w : World} {v : Value} {G : List (List Int)} (h : ListsFrom B w v G) : ListsAt w v G := by
  obtain ⟨vs, h1, h2, h3⟩ := h
  exact ⟨vs, h1.at, h2, fun i hi => (h3 i hi).at⟩
theorem ListsFrom.below {B : Nat} {w w' : World} {v : Value} {G : List (List Int)} (h : ListsFrom B w v G) (hb : Below w.heap.size w w') : ListsFrom B w' v G := by
  obtain ⟨vs, h1, h2, h3⟩ := h
  exact ⟨vs, h1.below hb, h2, fun i hi => (h3 i hi).below hb⟩
theorem ListsFrom.set {B : Nat} {w : World} {v : Value} {G : List (List Int)} (h : ListsFrom B w v G) {a : Addr} (ha : a.block < B) (u : Value) : ListsFrom B (w.setCell a u) v G := by
  obtain ⟨vs, h1, h2, h3⟩ := h
  exact ⟨vs, OwnV.setBelowBase h1 ha u, h2, fun i hi => OwnV.toI (OwnV.setBelowBase (h3 i hi).toV ha u)⟩
theorem WN.from {B : Nat} {w : World} {f : Names} {ov : Value} {vals : List Value} {n : Nat} {F : Nat → List Int} (h : WN f ov vals n F) (hr : Rows B w f) : ListsFrom B w ov (rowsOf n F) :=
  ⟨vals, hr.ownV h.outer, by rw [h.len, rowsOf_len], fun i hi => by
    rw [rowsOf_len] at hi
    rw [rowsOf_get n F i hi]
    exact hr.ownI (h.rows i hi)⟩

end Go.Proofs.YtilpckngghffoaaGreatDoor

namespace Go.Proofs.YtilpckngghffoaaGreatDoor
open Go.RowKit
set_option maxRecDepth 100000

end Go.Proofs.YtilpckngghffoaaGreatDoor

namespace Go.Proofs.YtilpckngghffoaaGreatDoor
open Go.RowKit
set_option maxRecDepth 100000

theorem oddTo_miss {G : List (List Int)} {k : Nat} (hk : oddTo G k < 0) (h : ∀ t ∈ G.getD k [], oddT G.length t = false) : oddTo G (k + 1) < 0 := by
  simp only [oddTo]
  rw [if_pos hk]
  rcases idxOf_cases (oddT G.length) (G.getD k []) with ⟨q, _⟩ | ⟨i, _, q1, q2⟩
  · rw [if_neg (by omega)]; exact hk
  · exfalso
    simp_all

end Go.Proofs.YtilpckngghffoaaGreatDoor

namespace Go.Proofs.YtilpckngghffoaaGreatDoor
open Go.RowKit
set_option maxRecDepth 100000

end Go.Proofs.YtilpckngghffoaaGreatDoor

namespace Go.Proofs.YtilpckngghffoaaGreatDoor
open Go.RowKit
set_option maxRecDepth 100000

/-- What a call of the search's leaves. -/
def SPost (B : Nat) (w : World) (d : Nat) (nv lv fv pv : Value) (n : Nat) (S : TS) (e : Ending) (w' : World) : Prop :=
  e = .returned (.tuple #[]) ∧ Below B w w' ∧ ∃ f' ov' cv', Rows B w' f' ∧ SN f' d nv lv fv pv ov' cv' n S

set_option maxHeartbeats 1000000 in
theorem enter_any (B : Nat) (w : World) (f : Names) (d : Nat) (nv lv fv pv ov cv : Value) (n : Nat) (S : TS) (v : Nat) (hr : Rows B w f) (h : SN f d nv lv fv pv ov cv n S) (hB : B ≤ w.heap.size)
    (hv : v < n) (hnc : v ∉ S.calls) (ho : S.opn.length < 10000) (hcl : S.calls.length < 10000) (ht : S.time < 100000) :
    Calls Tryz.prog 182 #[.pointer (some ⟨d, 0, none⟩), .int .i64 v] w (SPost B w d nv lv fv pv n (enterS S v)) := by
  have e1 : ((S.time + 1 : Nat) : Int) = (S.time : Int) + 1 := by omega
  have z6 := h.cell hr 6 (by decide)
  have f6 := h.frz hr 6
  obtain ⟨f1, hr1, h1⟩ := h.setTime hr (S.time + 1)
  have b1 : Below B w (w.setCell ⟨d, 6, none⟩ (.int .i64 ((S.time + 1 : Nat) : Int))) := (Below.refl B w).setCell (h.base hr) _
  rw [e1] at hr1 b1
  simp only [List.getElem?_cons_succ, List.getElem?_cons_zero] at z6
  replace hr1 := Lib.hid hr1
  replace hr := Lib.hid hr
  replace e1 := Lib.hid e1
  go_enter Tryz.func182, Tryz.ntmps182
  go_wp2
  clear z6 f6
  refine wp_region_plan (fun w' => w'.cell? ⟨d, 1, none⟩ = some lv ∧ w'.cell? ⟨d, 2, none⟩ = some fv ∧ w'.cell? ⟨d, 6, none⟩ = some (.int .i64 ((S.time : Int) + 1))) 21 [(0, true), (1, true), (2, true), (3, true), (4, true), (5, true), (6, true), (7, true), (8, true), (9, true), (10, true), (11, true), (12, true), (13, true), (14, true), (15, true), (16, true), (17, true), (18, true), (19, false), (20, true)] (by kernel_rfl) (by kernel_rfl) ?_
  obtain ⟨W, hW⟩ : ∃ W : World, W = (w.setCell ⟨d, 6, none⟩ (.int .i64 ((S.time : Int) + 1))).drew := ⟨_, rfl⟩
  rw [← hW]
  have hrW : Rows B W f1 := by rw [hW]; exact hr1.out.drew
  have bW : Below B w W := by rw [hW]; exact b1.drew
  clear hW
  have hS : W.cell? ⟨d, 1, none⟩ = some lv ∧ W.cell? ⟨d, 2, none⟩ = some fv ∧ W.cell? ⟨d, 6, none⟩ = some (.int .i64 ((S.time : Int) + 1)) := ⟨h1.cell hrW 1 (by decide), h1.cell hrW 2 (by decide), by rw [← e1.out]; exact h1.cell hrW 6 (by decide)⟩
  have oL := hrW.ownI h1.low
  have oF := hrW.ownI h1.fnd
  have iL := fun w' => oL.at.idx v (by rw [tab_len]; exact hv) w'
  have iF := fun w' => oF.at.idx v (by rw [tab_len]; exact hv) w'
  have cL := oL.at.cellD v (by rw [tab_len]; exact hv)
  have fL := oL.frz v (by rw [tab_len]; exact hv)
  have kL := (oL.toV.blkB v (by rw [List.length_map, tab_len]; exact hv)).2
  obtain ⟨f2, hr2, h2⟩ := h1.setLow hrW v hv (S.time + 1)
  rw [e1.out] at hr2
  have oF2 := hr2.ownI h2.fnd
  have cF := oF2.at.cellD v (by rw [tab_len]; exact hv)
  have fF := oF2.frz v (by rw [tab_len]; exact hv)
  have kF := (oF2.toV.blkB v (by rw [List.length_map, tab_len]; exact hv)).2
  have hS2 : (W.setCell (valAt lv v) (.int .i64 ((S.time : Int) + 1))).cell? ⟨d, 1, none⟩ = some lv ∧ (W.setCell (valAt lv v) (.int .i64 ((S.time : Int) + 1))).cell? ⟨d, 2, none⟩ = some fv ∧ (W.setCell (valAt lv v) (.int .i64 ((S.time : Int) + 1))).cell? ⟨d, 6, none⟩ = some (.int .i64 ((S.time : Int) + 1)) := ⟨h2.cell hr2 1 (by decide), h2.cell hr2 2 (by decide), by rw [← e1.out]; exact h2.cell hr2 6 (by decide)⟩
  obtain ⟨f3, hr3, h3⟩ := h2.setFound hr2 v hv (S.time + 1)
  rw [e1.out] at hr3
  have b3 : Below B w ((W.setCell (valAt lv v) (.int .i64 ((S.time : Int) + 1))).setCell (valAt fv v) (.int .i64 ((S.time : Int) + 1))) := (bW.setCell kL _).setCell kF _
  replace hr3 := Lib.hid hr3
  replace hr2 := Lib.hid hr2
  replace hrW := Lib.hid hrW
  clear oL oF oF2
  generalize valAt lv v = la at *
  generalize valAt fv v = fa at *
  refine headY (v := ?_) (some 11) rfl rfl (Or.inl ⟨by rfl, ?_⟩) hS ?_
  rotate_left
  · rintro W' ⟨s0, s1, s2⟩; go_simp; try with_reducible rfl
  simp only [Act.put, List.setIfInBounds_toArray, List.set_cons_zero, List.set_cons_succ]
  refine headY (v := ?_) (some 12) rfl rfl (Or.inl ⟨by rfl, ?_⟩) hS ?_
  rotate_left
  · rintro W' ⟨s0, s1, s2⟩; go_simp; try with_reducible rfl
  simp only [Act.put, List.setIfInBounds_toArray, List.set_cons_zero, List.set_cons_succ]
  refine headY (v := ?_) (some 13) rfl rfl (Or.inl ⟨by rfl, ?_⟩) hS ?_
  rotate_left
  · rintro W' ⟨s0, s1, s2⟩; go_simp; try with_reducible rfl
  simp only [Act.put, List.setIfInBounds_toArray, List.set_cons_zero, List.set_cons_succ]
  refine headY (v := ?_) (some 14) rfl rfl (Or.inl ⟨by rfl, ?_⟩) hS ?_
  rotate_left
  · rintro W' ⟨s0, s1, s2⟩; go_simp; try with_reducible rfl
  simp only [Act.put, List.setIfInBounds_toArray, List.set_cons_zero, List.set_cons_succ]
  refine headY (v := ?_) (some 15) rfl rfl (Or.inl ⟨by rfl, ?_⟩) hS ?_
  rotate_left
  · rintro W' ⟨s0, s1, s2⟩; go_simp; try with_reducible rfl
  simp only [Act.put, List.setIfInBounds_toArray, List.set_cons_zero, List.set_cons_succ]
  refine headY (v := ?_) (some 16) rfl rfl (Or.inl ⟨by rfl, ?_⟩) hS ?_
  rotate_left
  · rintro W' ⟨s0, s1, s2⟩; go_simp; try with_reducible rfl
  simp only [Act.put, List.setIfInBounds_toArray, List.set_cons_zero, List.set_cons_succ]
  refine headY (v := ?_) (some 17) rfl rfl (Or.inl ⟨by rfl, ?_⟩) hS ?_
  rotate_left
  · rintro W' ⟨s0, s1, s2⟩; go_simp; try with_reducible rfl
  simp only [Act.put, List.setIfInBounds_toArray, List.set_cons_zero, List.set_cons_succ]
  refine headY (v := ?_) (some 18) rfl rfl (Or.inl ⟨by rfl, ?_⟩) hS ?_
  rotate_left
  · rintro W' ⟨s0, s1, s2⟩; go_simp; try with_reducible rfl
  simp only [Act.put, List.setIfInBounds_toArray, List.set_cons_zero, List.set_cons_succ]
  refine headY (v := ?_) (some 19) rfl rfl (Or.inl ⟨by rfl, ?_⟩) hS ?_
  rotate_left
  · rintro W' ⟨s0, s1, s2⟩; go_simp; try with_reducible rfl
  simp only [Act.put, List.setIfInBounds_toArray, List.set_cons_zero, List.set_cons_succ]
  refine headY (v := ?_) (some 20) rfl rfl (Or.inl ⟨by rfl, ?_⟩) hS ?_
  rotate_left
  · rintro W' ⟨s0, s1, s2⟩; go_simp; try with_reducible rfl
  simp only [Act.put, List.setIfInBounds_toArray, List.set_cons_zero, List.set_cons_succ]
  refine headY (v := ?_) (some 21) rfl rfl (Or.inl ⟨by rfl, ?_⟩) hS ?_
  rotate_left
  · rintro W' ⟨s0, s1, s2⟩; go_simp; try with_reducible rfl
  simp only [Act.put, List.setIfInBounds_toArray, List.set_cons_zero, List.set_cons_succ]
  refine headY (v := ?_) (some 22) rfl rfl (Or.inl ⟨by rfl, ?_⟩) hS ?_
  rotate_left
  · rintro W' ⟨s0, s1, s2⟩; go_simp; try with_reducible rfl
  simp only [Act.put, List.setIfInBounds_toArray, List.set_cons_zero, List.set_cons_succ]
  refine headY (v := ?_) (some 23) rfl rfl (Or.inl ⟨by rfl, ?_⟩) hS ?_
  rotate_left
  · rintro W' ⟨s0, s1, s2⟩; go_simp; try with_reducible rfl
  simp only [Act.put, List.setIfInBounds_toArray, List.set_cons_zero, List.set_cons_succ]
  refine headY (v := ?_) (some 24) rfl rfl (Or.inl ⟨by rfl, ?_⟩) hS ?_
  rotate_left
  · rintro W' ⟨s0, s1, s2⟩; go_simp; try with_reducible rfl
  simp only [Act.put, List.setIfInBounds_toArray, List.set_cons_zero, List.set_cons_succ]
  refine headY (v := ?_) (some 25) rfl rfl (Or.inl ⟨by rfl, ?_⟩) hS ?_
  rotate_left
  · rintro W' ⟨s0, s1, s2⟩; go_simp; try with_reducible rfl
  simp only [Act.put, List.setIfInBounds_toArray, List.set_cons_zero, List.set_cons_succ]
  refine headY (v := ?_) (some 26) rfl rfl (Or.inl ⟨by rfl, ?_⟩) hS ?_
  rotate_left
  · rintro W' ⟨s0, s1, s2⟩; go_simp; try with_reducible rfl
  simp only [Act.put, List.setIfInBounds_toArray, List.set_cons_zero, List.set_cons_succ]
  refine headY (v := ?_) (some 27) rfl rfl (Or.inl ⟨by rfl, ?_⟩) hS ?_
  rotate_left
  · rintro W' ⟨s0, s1, s2⟩; go_simp; try with_reducible rfl
  simp only [Act.put, List.setIfInBounds_toArray, List.set_cons_zero, List.set_cons_succ]
  refine headY (v := ?_) (some 28) rfl rfl (Or.inl ⟨by rfl, ?_⟩) hS ?_
  rotate_left
  · rintro W' ⟨s0, s1, s2⟩; go_simp; try with_reducible rfl
  simp only [Act.put, List.setIfInBounds_toArray, List.set_cons_zero, List.set_cons_succ]
  refine headY (v := ?_) (some 29) rfl rfl (Or.inl ⟨by rfl, ?_⟩) hS ?_
  rotate_left
  · rintro W' ⟨s0, s1, s2⟩; go_simp; try with_reducible rfl
  simp only [Act.put, List.setIfInBounds_toArray, List.set_cons_zero, List.set_cons_succ]
  refine headC rfl (fun KK hK => ?_)
  -- CALL 19 slot none
  go_simp
  refine hK _ _ hS2 ?_
  clear hK KK
  refine headY (v := ?_) (some 30) rfl rfl (Or.inl ⟨by rfl, ?_⟩) hS2 ?_
  rotate_left
  · rintro W' ⟨s0, s1, s2⟩; go_simp; try with_reducible rfl
  simp only [Act.put, List.setIfInBounds_toArray, List.set_cons_zero, List.set_cons_succ]
  refine head0 ?_
  simp only [List.drop_succ_cons, List.drop_zero]
  clear hS hS2 cL fL
  go_wp2
  refine NoPanic.normal ?_
  obtain ⟨W3, hW3⟩ : ∃ W3 : World, W3 = (W.setCell la (.int .i64 ((S.time : Int) + 1))).setCell fa (.int .i64 ((S.time : Int) + 1)) := ⟨_, rfl⟩
  rw [← hW3]
  rw [← hW3] at hr3 b3
  clear hW3 iL iF cF fF
  have z3 := h3.cell hr3.out 3 (by decide)
  simp only [List.getElem?_cons_succ, List.getElem?_cons_zero] at z3
  have oO := hr3.out.ownI h3.opn
  have hB3 : B ≤ W3.heap.size := Nat.le_trans hB b3.size
  go_wp2_with (at_builtin; refine wpl_app1 rfl _ _ rfl B ov (upI S.opn) v oO rfl rfl (by rw [upI_len]; omega) hB3 ?_)
  intro ov' w4 ho4 b4 hal
  obtain ⟨y3, g3, b5, f5, hr5, h5⟩ := h3.pushOpen hr3.out hB3 v ho4 hal
  obtain ⟨oa, on, oc, rfl⟩ := ho4.at.shape
  have z5 := y3 5 (by decide)
  simp only [List.getElem?_cons_succ, List.getElem?_cons_zero] at z5
  have z33 := y3 3 (by decide)
  simp only [List.getElem?_cons_succ, List.getElem?_cons_zero] at z33
  have g33 := g3 3
  replace y3 := Lib.hid y3
  replace g3 := Lib.hid g3
  replace hr5 := Lib.hid hr5
  clear ho4 hal z3 oO
  have oC := hr5.out.1 _ _ h5.calls
  go_wp2_with (at_builtin; go_loud (refine wpl_appF rfl _ _ rfl B cv S.calls.length _ v 0 _ oC rfl rfl (by simp) (by omega) (Nat.le_trans hB3 b5.size) ?_))
  intro g c w6 ho6 hal6
  obtain ⟨y5, g5, b7, f7, hr7, h7⟩ := h5.pushCalls hr5.out (Nat.le_trans hB3 b5.size) v hnc ho6 (hal6.imp id (fun ⟨a, b⟩ => ⟨by simpa using a, b⟩))
  have z5 := y5 5 (by decide)
  simp only [List.getElem?_cons_succ, List.getElem?_cons_zero] at z5
  have g55 := g5 5
  replace y5 := Lib.hid y5
  replace g5 := Lib.hid g5
  replace hr7 := Lib.hid hr7
  clear ho6 hal6 oC
  go_wp2
  go_end0
  exact ⟨rfl, (b3.trans b5).trans b7, f7, _, _, hr7.out, h7⟩
end Go.Proofs.YtilpckngghffoaaGreatDoor
