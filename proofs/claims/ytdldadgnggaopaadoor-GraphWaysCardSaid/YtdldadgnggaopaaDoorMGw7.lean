/-
  Proved: the law edenlaw12.GraphWays as its tied card: it returns true and never panics, for any lists and any two numbers. No conditions beyond the card's own.
  Walks: the helpers of edenlaw12: awake, heavy, vertex, leads, goes.
  Walk: edenlaw12.goes at a way.
  What Path and Loop answer, as plain lists.
  Plain mathematics: the first of the shortest loops, by the least neighbour that is nearest.
  Walk: edenref12.Loop.
  What Path, Loop and Live answer is told by the graph.
  edenlaw12.lent, kept: a graph's lists lent, marks behind each; whether they are as they were.
  Errors as edenraw.Is takes them: a number from 1 to 11, few packages.
  What GraphParts and GraphWays take of the answers, the program's and the document's: lists read, an error.
  Walk: the law edenlaw12.GraphWays.
  Opening what a call is handed: []int, api.Rule, the package-level errors.
  From a card's list of laid variables that holds the handle of the type error: the package errors and errors.errorType.
  Opening a [][]int that a call is handed.
-/
import Derived.Test.YtdldadgnggaopaaDoorMGw6
import Derived.BigQuiet
import Derived.Deep.DeepCutAuto
import Derived.Test.YtdldadgnggaopaaDoorRows
import Derived.ProofKit
import Derived.OpenShut
import Derived.ShutString
import Derived.ChangeOld
import Derived.LaidMore
import Derived.Stop.Joined
import Derived.Stop.LaidErr
import Derived.Lib.SmallJoins
import Derived.LaidHandle
import Derived.Test.YtdldadgnggaopaaDoorCards
import Derived.Test.YtdldadgnggaopaaDoorTie
import Derived.SevenTiedAt
namespace Go.Proofs.YtdldadgnggaopaaDoor
open Go.RowKit
set_option maxRecDepth 100000

theorem lit_ints (w : World) (xs : List Int) (cs : Array Value) (hc : cs.toList = xs.map (Value.int .i64)) (hl : xs.length ≤ 10) : IntsAt (w.alloc (.cells cs 3)) (.slice (some ⟨w.heap.size, 0, none⟩) xs.length xs.length) xs :=
  (OwnI.lit w.heap.size w (Nat.le_refl _) xs (by unfold maxLen; omega) cs hc xs.length rfl).at

set_option maxHeartbeats 2000000 in
theorem awake12 (r : Nat → Addr) (w : World) (hg : Glob r w) : Calls Tryd.prog 19 #[] w (Ret1 (fun x _ => x = .bool true) w) := by
  replace hg := Lib.hid hg
  go_enter Tryd.func19, Tryd.ntmps19
  go_wp2_with fail
  refine (six_any _).mono ?_
  rintro e w1 ⟨x, rfl, b1, na, nc, rfl, hL⟩
  go_wp2_with fail
  refine (parts_any r na nc sixG w1 (hg.out.below b1) hL six_sz).mono ?_
  rintro e w2 ⟨pv, y, rfl, b2, he, hps, _⟩
  rw [six_check] at he
  obtain rfl := he.none_eq
  obtain ⟨ps, hps1, hpo⟩ := hps six_check
  obtain rfl := six_parts hps1
  have b02 := Below.step b1 b2
  clear he hps hps1 hL
  replace hpo := Lib.hid hpo
  go_wp2_with fail
  refine (six_any _).mono ?_
  rintro e w3 ⟨x, rfl, b3, ma, mc, rfl, hL⟩
  have b03 := Below.step b02 b3
  go_wp2_with fail
  refine (live_any r ma mc sixG w3 (hg.out.below b03) hL six_sz).mono ?_
  rintro e w4 ⟨lv, y, rfl, b4, he, hls, _⟩
  rw [six_check] at he
  obtain rfl := he.none_eq
  obtain ⟨L, hL1, hlo⟩ := hls six_check
  obtain rfl := six_live hL1
  have b04 := Below.step b03 b4
  clear he hls hL1 hL
  replace hlo := Lib.hid hlo
  go_wp2_with fail
  refine (six_any _).mono ?_
  rintro e w5 ⟨x, rfl, b5, qa, qc, rfl, hL⟩
  have b05 := Below.step b04 b5
  go_wp2_with fail
  refine (path_any r qa qc sixG 0 4 w5 (hg.out.below b05) hL six_sz).mono ?_
  rintro e w6 ⟨wv, y, rfl, b6, he, hfs, _⟩
  have hpe : pathE sixG 0 4 = none := pathE_ok (x := 0) (y := 4) six_check (by decide) (by decide)
  rw [hpe] at he
  obtain rfl := he.none_eq
  have b06 := Below.step b05 b6
  obtain ⟨u, hu, huo⟩ : ∃ u, IsFirst (adjOf sixG) 0 4 u ∧ OwnI w5.heap.size w6 wv (castI u) := by
    rcases hfs hpe with h | ⟨h, _⟩
    · exact h
    · exact absurd six_goes h
  obtain rfl := six_path hu
  clear he hfs hu hL hpe
  have hp6 := hpo.out.at.below (Below.step b3 (Below.step b4 (Below.step b5 b6)))
  have hl6 := hlo.out.at.below (Below.step b5 b6)
  have hw6 := huo.at
  replace hp6 := Lib.hid hp6
  replace hl6 := Lib.hid hl6
  replace hw6 := Lib.hid hw6
  replace huo := Lib.hid huo
  have bl1 := belowAlloc w6 (.cells #[.int .i64 0, .int .i64 1, .int .i64 1, .int .i64 2, .int .i64 3, .int .i64 4] 3)
  have hlit1 := lit_ints w6 [0, 1, 1, 2, 3, 4] #[.int .i64 0, .int .i64 1, .int .i64 1, .int .i64 2, .int .i64 3, .int .i64 4] rfl (by decide)
  replace hlit1 := Lib.hid hlit1
  go_wp2_with fail
  refine (ints_any pv _ _ _ _ (hp6.out.below bl1) hlit1.out).mono ?_
  rintro e w7 h7
  obtain ⟨rfl, b7⟩ := h7.below
  clear h7
  rw [show decide (([0, 1, 1, 2, 3, 4] : List Int) = [0, 1, 1, 2, 3, 4]) = true by decide]
  have b67 := Below.step bl1 b7
  have bl2 := belowAlloc w7 (.cells #[.int .i64 1, .int .i64 2, .int .i64 3, .int .i64 4] 3)
  have hlit2 := lit_ints w7 [1, 2, 3, 4] #[.int .i64 1, .int .i64 2, .int .i64 3, .int .i64 4] rfl (by decide)
  replace hlit2 := Lib.hid hlit2
  go_wp2_with fail
  refine (ints_any lv _ _ _ _ ((hl6.out.below b67).below bl2) hlit2.out).mono ?_
  rintro e w8 h8
  obtain ⟨rfl, b8⟩ := h8.below
  clear h8
  rw [show decide (castI [1, 2, 3, 4] = [1, 2, 3, 4]) = true by decide]
  have b68 := Below.step b67 (Below.step bl2 b8)
  have bl3 := belowAlloc w8 (.cells #[.int .i64 0, .int .i64 1, .int .i64 2, .int .i64 3, .int .i64 4] 3)
  have hlit3 := lit_ints w8 [0, 1, 2, 3, 4] #[.int .i64 0, .int .i64 1, .int .i64 2, .int .i64 3, .int .i64 4] rfl (by decide)
  replace hlit3 := Lib.hid hlit3
  go_wp2_with fail
  refine (ints_any wv _ _ _ _ ((hw6.out.below b68).below bl3) hlit3.out).mono ?_
  rintro e w9 h9
  obtain ⟨rfl, b9⟩ := h9.below
  clear h9
  rw [show decide (castI [0, 1, 2, 3, 4] = [0, 1, 2, 3, 4]) = true by decide]
  go_wp2
  go_ret
  exact ⟨_, rfl, Below.step b06 (Below.step b68 (Below.step bl3 b9)), rfl⟩

/-- heavy: what it tells of lists that are not. -/
def HeavyPost (G : List (List Int)) (x : Value) : Prop := ∃ b : Bool, x = .bool b ∧ (b = false → G.length ≤ 300 ∧ arrowsTo G G.length ≤ 4000)
set_option maxHeartbeats 1000000 in
theorem heavy_any (na : Option Addr) (nc : Nat) (G : List (List Int)) (w : World) (h : ListsAt w (.slice na G.length nc) G) (hsz : ∀ k, k < G.length → (G.getD k []).length ≤ 17592186044416) :
    Calls Tryd.prog 20 #[.slice na G.length nc] w (Ret1 (fun x _ => HeavyPost G x) w) := by
  have hn63 : G.length ≤ 9223372036854775807 := by
    obtain ⟨vs, h1, h2, _⟩ := h
    have := h1.len_le; omega
  replace h := Lib.hid h
  replace hsz := Lib.hid hsz
  go_enter Tryd.func20, Tryd.ntmps20
  go_wp2_with fail
  go_loopw [3, 4] (fun nv kv wr => ∃ k n : Nat, k ≤ G.length ∧ kv = .int .i64 k ∧ nv = .int .i64 (arrowsTo G k) ∧ arrowsTo G k ≤ 17592186054416 ∧ wr = w.drewN n) (fun _ kv _ => G.length - (intOf kv).toNat)
  case atStart => exact ⟨0, 0, by omega, rfl, rfl, by simp [arrowsTo], rfl⟩
  case round =>
    obtain ⟨k, n, hk, rfl, rfl, hle, rfl⟩ := hrel
    by_cases hlt : k < G.length
    · by_cases hbig : 4000 < arrowsTo G k
      · by_cases h300 : 300 < G.length
        · go_wp2
          go_ret
          exact ⟨_, rfl, below_drewN (Below.refl _ _) n, _, rfl, fun q => by simp at q <;> omega⟩
        · go_wp2
          go_ret
          exact ⟨_, rfl, below_drewN (Below.refl _ _) n, _, rfl, fun q => by simp at q <;> omega⟩
      · obtain ⟨mv, iR, cR, hM⟩ := h.out.row k hlt
        have hll := hsz.out k hlt
        have ha1 : arrowsTo G (k + 1) = arrowsTo G k + (G.getD k []).length := rfl
        generalize G.getD k [] = gk at *
        have lenM := hM.len
        generalize valAt (.slice na G.length nc) k = ra at *
        replace hM := Lib.hid hM
        replace ha1 := Lib.hid ha1
        go_wp2
        go_roundw
        case measure => simp [intOf]; omega
        case rel => exact ⟨k + 1, _, by omega, by go_num, by rw [ha1.out]; go_num, by rw [ha1.out]; omega, rfl⟩
    · obtain rfl : k = G.length := by omega
      by_cases h300 : 300 < G.length
      · go_wp2
        go_ret
        exact ⟨_, rfl, below_drewN (Below.refl _ _) n, _, rfl, fun q => by simp at q <;> omega⟩
      · by_cases hbig : 4000 < arrowsTo G G.length
        · go_wp2
          go_ret
          exact ⟨_, rfl, below_drewN (Below.refl _ _) n, _, rfl, fun q => by simp at q <;> omega⟩
        · go_wp2
          go_ret
          exact ⟨_, rfl, below_drewN (Below.refl _ _) n, _, rfl, fun _ => ⟨by omega, by omega⟩⟩

/-- vertex: what it tells where it says yes. -/
def VertexPost (G : List (List Int)) (a : Int) (x : Value) : Prop := ∃ b : Bool, x = .bool b ∧ (b = true → G.length ≤ 300 ∧ arrowsTo G G.length ≤ 4000 ∧ checkG G = none ∧ ∃ v : Nat, a = v ∧ v < G.length)
end Go.Proofs.YtdldadgnggaopaaDoor

namespace Go.Proofs.YtdldadgnggaopaaDoor
open Go.RowKit
set_option maxRecDepth 100000

/-- Vertices, each led to by an arrow from the one ahead. -/
def ChainOk (G : List (List Int)) (u : List Nat) : Prop := ∀ i x, u[i]? = some x → x < G.length ∧ ∀ j y, i = j + 1 → u[j]? = some y → (x : Int) ∈ G.getD y []
theorem adj_mem {G : List (List Int)} (hok : GraphOk G) {y x : Nat} (hy : y < G.length) (h : x ∈ adjOf G y) : (x : Int) ∈ G.getD y [] := by
  obtain ⟨z, hz, rfl⟩ := List.mem_map.1 h
  have := hok y hy z hz
  rwa [Int.toNat_of_nonneg this.1]
theorem way_chain {G : List (List Int)} (hok : GraphOk G) {x y : Nat} {w : List Nat} (h : Way (adjOf G) x y w) (hx : x < G.length) : ChainOk G w := by
  induction h with
  | one x =>
    intro i z hz
    have hi := get_of hz
    simp only [List.length_cons, List.length_nil] at hi
    obtain rfl : i = 0 := by omega
    injection hz with hz; subst hz
    exact ⟨hx, fun j y e => by omega⟩
  | @cons x t y w ht h ih =>
    have htn := hok.lt x hx t ht
    have ih := ih htn
    intro i z hz
    cases i with
    | zero => injection hz with hz; subst hz; exact ⟨hx, fun j y e => by omega⟩
    | succ i =>
      have hz' : w[i]? = some z := hz
      refine ⟨(ih i z hz').1, fun j y e hy => ?_⟩
      have e : j = i := by omega
      subst e
      cases j with
      | zero =>
        injection hy with hy; subst hy
        obtain ⟨w', rfl⟩ := h.ne
        injection hz' with hz'; subst hz'
        exact adj_mem hok hx ht
      | succ j => exact (ih (j + 1) z hz').2 j y rfl hy
theorem ChainOk.dropLast {G : List (List Int)} {u : List Nat} (h : ChainOk G u) : ChainOk G u.dropLast := by
  have up : ∀ i x, u.dropLast[i]? = some x → u[i]? = some x := fun i x hx => by
    rw [List.getElem?_dropLast] at hx
    split at hx
    · exact hx
    · cases hx
  intro i x hx
  exact ⟨(h i x (up i x hx)).1, fun j y e hy => (h i x (up i x hx)).2 j y e (up j y hy)⟩
theorem ChainOk.nil (G : List (List Int)) : ChainOk G [] := fun i x hx => by simp at hx

end Go.Proofs.YtdldadgnggaopaaDoor

namespace Go.Proofs.YtdldadgnggaopaaDoor
open Go.RowKit
set_option maxRecDepth 100000

/-- What Path answers, as one list: the first of the shortest ways, or none. -/
def WayList (adj : Nat → List Nat) (a b : Nat) (u : List Nat) : Prop := (u ≠ [] ∧ IsFirst adj a b u) ∨ (u = [] ∧ ¬ Goes adj a b)
theorem FirstPost.list {w w' : World} {adj : Nat → List Nat} {a b : Nat} {x : Value} (h : FirstPost w adj a b x w') : ∃ u, WayList adj a b u ∧ OwnI w.heap.size w' x (castI u) := by
  rcases h with ⟨u, h1, h2⟩ | ⟨h1, rfl⟩
  · exact ⟨u, .inl ⟨by intro e; subst e; exact absurd h1.way.pos (by simp), h1⟩, h2⟩
  · exact ⟨[], .inr ⟨rfl, h1⟩, OwnI.nil _ _⟩
theorem WayList.goes {adj : Nat → List Nat} {a b : Nat} {u : List Nat} (h : WayList adj a b u) : u ≠ [] ↔ Goes adj a b := by
  rcases h with ⟨h1, h2⟩ | ⟨h1, h2⟩
  · exact ⟨fun _ => h2.way.goes, fun _ => h1⟩
  · exact ⟨fun q => absurd h1 q, fun q => absurd q h2⟩
theorem WayList.chain {G : List (List Int)} (hok : GraphOk G) {a b : Nat} {u : List Nat} (h : WayList (adjOf G) a b u) (ha : a < G.length) : ChainOk G u := by
  rcases h with ⟨_, h2⟩ | ⟨h1, _⟩
  · exact way_chain hok h2.way ha
  · subst h1; exact ChainOk.nil G
theorem WayList.len {G : List (List Int)} (hok : GraphOk G) {a b : Nat} {u : List Nat} (h : WayList (adjOf G) a b u) (ha : a < G.length) : u.length ≤ G.length := by
  have hc := h.chain hok ha
  rcases h with ⟨_, q⟩ | ⟨q, _⟩
  · exact nodup_len G.length u q.nodup (fun x hx => by
      obtain ⟨i, hi⟩ := List.mem_iff_getElem?.1 hx
      exact (hc i x hi).1)
  · subst q; simp
/-- The ends. -/
theorem way_ends {adj : Nat → List Nat} {x y : Nat} {w : List Nat} (h : Way adj x y w) : w[0]? = some x ∧ w[w.length - 1]? = some y := by
  induction h with
  | one x => exact ⟨rfl, rfl⟩
  | @cons x t y w ht h ih =>
    refine ⟨rfl, ?_⟩
    have := h.pos
    rw [List.length_cons, Nat.add_sub_cancel, ← ih.2]
    obtain ⟨n, hn⟩ : ∃ n, w.length = n + 1 := ⟨w.length - 1, by omega⟩
    rw [hn, Nat.add_sub_cancel]; rfl
/-- A way in the graph with the end doubled, its last vertex left away. -/
theorem wide_way {G : List (List Int)} (hok : GraphOk G) {v : Nat} {x e : Nat} {u : List Nat} (h : Way (adjOf (wideG G v)) x e u) (he : e = G.length) (hx : x < G.length) : ∃ y, y < G.length ∧ v ∈ adjOf G y ∧ Way (adjOf G) x y u.dropLast := by
  induction h with
  | one x => omega
  | @cons x t y w ht h ih =>
    rcases (wide_adj hok v hx t).1 ht with ⟨_, h1, h2⟩ | ⟨h1, h2⟩
    · obtain ⟨z, z1, z2, z3⟩ := ih he h2
      have := h.pos
      refine ⟨z, z1, z2, ?_⟩
      rw [List.dropLast_cons_of_ne_nil (by intro q; subst q; simp at this)]
      exact .cons h1 z3
    · subst h1
      refine ⟨x, hx, h2, ?_⟩
      cases h with
      | one => exact .one x
      | cons ht' _ => rw [wide_end] at ht'; cases ht'
/-- What Loop answers, as one list: a way from a to a vertex with an arrow back to a; or none. -/
def LoopList (G : List (List Int)) (a : Nat) (l : List Nat) : Prop := l = [] ∨ ∃ y, y < G.length ∧ a ∈ adjOf G y ∧ Way (adjOf G) a y l
theorem LoopWay.list {w w' : World} {G : List (List Int)} (hok : GraphOk G) {a : Nat} (ha : a < G.length) {x : Value} (h : LoopWay w G a x w') : ∃ l, LoopList G a l ∧ OwnI w.heap.size w' x (castI l) := by
  rcases h with ⟨u, h1, h2⟩ | ⟨_, rfl⟩
  · exact ⟨u.dropLast, .inr (wide_way hok h1.way rfl ha), h2⟩
  · exact ⟨[], .inl rfl, OwnI.nil _ _⟩
theorem LoopList.chain {G : List (List Int)} (hok : GraphOk G) {a : Nat} {l : List Nat} (h : LoopList G a l) (ha : a < G.length) : ChainOk G l := by
  rcases h with h | ⟨y, _, _, h⟩
  · subst h; exact ChainOk.nil G
  · exact way_chain hok h ha
end Go.Proofs.YtdldadgnggaopaaDoor

namespace Go.Proofs.YtdldadgnggaopaaDoor

/-- The least of the nearest among the first k. -/
def NearTo (l : List Nat) (D : Nat → Int) (k : Nat) (b : Int) : Prop :=
  (b = -1 ∧ ∀ t ∈ l.take k, D t < 0) ∨ ∃ m : Nat, b = m ∧ m ∈ l.take k ∧ 0 ≤ D m ∧ ∀ t ∈ l.take k, 0 ≤ D t → D m < D t ∨ (D m = D t ∧ m ≤ t)
section
variable {l : List Nat} {D : Nat → Int} {k : Nat} {b : Int}
theorem NearTo.zero (l : List Nat) (D : Nat → Int) : NearTo l D 0 (-1) := .inl ⟨rfl, fun t ht => by simp at ht⟩
theorem NearTo.low (h : NearTo l D k b) : -1 ≤ b := by
  rcases h with ⟨h, _⟩ | ⟨m, h, _⟩ <;> omega
theorem NearTo.skip (h : NearTo l D k b) {t : Nat} (ht : l[k]? = some t) (hd : D t < 0) : NearTo l D (k + 1) b := by
  rcases h with ⟨h1, h2⟩ | ⟨m, h1, h2, h3, h4⟩
  · refine .inl ⟨h1, fun x hx => ?_⟩
    rcases (take_mem ht x).1 hx with hx | rfl
    · exact h2 x hx
    · exact hd
  · refine .inr ⟨m, h1, (take_mem ht m).2 (.inl h2), h3, fun x hx hxd => ?_⟩
    rcases (take_mem ht x).1 hx with hx | rfl
    · exact h4 x hx hxd
    · omega
theorem NearTo.fst (h : NearTo l D k b) {t : Nat} (ht : l[k]? = some t) (hd : 0 ≤ D t) (hb : b < 0) : NearTo l D (k + 1) t := by
  refine .inr ⟨t, rfl, (take_mem ht t).2 (.inr rfl), hd, fun x hx hxd => ?_⟩
  rcases (take_mem ht x).1 hx with hx | rfl
  · rcases h with ⟨h1, h2⟩ | ⟨m, h1, _⟩
    · have := h2 x hx; omega
    · omega
  · exact .inr ⟨rfl, Nat.le_refl _⟩
theorem NearTo.mark (h : NearTo l D k b) (hb : 0 ≤ b) : ∃ m : Nat, b = m ∧ m ∈ l ∧ 0 ≤ D m := by
  rcases h with ⟨h1, h2⟩ | ⟨m, h1, h2, h3, _⟩
  · omega
  · exact ⟨m, h1, List.mem_of_mem_take h2, h3⟩
theorem NearTo.take {m : Nat} (h : NearTo l D k (m : Int)) {t : Nat} (ht : l[k]? = some t) (hd : 0 ≤ D t) (hb : D t < D m ∨ (D t = D m ∧ t < m)) : NearTo l D (k + 1) t := by
  refine .inr ⟨t, rfl, (take_mem ht t).2 (.inr rfl), hd, fun x hx hxd => ?_⟩
  rcases (take_mem ht x).1 hx with hx | rfl
  · rcases h with ⟨h1, h2⟩ | ⟨m', h1, h2, h3, h4⟩
    · omega
    · obtain rfl : m = m' := by omega
      have := h4 x hx hxd
      omega
  · exact .inr ⟨rfl, Nat.le_refl _⟩
theorem NearTo.stay {m : Nat} (h : NearTo l D k (m : Int)) {t : Nat} (ht : l[k]? = some t) (hb : D m < D t ∨ (D m = D t ∧ m ≤ t)) : NearTo l D (k + 1) (m : Int) := by
  rcases h with ⟨h1, h2⟩ | ⟨m', h1, h2, h3, h4⟩
  · omega
  · obtain rfl : m = m' := by omega
    refine .inr ⟨m, rfl, (take_mem ht m).2 (.inl h2), h3, fun x hx hxd => ?_⟩
    rcases (take_mem ht x).1 hx with hx | rfl
    · exact h4 x hx hxd
    · exact hb
end
/-- A way to v that isn't at v before its end, told in the graph with v doubled. -/
theorem way_wide {G : List (List Int)} (hok : GraphOk G) {v : Nat} (hv : v < G.length) {x y : Nat} {w : List Nat} (h : Way (adjOf G) x y w) (hx : x < G.length) (hy : y = v) (hne : x ≠ v) (hn : v ∉ w.dropLast) : Way (adjOf (wideG G v)) x G.length (w.dropLast ++ [G.length]) := by
  induction h with
  | one => exact absurd hy hne
  | @cons x t y w ht h ih =>
    have hpos := h.pos
    have hwn : w ≠ [] := by intro q; subst q; simp at hpos
    rw [List.dropLast_cons_of_ne_nil hwn] at hn ⊢
    have htn := hok.lt x hx t ht
    by_cases e : t = v
    · subst e
      cases h with
      | one => exact .cons ((wide_adj hok t hx _).2 (.inr ⟨rfl, ht⟩)) (.one _)
      | @cons _ t2 _ w2 ht2 h2 =>
        exfalso
        have hp2 := h2.pos
        have : w2 ≠ [] := by intro q; subst q; simp at hp2
        rw [List.dropLast_cons_of_ne_nil this] at hn
        exact hn (List.mem_cons_of_mem _ List.mem_cons_self)
    · exact .cons ((wide_adj hok v hx t).2 (.inl ⟨e, ht, htn⟩)) (ih htn hy e (fun q => hn (List.mem_cons_of_mem _ q)))
/-- And back. -/
theorem wide_back {G : List (List Int)} (hok : GraphOk G) {v : Nat} {x e : Nat} {u : List Nat} (h : Way (adjOf (wideG G v)) x e u) (he : e = G.length) (hx : x < G.length) : Way (adjOf G) x v (u.dropLast ++ [v]) := by
  obtain ⟨y, _, hy, hw⟩ := wide_way hok h he hx
  exact hw.snoc hy
theorem lex_end {a b : Nat} : ∀ {p q : List Nat}, p.length = q.length → lexLe (p ++ [a]) (q ++ [a]) → lexLe (p ++ [b]) (q ++ [b])
  | [], [], _, _ => lexLe_refl _
  | [], _ :: _, h, _ => by simp at h
  | _ :: _, [], h, _ => by simp at h
  | x :: p, y :: q, h, hl => by
    rcases hl with hl | ⟨e, hl⟩
    · exact .inl hl
    · exact .inr ⟨e, lex_end (by simpa using h) hl⟩
theorem Way.ends {adj : Nat → List Nat} {x y : Nat} {w : List Nat} (h : Way adj x y w) : w.dropLast ++ [y] = w := by
  induction h with
  | one => rfl
  | @cons x t y w ht h ih =>
    have hp := h.pos
    have : w ≠ [] := by intro q; subst q; simp at hp
    rw [List.dropLast_cons_of_ne_nil this, List.cons_append, ih]
/-- The loop through the least of the nearest neighbours is the first of the shortest. -/
theorem loop_first {G : List (List Int)} (hok : GraphOk G) {v : Nat} (hv : v < G.length) {D : Nat → Int} (hT : ToOf G.length (adjOf G) v D) {m : Nat} (hm : m ∈ adjOf G v) (h0 : 0 ≤ D m)
    (hmin : ∀ t ∈ adjOf G v, 0 ≤ D t → D m < D t ∨ (D m = D t ∧ m ≤ t)) {w : List Nat} (hw : IsFirst (adjOf G) m v w) :
    IsFirst (adjOf (wideG G v)) v G.length (v :: (w.dropLast ++ [G.length])) := by
  have hmn := hok.lt v hv m hm
  have hwl := hT.first hmn hw
  have hends := hw.way.ends
  have hpos := hw.way.pos
  have hlen : (w.dropLast ++ [G.length]).length = w.length := by rw [List.length_append, List.length_dropLast, List.length_singleton]; omega
  have hfirst : Way (adjOf (wideG G v)) v G.length (v :: (w.dropLast ++ [G.length])) := by
    by_cases e : m = v
    · subst e
      rw [hw.self]
      exact .cons ((wide_adj hok m hv _).2 (.inr ⟨rfl, hm⟩)) (.one _)
    · refine .cons ((wide_adj hok v hv m).2 (.inl ⟨e, hm, hmn⟩)) (way_wide hok hv hw.way hmn rfl e ?_)
      have hnd := hw.nodup
      rw [← hends] at hnd
      intro hmem
      exact (List.nodup_append.1 hnd).2.2 v hmem v (by simp) rfl
  have key : ∀ u', ∀ t, t ∈ adjOf (wideG G v) v → Way (adjOf (wideG G v)) t G.length u' → ∃ t', t' ∈ adjOf G v ∧ Way (adjOf G) t' v (u'.dropLast ++ [v]) ∧ (t' = v → t = G.length ∨ t = v) ∧ (t ≠ G.length → t' = t) := by
    intro u' t ht hu
    rcases (wide_adj hok v hv t).1 ht with ⟨_, h1, h2⟩ | ⟨rfl, h2⟩
    · exact ⟨t, h1, wide_back hok hu rfl h2, fun e => .inr e, fun _ => rfl⟩
    · refine ⟨v, h2, ?_, fun _ => .inl rfl, fun q => absurd rfl q⟩
      cases hu with
      | one => exact .one v
      | cons ht _ => rw [wide_end] at ht; cases ht
  refine ⟨hfirst, fun u hu => ?_, fun u hu hl => ?_⟩
  · cases hu with
    | one => omega
    | @cons _ t _ u' ht hu' =>
      obtain ⟨t', ht', hw', _, _⟩ := key u' t ht hu'
      have htn := hok.lt v hv t' ht'
      have h1 := hT.le htn hw'
      have h2 := hmin t' ht' h1.1
      have hp := hu'.pos
      have h3 := h1.2
      rw [List.length_append, List.length_dropLast, List.length_singleton] at h3
      simp only [List.length_cons]
      rw [hlen]
      omega
  · cases hu with
    | one => omega
    | @cons _ t _ u' ht hu' =>
      obtain ⟨t', ht', hw', htv, htn'⟩ := key u' t ht hu'
      have htn := hok.lt v hv t' ht'
      have h1 := hT.le htn hw'
      have h2 := hmin t' ht' h1.1
      have hp := hu'.pos
      have h3 := h1.2
      rw [List.length_append, List.length_dropLast, List.length_singleton] at h3
      simp only [List.length_cons] at hl
      rw [hlen] at hl
      have hdm : D m = D t' := by omega
      have hmt : m ≤ t' := by omega
      refine .inr ⟨rfl, ?_⟩
      by_cases e : m = t'
      · subst e
        have hle := hw.least _ hw' (by rw [List.length_append, List.length_dropLast, List.length_singleton]; omega)
        rw [← hends] at hle
        have hu2 := hu'.ends
        rw [← hu2]
        exact lex_end (by rw [List.length_dropLast, List.length_dropLast]; omega) hle
      · have hlt : m < t' := by omega
        by_cases e2 : t = G.length
        · -- then t' is v
          have ht'v : t' = v := by
            rcases (wide_adj hok v hv t).1 ht with ⟨_, _, h2⟩ | _
            · omega
            · subst e2
              cases hu' with
              | one =>
                obtain ⟨z, hz⟩ := hw'.ne
                simp at hz; exact hz.1.symm
              | cons ht _ => rw [wide_end] at ht; cases ht
          subst ht'v
          have hD0 := hT.self hv
          have hw1 : w.length = 1 := by omega
          obtain ⟨z, rfl⟩ := hw.way.ne
          cases z with
          | nil =>
            have := hw.way.ends
            simp at this
            exact absurd this.symm e
          | cons => simp at hw1
        · have ht2 := htn' e2
          subst ht2
          obtain ⟨z, rfl⟩ := hu'.ne
          obtain ⟨y, rfl⟩ := hw.way.ne
          cases y with
          | nil =>
            have := hw.way.ends
            simp at this
            subst this
            have hD0 := hT.self hv
            have := hT.self hv
            -- D t = D m = 0: then t is v
            exfalso
            rcases hT t' htn with ⟨q, _⟩ | ⟨x, x1, x2, _⟩
            · omega
            · obtain ⟨x', rfl⟩ := x1.ne
              cases x' with
              | nil =>
                have := x1.ends
                simp at this
                omega
              | cons => simp only [List.length_cons] at x2; omega
          | cons => exact .inl hlt
/-- Where no neighbour leads back, there is no loop. -/
theorem loop_none {G : List (List Int)} (hok : GraphOk G) {v : Nat} (hv : v < G.length) {D : Nat → Int} (hT : ToOf G.length (adjOf G) v D) (h : ∀ t ∈ adjOf G v, D t < 0) : ¬ Goes (adjOf (wideG G v)) v G.length := by
  intro hg
  obtain ⟨u, hu⟩ := hg.way
  obtain ⟨y, hy, hvy, hw⟩ := wide_way hok hu rfl hv
  obtain ⟨t, ht, hgo⟩ := hw.goes.loop hvy
  have := (hT.pos (hok.lt v hv t ht)).2 hgo
  have := h t ht
  omega
end Go.Proofs.YtdldadgnggaopaaDoor

namespace Go.Proofs.YtdldadgnggaopaaDoor
open Go.RowKit
set_option maxRecDepth 100000

theorem LoopWay.set3 {w w3 w4 : World} {G : List (List Int)} {v : Nat} {x : Value} (h : LoopWay w3 G v x w4) {c : Nat} (hb : c < w3.heap.size) (hs : w.heap.size ≤ w3.heap.size) (y0 y1 y2 : Value) : LoopWay w G v x (((w4.setCell ⟨c, 0, none⟩ y0).setCell ⟨c, 1, none⟩ y1).setCell ⟨c, 2, none⟩ y2) := by
  rcases h with ⟨u, h1, h2⟩ | h
  · exact .inl ⟨u, h1, (h2.set3 hb y0 y1 y2).mono hs⟩
  · exact .inr h

set_option maxHeartbeats 4000000 in
theorem ref12_loop (na : Option Addr) (nc : Nat) (G : List (List Int)) (a : Int) (w : World) (h : ListsAt w (.slice na G.length nc) G) (hsz : ∀ k, k < G.length → (G.getD k []).length ≤ 17592186044416) :
    Calls Tryd.prog 32 #[.slice na G.length nc, .int .i64 a] w (Ret2 (RefPost w (loopE G a) (fun x w' => LoopWay w G a.toNat x w')) w) := by
  have b0 := belowAlloc w (.cells #[.int .i64 0, .slice none 0 0, .slice none 0 0] 45)
  have bx : Box3 (w.alloc (.cells #[.int .i64 0, .slice none 0 0, .slice none 0 0] 45)) w.heap.size (.int .i64 0) (.slice none 0 0) (.slice none 0 0) := by
    have q := cells3 (Below.refl (w.alloc (.cells #[.int .i64 0, .slice none 0 0, .slice none 0 0] 45)).heap.size (w.alloc (.cells #[.int .i64 0, .slice none 0 0, .slice none 0 0] 45)))
    exact ⟨⟨q.1, q.2.1, q.2.2.1⟩, q.2.2.2⟩
  have hsW : (w.alloc (.cells #[.int .i64 0, .slice none 0 0, .slice none 0 0] 45)).heap.size = w.heap.size + 1 := by simp
  have hC := ref12_check na nc G _ (h.below b0) hsz
  replace hC := Lib.hid hC
  replace bx := Lib.hid bx
  replace hsW := Lib.hid hsW
  replace h := Lib.hid h
  replace hsz := Lib.hid hsz
  go_enter Tryd.func32, Tryd.ntmps32
  go_wp2_with fail
  refine hC.out.mono ?_
  rintro e w1 ⟨x, rfl, b1, he⟩
  clear hC
  obtain ⟨q, a1, n1, c1, a2, n2, c2, rfl⟩ := he.shape
  obtain ⟨bb, bx2, hs2⟩ := err_box w1 (.int .i64 q) (.slice a1 n1 c1) (.slice a2 n2 c2)
  replace he := Lib.hid he
  go_upto_region 2 with fail
  obtain ⟨W2, hW2⟩ : ∃ W2 : World, W2 = w1.alloc (.cells #[.int .i64 q, .slice a1 n1 c1, .slice a2 n2 c2] 45) := ⟨_, rfl⟩
  rw [← hW2] at bb bx2 hs2 ⊢
  clear hW2
  obtain ⟨⟨y0, y1, y2⟩, _⟩ := bx2
  obtain ⟨eb, heb⟩ : ∃ eb, eb = w1.heap.size := ⟨_, rfl⟩
  rw [← heb] at y0 y1 y2 ⊢
  clear heb
  go_wp2_with fail
  refine (err_bad q a1 n1 c1 a2 n2 c2 W2).mono ?_
  rintro e w3 ⟨x, rfl, b3, rfl⟩
  have bW3 := Below.step bb b3
  have z0 := cell_keep b3 y0
  have z1 := cell_keep b3 y1
  have z2 := cell_keep b3 y2
  clear y0 y1 y2
  have bx3 := (bx.out.below b1).below bW3
  have b03 := Below.step b0 (Below.step b1 bW3)
  have he3 := he.out.below bW3
  have hsz3 : w.heap.size < w3.heap.size := by have := hsW.out; have := b1.size; have := bW3.size; omega
  cases hck : checkG G with
  | some t =>
    obtain ⟨n, l⟩ := t
    rw [hck] at he3
    have hn := checkG_num hck
    obtain rfl : q = n := by
      obtain ⟨_, _, _, _, _, _, e, _⟩ := he3
      simp at e; exact e.1
    rw [hn]
    obtain ⟨⟨r0, r1, r2⟩, f0, f1, f2⟩ := bx3
    replace he3 := Lib.hid he3
    replace hck := Lib.hid hck
    replace he := Lib.hid he
    have hE : loopE G a = some (q, l) := by unfold loopE; rw [hck.out]
    replace hE := Lib.hid hE
    go_upto_region 3 with fail
    refine wp_region_plan (fun w' => w'.cell? ⟨eb, 0, none⟩ = some (.int .i64 q) ∧ w'.cell? ⟨eb, 1, none⟩ = some (.slice a1 n1 c1) ∧ w'.cell? ⟨eb, 2, none⟩ = some (.slice a2 n2 c2)) 2 [(0, true), (1, true)] (by kernel_rfl) (by kernel_rfl) ?_
    have hS : w3.drew.cell? ⟨eb, 0, none⟩ = some (.int .i64 q) ∧ w3.drew.cell? ⟨eb, 1, none⟩ = some (.slice a1 n1 c1) ∧ w3.drew.cell? ⟨eb, 2, none⟩ = some (.slice a2 n2 c2) := ⟨z0, z1, z2⟩
    refine headY (v := ?_) (some 16) rfl rfl (Or.inl ⟨by rfl, ?_⟩) hS ?_
    rotate_left
    · rintro W' ⟨s0, s1, s2⟩; go_simp; try with_reducible rfl
    simp only [Act.put, List.setIfInBounds_toArray, List.set_cons_zero, List.set_cons_succ]
    refine headY (v := ?_) (some 4) rfl rfl (Or.inl ⟨by rfl, ?_⟩) hS ?_
    rotate_left
    · rintro W' ⟨s0, s1, s2⟩; go_simp; try with_reducible rfl
    simp only [Act.put, List.setIfInBounds_toArray, List.set_cons_zero, List.set_cons_succ]
    refine head0 ?_
    simp only [List.drop_succ_cons, List.drop_zero]
    clear hS
    go_wp2
    refine NoPanic.normal ?_
    go_wp2
    refine bodyPost_ret (v := .tuple #[.slice none 0 0, .agg #[.int .i64 q, .slice a1 n1 c1, .slice a2 n2 c2]]) (by simp [results, Tryd.results32, go_sem, r0, r1, r2]) rfl ⟨_, _, rfl, below_set3 (below_drewN b03 1) (by simp) _ _ _, ?_⟩
    rw [hE.out]
    exact ⟨(he3.out.set3 (by have := hsW.out; omega) _ _ _).mono (by have := hsW.out; omega), ⟨(fun q => (by cases q)), (fun _ => rfl)⟩⟩
  | none =>
    rw [hck] at he3
    have hz : (q = 0 ∧ (a1 = none ∧ n1 = 0 ∧ c1 = 0) ∧ a2 = none ∧ n2 = 0 ∧ c2 = 0) := by
      have e : (Value.agg #[.int .i64 q, .slice a1 n1 c1, .slice a2 n2 c2]) = zErr := he3
      simpa using e
    obtain ⟨rfl, ⟨rfl, rfl, rfl⟩, rfl, rfl, rfl⟩ := hz
    rw [show ((0 : Int) != 0) = false from rfl]
    have hck2 := checkG_none hck
    replace hck2 := Lib.hid hck2
    replace hck := Lib.hid hck
    replace he := Lib.hid he
    replace bx := Lib.hid bx.out
    clear he3 z0 z1 z2
    have hE0 : loopE G a = if outG G a then fresh sGraph 1 3 else none := by unfold loopE; rw [hck.out]
    by_cases ha0 : a < 0
    · have hE : loopE G a = fresh sGraph 1 3 := by rw [hE0, if_pos (.inl ha0)]
      replace hE0 := Lib.hid hE0
      replace hE := Lib.hid hE
      obtain ⟨⟨r0, r1, r2⟩, f0, f1, f2⟩ := bx3
      go_wp2_with fail
      refine (raw_new _ _ _ _).mono ?_
      rintro e w4 ⟨x, rfl, b4, he⟩
      obtain ⟨q, a1, n1, c1, a2, n2, c2, rfl⟩ := he.shape
      obtain ⟨s0, s1, s2⟩ := keep3 b4 ⟨r0, r1, r2⟩
      have g0 := (b4.frozen (p := ⟨w.heap.size, 0, none⟩) hsz3).trans f0
      have g1 := (b4.frozen (p := ⟨w.heap.size, 1, none⟩) hsz3).trans f1
      have g2 := (b4.frozen (p := ⟨w.heap.size, 2, none⟩) hsz3).trans f2
      replace he := Lib.hid he
      clear r0 r1 r2 f0 f1 f2
      go_wp2
      refine bodyPost_ret (v := .tuple #[.slice none 0 0, .agg #[.int .i64 q, .slice a1 n1 c1, .slice a2 n2 c2]]) (by simp [results, Tryd.results32, go_sem, s0, s1, s2]) rfl ⟨_, _, rfl, below_set3 (Below.step b03 b4) (by simp) _ _ _, ?_⟩
      rw [hE.out]
      exact ⟨(he.out.set3 hsz3 _ _ _).mono (by omega), ⟨(fun q => (by cases q)), (fun _ => rfl)⟩⟩
    by_cases ha1 : (G.length : Int) ≤ a
    · have hE : loopE G a = fresh sGraph 1 3 := by rw [hE0, if_pos (.inr ha1)]
      replace hE0 := Lib.hid hE0
      replace hE := Lib.hid hE
      obtain ⟨⟨r0, r1, r2⟩, f0, f1, f2⟩ := bx3
      go_wp2_with fail
      refine (raw_new _ _ _ _).mono ?_
      rintro e w4 ⟨x, rfl, b4, he⟩
      obtain ⟨q, a1, n1, c1, a2, n2, c2, rfl⟩ := he.shape
      obtain ⟨s0, s1, s2⟩ := keep3 b4 ⟨r0, r1, r2⟩
      have g0 := (b4.frozen (p := ⟨w.heap.size, 0, none⟩) hsz3).trans f0
      have g1 := (b4.frozen (p := ⟨w.heap.size, 1, none⟩) hsz3).trans f1
      have g2 := (b4.frozen (p := ⟨w.heap.size, 2, none⟩) hsz3).trans f2
      replace he := Lib.hid he
      clear r0 r1 r2 f0 f1 f2
      go_wp2
      refine bodyPost_ret (v := .tuple #[.slice none 0 0, .agg #[.int .i64 q, .slice a1 n1 c1, .slice a2 n2 c2]]) (by simp [results, Tryd.results32, go_sem, s0, s1, s2]) rfl ⟨_, _, rfl, below_set3 (Below.step b03 b4) (by simp) _ _ _, ?_⟩
      rw [hE.out]
      exact ⟨(he.out.set3 hsz3 _ _ _).mono (by omega), ⟨(fun q => (by cases q)), (fun _ => rfl)⟩⟩
    rw [if_neg (by unfold outG; omega)] at hE0
    obtain ⟨v, rfl⟩ := Int.eq_ofNat_of_zero_le (show 0 ≤ a by omega)
    have hv : v < G.length := by omega
    have ha1' : decide ((G.length : Int) ≤ (v : Int)) = false := by simp; omega
    replace hE0 := Lib.hid hE0
    replace bx3 := Lib.hid bx3
    have hok := hck2.out.2.2
    have hn := hck2.out.1
    have harr := hck2.out.2.1
    have hlen : ∀ k, k < G.length → (G.getD k []).length ≤ 262144 := fun k hk => by
      have := arrowsTo_mono G (show k + 1 ≤ G.length by omega)
      simp only [arrowsTo] at this; omega
    have hG3 := h.out.below b03
    replace hok := Lib.hid hok
    replace hlen := Lib.hid hlen
    replace hG3 := Lib.hid hG3
    go_wp2_with fail
    refine (ref_turned na nc G w3 hG3.out hok.out (by omega) harr).mono ?_
    rintro e w4 ⟨hvv, rfl, b4, H, hT, hHf⟩
    have hH := hHf.at
    obtain ⟨ha, hc, rfl⟩ := hH.shape
    have hHl : H.length = G.length := hT.t.1
    have hHok := turned_ok hT.t
    have hHsz : ∀ k, k < H.length → (H.getD k []).length ≤ 17592186044416 := fun k hk => by
      have := hT.t.2.1 k (by omega); omega
    have ba := belowAlloc w4 (.cells #[.int .i64 (v : Int)] 3)
    have hu := (OwnI.lit w4.heap.size w4 (Nat.le_refl _) [(v : Int)] (by simp [maxLen]) #[.int .i64 (v : Int)] rfl 1 rfl).at
    have hfar := ref_far ha hc H (.slice (some ⟨w4.heap.size, 0, none⟩) 1 1) v _ (hH.below ba) hu hHok (by omega) (by omega) hHsz
    rw [hHl] at hfar
    replace hfar := Lib.hid hfar
    replace hT := Lib.hid hT
    replace hH := Lib.hid hH
    replace hHf := Lib.hid hHf
    replace hHok := Lib.hid hHok
    replace hHsz := Lib.hid hHsz
    replace hu := Lib.hid hu
    go_wp2_with fail
    refine hfar.out.mono ?_
    rintro e w5 ⟨dv, rfl, b5, D, hD, hDn, hO⟩
    clear hfar
    have b35 := Below.step (Below.step b4 ba) b5
    have hTo := far_to hT.out.t hok.out hv hD
    have hOl := hO.mono (Nat.le_trans b4.size ba.size)
    obtain ⟨da, dn, dc, rfl⟩ := hOl.at.shape
    have b05 := Below.step b03 b35
    have hs5 : w.heap.size < w5.heap.size := by have := b35.size; omega
    have hBx := bx3.out.below b35
    obtain ⟨mv, iR, cR0, hM0⟩ := hG3.out.row v hv
    have cR := (b35.cell (World.block_lt_of_cell? _ _ cR0)).trans cR0
    have hM := hM0.below b35
    have hgx := hlen.out v hv
    have hgp := hok.out v hv
    have hadj : adjOf G v = (G.getD v []).map Int.toNat := rfl
    have hG5 := hG3.out.below b35
    generalize G.getD v [] = gx at *
    have lM := hM.len
    generalize valAt (.slice na G.length nc) v = ra at *
    replace hO := Lib.hid hO
    replace hOl := Lib.hid hOl
    replace hD := Lib.hid hD
    replace hDn := Lib.hid hDn
    replace hTo := Lib.hid hTo
    replace hM := Lib.hid hM
    replace hM0 := Lib.hid hM0
    replace cR0 := Lib.hid cR0
    replace hgp := Lib.hid hgp
    replace hadj := Lib.hid hadj
    replace hBx := Lib.hid hBx
    replace hG5 := Lib.hid hG5
    go_wp2_with fail
    go_loopw [8, 9] (fun bv kv wr => ∃ (k n : Nat) (b : Int), k ≤ gx.length ∧ kv = .int .i64 k ∧ bv = .int .i64 b ∧ NearTo (adjOf G v) D k b ∧ wr = w5.drewN n) (fun _ kv _ => gx.length - (intOf kv).toNat)
    case atStart => exact ⟨0, 0, -1, by omega, rfl, rfl, NearTo.zero _ _, rfl⟩
    case round =>
      obtain ⟨k, n, b, hk, rfl, rfl, hb, rfl⟩ := hrel
      have hbl := hb.low
      have hal : (adjOf G v).length = gx.length := by rw [hadj.out]; simp
      by_cases hkl : k < gx.length
      · obtain ⟨t, ht⟩ : ∃ t, (adjOf G v)[k]? = some t := ⟨_, List.getElem?_eq_getElem (by omega)⟩
        have hgt : gx.getD k 0 = (t : Int) ∧ t < G.length := by
          have hg := hgp.out gx[k] (List.getElem_mem hkl)
          have e := ht
          rw [hadj.out, List.getElem?_map, List.getElem?_eq_getElem hkl] at e
          injection e with e
          rw [List.getD_eq_getElem?_getD, List.getElem?_eq_getElem hkl, Option.getD_some]
          omega
        obtain ⟨hgd, htn⟩ := hgt
        have iT := fun w' => hM.out.idx k hkl w'
        have cT := hM.out.cellD k hkl
        rw [hgd] at cT
        have iD := fun w' => hOl.out.at.idx t (by rw [tabI_len]; exact htn) w'
        have cD := hOl.out.at.cellD t (by rw [tabI_len]; exact htn)
        rw [tabI_get _ _ _ htn] at cD
        generalize valAt mv k = ta at *
        generalize valAt (.slice da dn dc) t = tda at *
        obtain ⟨dt, hdt⟩ : ∃ dt, D t = dt := ⟨_, rfl⟩
        rw [hdt] at cD
        replace hgd := Lib.hid hgd
        by_cases hd0 : 0 ≤ dt
        · by_cases hb0 : b < 0
          · have hnx := hb.fst ht (by rw [hdt]; exact hd0) hb0
            have hb0d : decide (b < 0) = true := by simpa using hb0
            replace hnx := Lib.hid hnx
            replace hb := Lib.hid hb
            replace ht := Lib.hid ht
            replace hdt := Lib.hid hdt
            go_upto_region 12 with fail
            go_quiet (fail)
            go_wp2
            go_roundw
            case measure => simp [intOf]; omega
            case rel => exact ⟨k + 1, _, _, by omega, by go_num, rfl, hnx.out, rfl⟩
          · obtain ⟨m, rfl, hml, hm0⟩ := hb.mark (by omega)
            have hmn := hok.out.lt v hv m hml
            have hb0d : decide ((m : Int) < 0) = false := by simp
            have iB := fun w' => hOl.out.at.idx m (by rw [tabI_len]; exact hmn) w'
            have cB := hOl.out.at.cellD m (by rw [tabI_len]; exact hmn)
            rw [tabI_get _ _ _ hmn] at cB
            generalize valAt (.slice da dn dc) m = mda at *
            obtain ⟨dm, hdm⟩ : ∃ dm, D m = dm := ⟨_, rfl⟩
            rw [hdm] at cB hm0
            by_cases h1 : dt < dm
            · have hnx := hb.take ht (by rw [hdt]; exact hd0) (.inl (by rw [hdt, hdm]; exact h1))
              have h1d : decide (dt < dm) = true := by simpa using h1
              replace hnx := Lib.hid hnx
              replace hb := Lib.hid hb
              replace ht := Lib.hid ht
              replace hdt := Lib.hid hdt
              replace hdm := Lib.hid hdm
              go_upto_region 12 with fail
              go_quiet (fail)
              go_wp2
              go_roundw
              case measure => simp [intOf]; omega
              case rel => exact ⟨k + 1, _, _, by omega, by go_num, rfl, hnx.out, rfl⟩
            · have h1d : decide (dt < dm) = false := by simpa using h1
              by_cases h2 : dt = dm
              · have h2q : (dt == dm) = true := by rw [beq_iff_eq]; exact h2
                by_cases h3 : t < m
                · have hnx := hb.take ht (by rw [hdt]; exact hd0) (.inr ⟨by rw [hdt, hdm]; exact h2, h3⟩)
                  have h3d : decide ((t : Int) < (m : Int)) = true := by simpa using h3
                  have h3e : decide (t < m) = true := by simpa using h3
                  replace hnx := Lib.hid hnx
                  replace hb := Lib.hid hb
                  replace ht := Lib.hid ht
                  replace hdt := Lib.hid hdt
                  replace hdm := Lib.hid hdm
                  replace h2 := Lib.hid h2
                  go_upto_region 12 with fail
                  go_quiet (fail)
                  go_wp2
                  go_roundw
                  case measure => simp [intOf]; omega
                  case rel => exact ⟨k + 1, _, _, by omega, by go_num, rfl, hnx.out, rfl⟩
                · have hnx := hb.stay ht (.inr ⟨by rw [hdt, hdm]; exact h2.symm, by omega⟩)
                  have h3d : decide ((t : Int) < (m : Int)) = false := by simp; omega
                  have h3e : decide (t < m) = false := by simpa using h3
                  replace hnx := Lib.hid hnx
                  replace hb := Lib.hid hb
                  replace ht := Lib.hid ht
                  replace hdt := Lib.hid hdt
                  replace hdm := Lib.hid hdm
                  replace h2 := Lib.hid h2
                  go_upto_region 12 with fail
                  go_quiet (fail)
                  go_wp2
                  go_roundw
                  case measure => simp [intOf]; omega
                  case rel => exact ⟨k + 1, _, _, by omega, by go_num, rfl, hnx.out, rfl⟩
              · have h2q : (dt == dm) = false := by rw [beq_eq_false_iff_ne]; exact h2
                have hnx := hb.stay ht (.inl (by rw [hdt, hdm]; omega))
                replace hnx := Lib.hid hnx
                replace hb := Lib.hid hb
                replace ht := Lib.hid ht
                replace hdt := Lib.hid hdt
                replace hdm := Lib.hid hdm
                replace h2 := Lib.hid h2
                go_upto_region 12 with fail
                go_quiet (fail)
                go_wp2
                go_roundw
                case measure => simp [intOf]; omega
                case rel => exact ⟨k + 1, _, _, by omega, by go_num, rfl, hnx.out, rfl⟩
        · have hnx := hb.skip ht (by rw [hdt]; omega)
          have hd0d : decide (0 ≤ dt) = false := by simpa using hd0
          replace hnx := Lib.hid hnx
          replace hb := Lib.hid hb
          replace ht := Lib.hid ht
          replace hdt := Lib.hid hdt
          go_upto_region 12 with fail
          go_quiet (fail)
          go_wp2
          go_roundw
          case measure => simp [intOf]; omega
          case rel => exact ⟨k + 1, _, _, by omega, by go_num, rfl, hnx.out, rfl⟩
      · obtain rfl : k = gx.length := by omega
        rw [NearTo, ← hal, List.take_length] at hb
        have bn : Below w.heap.size w (w5.drewN n) := below_drewN b05 n
        rcases hb with ⟨rfl, hall⟩ | ⟨m, rfl, hml, hm0, hmin⟩
        · have hno := loop_none hok.out hv hTo.out hall
          obtain ⟨⟨s0, s1, s2⟩, g0, g1, g2⟩ := hBx.out
          replace hno := Lib.hid hno
          replace hall := Lib.hid hall
          go_wp2
          refine bodyPost_ret (v := .tuple #[.slice none 0 0, zErr]) (by simp [results, Tryd.results32, go_sem, s0, s1, s2]) rfl ⟨_, _, rfl, below_set3 bn (by simp) _ _ _, ?_⟩
          rw [hE0.out]
          exact ⟨rfl, ⟨(fun _ => .inr ⟨by rw [Int.toNat_natCast]; exact hno.out, rfl⟩), (fun q => absurd rfl q)⟩⟩
        · have hmn := hok.out.lt v hv m hml
          have hgo := (hTo.out.pos hmn).1 hm0
          have hlf := fun (u : List Nat) (hu : IsFirst (adjOf G) m v u) => loop_first hok.out hv hTo.out hml hm0 hmin hu
          have hn0 : decide ((m : Int) < 0) = false := by simp
          obtain ⟨wq, hwq⟩ : ∃ wq, wq = w5.drewN n := ⟨_, rfl⟩
          have hsq : wq.heap.size = w5.heap.size := by rw [hwq]; rfl
          replace hsq := Lib.hid hsq
          have bl1 := belowAlloc wq (.cells #[.int .i64 (v : Int)] 3)
          have hl1 := OwnI.lit wq.heap.size wq (Nat.le_refl _) [(v : Int)] (by simp [maxLen]) #[.int .i64 (v : Int)] rfl 1 rfl
          have hGq : ListsAt wq (.slice na G.length nc) G := by rw [hwq]; exact hG5.out.drewN n
          have hwayc := ref_way na nc G m v _ (hGq.below bl1) hok.out (by omega) harr hmn hv
          have hBq : Box3 wq w.heap.size (.int .i64 0) (.slice none 0 0) (.slice none 0 0) := by rw [hwq]; exact hBx.out
          rw [← hwq] at bn
          have cRq : wq.cell? ra = some mv := by rw [hwq]; exact cR
          replace hwayc := Lib.hid hwayc
          replace hlf := Lib.hid hlf
          replace hmin := Lib.hid hmin
          replace hGq := Lib.hid hGq
          replace hBq := Lib.hid hBq
          replace hl1 := Lib.hid hl1
          go_upto_region 14 with fail
          rw [← hwq]
          clear hwq cR
          go_wp2_with fail
          refine hwayc.out.mono ?_
          rintro e w6 ⟨xv, rfl, b6, hx⟩
          clear hwayc
          obtain ⟨u, hu, hxo⟩ := hx.resolve_right (fun q => q.1 hgo)
          have hl6 := hl1.out.below b6
          have bq6 := Below.step bl1 b6
          have hul := hu.way.pos
          have huf := hlf.out u hu
          have hun : u.length ≤ 10000 := by
            have hc := way_chain hok.out hu.way hmn
            have := nodup_len G.length u hu.nodup (fun x hx => by
              obtain ⟨i, hi⟩ := List.mem_iff_getElem?.1 hx
              exact (hc i x hi).1)
            omega
          have hsz6 := b6.size
          have hszl := bl1.size
          replace hu := Lib.hid hu
          replace hx := Lib.hid hx
          replace huf := Lib.hid huf
          go_wp2_with (at_builtin; refine wpl_append rfl _ _ rfl wq.heap.size _ xv [(v : Int)] (castI u) hl6 hxo.at rfl rfl (by rw [castI_len]; simp; omega) (by omega) ?_)
          intro ov w7 hov b7 _ _
          have eov : (v : Int) :: castI u = castI (v :: u) := rfl
          rw [show ((v : Int) :: castI u) = castI (v :: u) from rfl] at hov
          obtain ⟨g, c, e1, e2⟩ := row_shape (show w7.ownsRow wq.heap.size 3 1 ov (castI (v :: u)).length ((castI (v :: u)).map (Value.int .i64)) from hov) (by rw [castI_len]; simp)
          rw [castI_len, List.length_cons] at e1 e2
          obtain ⟨m1, hm1⟩ : ∃ m1, u.length = m1 := ⟨_, rfl⟩
          rw [hm1] at e1 e2 hul hun
          subst e1
          have hcut := hov.cut (by rw [castI_len, List.length_cons, hm1])
          have hdl : (castI (v :: u)).take m1 = castI (v :: u.dropLast) := by
            unfold castI
            rw [← List.map_take]
            congr 1
            obtain ⟨m2, hm2⟩ : ∃ m2, m1 = m2 + 1 := ⟨m1 - 1, by omega⟩
            rw [hm2, List.take_succ_cons, List.dropLast_eq_take, hm1, hm2]; rfl
          rw [hdl] at hcut
          have hwr : IntKind.i64.wrap (m1 : Int) = m1 := wrapK (by omega) (by omega)
          have hsl : (0 ≤ (m1 : Int) ∧ (m1 : Int) ≤ (c : Int)) := ⟨by omega, by omega⟩
          have hfin : LoopWay wq G v (.slice (some ⟨g, 0, none⟩) m1 c) w7 := .inl ⟨_, huf.out, by rw [List.dropLast_cons_of_ne_nil (by simp), List.dropLast_concat]; exact hcut⟩
          have bq7 : Below wq.heap.size wq w7 := bq6.trans b7
          obtain ⟨⟨s0, s1, s2⟩, g0, g1, g2⟩ := hBq.out.below bq7
          have be := Below.step bn bq7
          have hsqw : w.heap.size < wq.heap.size := by have := hsq.out; omega
          replace hfin := Lib.hid hfin
          replace hcut := Lib.hid hcut
          replace hov := Lib.hid hov
          replace hdl := Lib.hid hdl
          replace hm1 := Lib.hid hm1
          replace hxo := Lib.hid hxo
          replace hl6 := Lib.hid hl6
          replace eov := Lib.hid eov
          go_wp2
          refine bodyPost_ret (v := .tuple #[.slice (some ⟨g, 0, none⟩) m1 c, zErr]) (by simp [results, Tryd.results32, go_sem, s0, s1, s2]) rfl ⟨_, _, rfl, below_set3 be (by simp) _ _ _, ?_⟩
          rw [hE0.out]
          refine ⟨rfl, ⟨(fun _ => ?_), (fun q => absurd rfl q)⟩⟩
          rw [Int.toNat_natCast]
          exact hfin.out.set3 hsqw (Nat.le_of_lt hsqw) _ _ _
end Go.Proofs.YtdldadgnggaopaaDoor

namespace Go.Proofs.YtdldadgnggaopaaDoor
open Go.RowKit
set_option maxRecDepth 100000

theorem WayList.unique {adj : Nat → List Nat} {a b : Nat} {u v : List Nat} (h : WayList adj a b u) (k : WayList adj a b v) : u = v := by
  rcases h with ⟨h1, h2⟩ | ⟨h1, h2⟩
  · rcases k with ⟨_, k2⟩ | ⟨_, k2⟩
    · exact h2.unique k2
    · exact absurd h2.way.goes k2
  · rcases k with ⟨_, k2⟩ | ⟨k1, _⟩
    · exact absurd k2.way.goes h2
    · rw [h1, k1]
theorem LiveList.len {n : Nat} {adj : Nat → List Nat} {L : List Nat} (h : LiveList n adj L) : L.length ≤ n :=
  nodup_len n L (h.sorted.imp (fun q => Nat.ne_of_lt q)) (fun x hx => ((h.mem x).1 hx).1)
theorem LoopWay.own {w w' : World} {G : List (List Int)} (hok : GraphOk G) {a : Nat} (ha : a < G.length) {x : Value} (h : LoopWay w G a x w') :
    ∃ l : List Nat, l.length ≤ G.length + 1 ∧ OwnI w.heap.size w' x (castI l) := by
  rcases h with ⟨u, h1, h2⟩ | ⟨h1, rfl⟩
  · refine ⟨u.dropLast, ?_, h2⟩
    have hc := way_chain (wideG_ok hok a) h1.way (by rw [wideG_len]; omega)
    have := nodup_len (G.length + 1) u h1.nodup (fun x hx => by
      obtain ⟨i, hi⟩ := List.mem_iff_getElem?.1 hx
      have := (hc i x hi).1
      rwa [wideG_len] at this)
    simp; omega
  · exact ⟨[], by simp, OwnI.nil _ _⟩

end Go.Proofs.YtdldadgnggaopaaDoor

namespace Go.Proofs.YtdldadgnggaopaaDoor
open Go.RowKit
set_option maxRecDepth 100000

theorem OwnV.belowB {E : TypeId} {B B' : Nat} {w w' : World} {v : Value} {xs : List Value} (h : OwnV E B w v xs) (hb : Below B' w w') (hlt : ∀ k, v.ownBlock = some k → k < B') : OwnV E B w' v xs := by
  refine ⟨h.1, ?_⟩
  rcases h.2 with h2 | ⟨g, cap, cur, rfl, hB, hg, r⟩
  · exact .inl h2
  · exact .inr ⟨g, cap, cur, rfl, hB, by rw [hb.block g (hlt g rfl)]; exact hg, r⟩

/-- Lists that are lent: all lies below block S. -/
def LentG (S : Nat) (w : World) (ov : Value) (G : List (List Int)) : Prop :=
  ∃ vals, OwnV 22 0 w ov vals ∧ (∀ k, ov.ownBlock = some k → k < S) ∧ vals.length = G.length ∧
    ∀ u, u < G.length → ∃ v, vAt vals u = preV v (G.getD u []).length ∧ OwnI 0 w v (G.getD u [] ++ [7001, 7002]) ∧ ∀ k, v.ownBlock = some k → k < S
theorem LentG.belowB {S : Nat} {w w' : World} {ov : Value} {G : List (List Int)} (h : LentG S w ov G) (hb : Below S w w') : LentG S w' ov G := by
  obtain ⟨vals, h1, h2, h3, h4⟩ := h
  refine ⟨vals, h1.belowB hb h2, h2, h3, fun u hu => ?_⟩
  obtain ⟨v, q1, q2, q3⟩ := h4 u hu
  exact ⟨v, q1, q2.belowB hb q3, q3⟩
theorem LentG.row {S : Nat} {w : World} {ov : Value} {G : List (List Int)} (h : LentG S w ov G) (u : Nat) (hu : u < G.length) :
    ∃ mv, (∀ w', (Instr.indexAt 33 ov (.int .i64 u)).run Tryd.prog w' = .ok (.pointer (some (valAt ov u))) w') ∧ w.cell? (valAt ov u) = some mv ∧ LentI 0 w mv (G.getD u []) := by
  obtain ⟨vals, h1, h2, h3, h4⟩ := h
  obtain ⟨v, q1, q2, q3⟩ := h4 u hu
  exact ⟨vAt vals u, fun w' => h1.at.idx oneLists u (by omega) w', h1.at.cellV u (by omega), v, q1, q2⟩
theorem LentG.lists {S : Nat} {w : World} {ov : Value} {G : List (List Int)} (h : LentG S w ov G) : ListsAt w ov G := by
  obtain ⟨vals, h1, h2, h3, h4⟩ := h
  refine ⟨vals, h1.at, h3, fun u hu => ?_⟩
  obtain ⟨v, q1, q2, q3⟩ := h4 u hu
  have hl : LentI 0 w (vAt vals u) (G.getD u []) := ⟨v, q1, q2⟩
  exact hl.at
/-- What the names name, k lists lent. -/
structure LN (f : Names) (ov : Value) (vals : List Value) (G : List (List Int)) (k : Nat) : Prop where
  outer : f (1, 0) = some (rowV 22 ov vals)
  len : vals.length = G.length
  rows : ∀ u, u < k → ∃ v, vAt vals u = preV v (G.getD u []).length ∧ f (2, u) = some (rowI v (G.getD u [] ++ [7001, 7002]))
section
variable {B : Nat} {w : World} {f : Names} {ov : Value} {vals : List Value} {G : List (List Int)} {k : Nat}
theorem LN.put (h : LN f ov vals G k) (hr : Rows B w f) (hk : k < G.length) {w1 : World} {m : Value} (hb : Below w.heap.size w w1) (hB : B ≤ w.heap.size) (hm : LentI w.heap.size w1 m (G.getD k [])) :
    w1.cell? (valAt ov k) = some (vAt vals k) ∧ w1.frozen? (valAt ov k) = false ∧ B ≤ (valAt ov k).block ∧
    ∃ f', Rows B (w1.setCell (valAt ov k) m) f' ∧ LN f' ov (vals.set k m) G (k + 1) := by
  obtain ⟨v, rfl, hv⟩ := hm
  have hr1 : Rows B w1 (upd f (2, k) (some (rowI v (G.getD k [] ++ [7001, 7002])))) := hr.add hb (hv.mono hB) (fun b hb' => (hv.lt b hb').1)
  have ho : upd f (2, k) (some (rowI v (G.getD k [] ++ [7001, 7002]))) (1, 0) = some (rowV 22 ov vals) := by rw [upd_ne _ _ (by simp)]; exact h.outer
  have hl : k < vals.length := by rw [h.len]; exact hk
  have hO := hr1.ownV ho
  refine ⟨hO.at.cellV k hl, hO.frz k hl, (hO.blkB k hl).2, _, hr1.setV ho k hl _, ⟨upd_same _ _ _, by simpa using h.len, fun t ht => ?_⟩⟩
  rw [upd_ne _ _ (by simp)]
  by_cases e : t = k
  · subst e
    exact ⟨v, vAt_set_same hl, upd_same _ _ _⟩
  · rw [upd_ne _ _ (by simpa using e), vAt_set_ne e]
    exact h.rows t (by omega)
theorem LN.end_ (h : LN f ov vals G G.length) (hr : Rows B w f) : LentG w.heap.size w ov G := by
  have hO := hr.ownV h.outer
  refine ⟨vals, hO.mono (Nat.zero_le _), fun b hb => (hO.lt b hb).2, h.len, fun u hu => ?_⟩
  obtain ⟨v, q1, q2⟩ := h.rows u hu
  have hv := hr.ownI q2
  exact ⟨v, q1, hv.mono (Nat.zero_le _), fun b hb => (hv.lt b hb).2⟩
theorem LN.made {w0 : World} (G : List (List Int)) (hb : Below w0.heap.size w0 w) (hB : B ≤ w0.heap.size) (ho : OwnV 22 w0.heap.size w ov (List.replicate G.length (.slice none 0 0))) :
    ∃ f, Rows B w f ∧ LN f ov (List.replicate G.length (.slice none 0 0)) G 0 :=
  ⟨_, (show Rows B w0 (fun _ => none) from ⟨fun _ _ h => (by cases h), fun _ _ _ _ h => (by cases h)⟩).add (i := (1, 0)) (r' := rowV 22 ov (List.replicate G.length (.slice none 0 0))) hb (ho.mono hB) (fun k hk => (ho.lt k hk).1), upd_same _ _ _, by simp, fun u hu => by omega⟩
end

set_option maxHeartbeats 1000000 in
theorem lentG_any (na : Option Addr) (nc : Nat) (G : List (List Int)) (w : World) (h : ListsAt w (.slice na G.length nc) G) (hn : G.length ≤ 10000) (hsz : ∀ k, k < G.length → (G.getD k []).length ≤ 17592186044414) :
    Calls Tryd.prog 21 #[.slice na G.length nc] w (Ret1 (fun x w' => LentG w'.heap.size w' x G) w) := by
  obtain ⟨ov, w1, hmk, ho, b1⟩ := run_makeW oneLists (G.length : Int) G.length w rfl (by omega)
  obtain ⟨f1, hr1, hN1⟩ := LN.made (B := w.heap.size) G b1 (Nat.le_refl _) ho
  have b01 := b1
  replace hr1 := Lib.hid hr1
  replace hN1 := Lib.hid hN1
  replace h := Lib.hid h
  replace hsz := Lib.hid hsz
  clear ho
  go_enter Tryd.func21, Tryd.ntmps21
  go_wp2_with fail
  go_loopw [4] (fun kv wr => ∃ (k : Nat) (f : Names) (vals : List Value), k ≤ G.length ∧ kv = .int .i64 k ∧ Rows w.heap.size wr f ∧ LN f ov vals G k ∧ Below w.heap.size w wr) (fun kv _ => G.length - (intOf kv).toNat)
  case atStart => exact ⟨0, f1, _, by omega, rfl, hr1.out, hN1.out, b01⟩
  case round =>
    obtain ⟨k, f, vals, hk, rfl, hr, hN, bw⟩ := hrel
    by_cases hlt : k < G.length
    · obtain ⟨mv, iR, cR, hM⟩ := (h.out.below bw).row k hlt
      have hll := hsz.out k hlt
      have hB := bw.size
      have iO : ∀ w', (Instr.indexAt 33 ov (.int .i64 k)).run Tryd.prog w' = .ok (.pointer (some (valAt ov k))) w' := fun w' => (hr.ownV hN.outer).at.idx oneLists k (by rw [hN.len]; exact hlt) w'
      replace hr := Lib.hid hr
      replace hN := Lib.hid hN
      generalize hra : valAt (.slice na G.length nc) k = ra at *
      replace hra := Lib.hid hra
      go_wp2_with fail
      refine (lent_any mv (G.getD k []) wr hM hll).mono ?_
      rintro e w2 ⟨m, rfl, b2, hm⟩
      obtain ⟨ma, mn, mc, rfl⟩ := hm.at.shape
      obtain ⟨cO, fO, bO, f2, hr2, hN2⟩ := hN.out.put hr.out hlt b2 hB hm
      replace hr2 := Lib.hid hr2
      replace hN2 := Lib.hid hN2
      replace hm := Lib.hid hm
      have b3 : Below w.heap.size w (w2.setCell (valAt ov k) (.slice ma mn mc)) := (Below.step bw b2).setCell bO _
      obtain ⟨oa, hoa⟩ : ∃ oa, valAt ov k = oa := ⟨_, rfl⟩
      rw [hoa] at iO cO fO bO b3 hr2
      replace hoa := Lib.hid hoa
      go_wp2
      go_roundw
      case measure => simp [intOf]; omega
      case rel => exact ⟨k + 1, f2, _, by omega, by go_num, hr2.out, hN2.out, b3⟩
    · obtain rfl : k = G.length := by omega
      go_wp2
      go_ret
      exact ⟨_, rfl, bw, hN.end_ hr⟩

set_option maxHeartbeats 1000000 in
theorem keptG_any (S : Nat) (ov : Value) (na : Option Addr) (nc : Nat) (G : List (List Int)) (w : World) (hm : LentG S w ov G) (h : ListsAt w (.slice na G.length nc) G) (hn : G.length ≤ 10000) (hsz : ∀ k, k < G.length → (G.getD k []).length ≤ 17592186044414) :
    Calls Tryd.prog 28 #[ov, .slice na G.length nc] w (RetB true w) := by
  have lO := hm.lists.len
  replace hm := Lib.hid hm
  replace h := Lib.hid h
  replace hsz := Lib.hid hsz
  go_enter Tryd.func28, Tryd.ntmps28
  go_wp2_with fail
  go_loopw [5] (fun kv wr => ∃ k n : Nat, k ≤ G.length ∧ kv = .int .i64 k ∧ wr = w.drewN n) (fun kv _ => G.length - (intOf kv).toNat)
  case atStart => exact ⟨0, 0, by omega, rfl, rfl⟩
  case round =>
    obtain ⟨k, n, hk, rfl, rfl⟩ := hrel
    by_cases hlt : k < G.length
    · obtain ⟨gv, iG, cG, hG⟩ := h.out.row k hlt
      obtain ⟨mv, iM, cM, hM⟩ := hm.out.row k hlt
      have hke := kept_any 0 mv gv (G.getD k []) (w.drewN n).drew (show LentI 0 (w.drewN n).drew mv (G.getD k []) from hM) (hG.drewN n) (hsz.out k hlt)
      have lO2 := lO
      generalize hga : valAt (.slice na G.length nc) k = ga at *
      generalize hma : valAt ov k = ma at *
      replace hga := Lib.hid hga
      replace hma := Lib.hid hma
      replace hke := Lib.hid hke
      replace hG := Lib.hid hG
      replace hM := Lib.hid hM
      go_upto_region 6 with fail
      refine wp_region_plan (fun w' => w'.cell? ga = some gv ∧ w'.cell? ma = some mv) 9 [(0, true), (1, true), (2, true), (3, true), (4, true), (5, true), (6, true), (7, true), (8, false)] (by kernel_rfl) (by kernel_rfl) ?_
      have hS : (w.drewN n).drew.cell? ga = some gv ∧ (w.drewN n).drew.cell? ma = some mv := ⟨cG, cM⟩
      refine headY (v := ?_) (some 17) rfl rfl (Or.inl ⟨by rfl, ?_⟩) hS ?_
      rotate_left
      · rintro W' ⟨s0, s1⟩; go_simp; try with_reducible rfl
      simp only [Act.put, List.setIfInBounds_toArray, List.set_cons_zero, List.set_cons_succ]
      refine headY (v := ?_) (some 18) rfl rfl (Or.inl ⟨by rfl, ?_⟩) hS ?_
      rotate_left
      · rintro W' ⟨s0, s1⟩; go_simp; try with_reducible rfl
      simp only [Act.put, List.setIfInBounds_toArray, List.set_cons_zero, List.set_cons_succ]
      refine headY (v := ?_) (some 19) rfl rfl (Or.inl ⟨by rfl, ?_⟩) hS ?_
      rotate_left
      · rintro W' ⟨s0, s1⟩; go_simp; try with_reducible rfl
      simp only [Act.put, List.setIfInBounds_toArray, List.set_cons_zero, List.set_cons_succ]
      refine headY (v := ?_) (some 20) rfl rfl (Or.inl ⟨by rfl, ?_⟩) hS ?_
      rotate_left
      · rintro W' ⟨s0, s1⟩; go_simp; try with_reducible rfl
      simp only [Act.put, List.setIfInBounds_toArray, List.set_cons_zero, List.set_cons_succ]
      refine headY (v := ?_) (some 21) rfl rfl (Or.inl ⟨by rfl, ?_⟩) hS ?_
      rotate_left
      · rintro W' ⟨s0, s1⟩; go_simp; try with_reducible rfl
      simp only [Act.put, List.setIfInBounds_toArray, List.set_cons_zero, List.set_cons_succ]
      refine headY (v := ?_) (some 22) rfl rfl (Or.inl ⟨by rfl, ?_⟩) hS ?_
      rotate_left
      · rintro W' ⟨s0, s1⟩; go_simp; try with_reducible rfl
      simp only [Act.put, List.setIfInBounds_toArray, List.set_cons_zero, List.set_cons_succ]
      refine headY (v := ?_) (some 23) rfl rfl (Or.inl ⟨by rfl, ?_⟩) hS ?_
      rotate_left
      · rintro W' ⟨s0, s1⟩; go_simp; try with_reducible rfl
      simp only [Act.put, List.setIfInBounds_toArray, List.set_cons_zero, List.set_cons_succ]
      refine headY (v := ?_) (some 24) rfl rfl (Or.inl ⟨by rfl, ?_⟩) hS ?_
      rotate_left
      · rintro W' ⟨s0, s1⟩; go_simp; try with_reducible rfl
      simp only [Act.put, List.setIfInBounds_toArray, List.set_cons_zero, List.set_cons_succ]
      refine headC rfl (fun KK hK => ?_)
      go_simp
      refine hke.out.mono ?_
      rintro e w2 ⟨n2, rfl, rfl⟩
      refine hK _ _ hS ?_
      clear hK KK
      refine head0 ?_
      simp only [List.drop_succ_cons, List.drop_zero]
      clear hS
      go_wp2
      refine NoPanic.normal ?_
      go_wp2
      go_roundw
      case measure => simp [intOf]; omega
      case rel => exact ⟨k + 1, _, by omega, by go_num, rfl⟩
    · obtain rfl : k = G.length := by omega
      go_wp2
      go_ret
      exact ⟨n, rfl, rfl⟩
end Go.Proofs.YtdldadgnggaopaaDoor

namespace Go.Proofs.YtdldadgnggaopaaDoor
open Go.RowKit
set_option maxRecDepth 100000

theorem fresh_fine {op : ByteArray} {at_ n : Int} (h1 : 1 ≤ n) (h2 : n ≤ 11) : (fresh op at_ n).Fine := ⟨h1, h2, by simp⟩
theorem checkP_num {k R : Int} {xs : List Int} {t : Int × List (ByteArray × Int)} (h : checkP k R xs = some t) : t.1 = 1 ∧ t.2.length = 1 := by
  unfold checkP fresh at h
  split at h
  · cases h; exact ⟨rfl, rfl⟩
  · split at h
    · cases h; exact ⟨rfl, rfl⟩
    · split at h
      · cases h; exact ⟨rfl, rfl⟩
      · split at h
        · cases h
        · cases h; exact ⟨rfl, rfl⟩

theorem under_check_fine (op : ByteArray) (k R : Int) (T : List Int) : (under op 0 (checkP k R T)).Fine := by
  cases hc : checkP k R T with
  | none => trivial
  | some t =>
    obtain ⟨n, l⟩ := t
    have := checkP_num hc
    simp only at this
    exact ⟨by omega, by omega, by simp; omega⟩
end Go.Proofs.YtdldadgnggaopaaDoor

namespace Go.Proofs.YtdldadgnggaopaaDoor
open Go.RowKit
set_option maxRecDepth 100000

theorem checkG_fine (G : List (List Int)) : (checkG G).Fine := by
  unfold checkG; split
  · exact fresh_fine (by decide) (by decide)
  · split
    · exact fresh_fine (by decide) (by decide)
    · split
      · exact fresh_fine (by decide) (by decide)
      · trivial
theorem pathE_fine (G : List (List Int)) (a b : Int) : (pathE G a b).Fine := by
  have := checkG_fine G
  unfold pathE
  revert this
  cases checkG G with
  | some t => exact fun this => this
  | none =>
    intro _
    dsimp only
    split
    · exact fresh_fine (by decide) (by decide)
    · split
      · exact fresh_fine (by decide) (by decide)
      · trivial
theorem loopE_fine (G : List (List Int)) (a : Int) : (loopE G a).Fine := by
  have := checkG_fine G
  unfold loopE
  revert this
  cases checkG G with
  | some t => exact fun this => this
  | none =>
    intro _
    dsimp only
    split
    · exact fresh_fine (by decide) (by decide)
    · trivial

/-- An answer with an error: where there is none, a list as it is to be; else none. -/
def AnsW (t : PErr) (P : List Nat → Prop) (u : List Nat) : Prop := (t = none → P u) ∧ (t ≠ none → u = [])
theorem AnsW.unique {t : PErr} {P : List Nat → Prop} (hP : ∀ u v, P u → P v → u = v) {u v : List Nat} (h : AnsW t P u) (k : AnsW t P v) : u = v := by
  cases t with
  | none => exact hP u v (h.1 rfl) (k.1 rfl)
  | some t => rw [h.2 (by simp), k.2 (by simp)]
def partsL (G : List (List Int)) (p : Nat → Int) : List Int := match checkG G with | none => (List.range G.length).map (numO p) | some _ => []
def PartFun (G : List (List Int)) (p : Nat → Int) : Prop := checkG G = none → ∀ x y, x < G.length → y < G.length → (p x = p y ↔ Goes (adjOf G) x y ∧ Goes (adjOf G) y x)
/-- What Loop answers, as one list. -/
def LoopFirst (G : List (List Int)) (v : Nat) (l : List Nat) : Prop := (∃ u, IsFirst (adjOf (wideG G v)) v G.length u ∧ l = u.dropLast) ∨ (¬ Goes (adjOf (wideG G v)) v G.length ∧ l = [])
theorem LoopFirst.unique {G : List (List Int)} {v : Nat} {l m : List Nat} (h : LoopFirst G v l) (k : LoopFirst G v m) : l = m := by
  rcases h with ⟨u, h1, rfl⟩ | ⟨h1, rfl⟩
  · rcases k with ⟨u', k1, rfl⟩ | ⟨k1, rfl⟩
    · rw [h1.unique k1]
    · exact absurd h1.way.goes k1
  · rcases k with ⟨u', k1, rfl⟩ | ⟨k1, rfl⟩
    · exact absurd k1.way.goes h1
    · rfl
theorem LoopWay.first {w w' : World} {G : List (List Int)} {v : Nat} {x : Value} (h : LoopWay w G v x w') : ∃ l, LoopFirst G v l ∧ IntsAt w' x (castI l) := by
  rcases h with ⟨u, h1, h2⟩ | ⟨h1, rfl⟩
  · exact ⟨_, .inl ⟨u, h1, rfl⟩, h2.at⟩
  · exact ⟨[], .inr ⟨h1, rfl⟩, (OwnI.nil 0 _).at⟩

section
variable (r : Nat → Addr) (na : Option Addr) (nc : Nat) (G : List (List Int)) (w : World)
theorem parts_rd (hg : Glob r w) (h : ListsAt w (.slice na G.length nc) G) (hsz : ∀ k, k < G.length → (G.getD k []).length ≤ 17592186044416) :
    Calls Tryd.prog 22 #[.slice na G.length nc] w (Ret2 (fun x y w' => ErrIs r w' (checkG G) y ∧ ∃ p, PartFun G p ∧ IntsAt w' x (partsL G p)) w) := by
  refine (parts_any r na nc G w hg h hsz).mono ?_
  rintro e w' ⟨x, y, rfl, b, he, h1, h2⟩
  refine ⟨x, y, rfl, b, he, ?_⟩
  cases hc : checkG G with
  | none =>
    obtain ⟨ps, ⟨p, hp, rfl⟩, ho⟩ := h1 hc
    refine ⟨p, fun _ => hp, ?_⟩
    unfold partsL; rw [hc]
    exact ho.at
  | some t =>
    obtain rfl := h2 (by rw [hc]; simp)
    refine ⟨fun _ => 0, fun q => (by rw [hc] at q; cases q), ?_⟩
    unfold partsL; rw [hc]
    exact (OwnI.nil 0 w').at
theorem parts12_rd (p : Nat → Int) (hp : PartFun G p) (h : ListsAt w (.slice na G.length nc) G) (hsz : ∀ k, k < G.length → (G.getD k []).length ≤ 17592186044416) :
    Calls Tryd.prog 23 #[.slice na G.length nc] w (Ret2 (fun x y w' => EAt w' (checkG G) y ∧ IntsAt w' x (partsL G p)) w) := by
  refine (ref12_parts na nc G p w h hsz hp).mono ?_
  rintro e w' ⟨x, y, rfl, b, he, h1, h2⟩
  refine ⟨x, y, rfl, b, he.at, ?_⟩
  unfold partsL
  cases hc : checkG G with
  | none => exact (h1 hc).at
  | some t =>
    obtain rfl := h2 (by rw [hc]; simp)
    exact (OwnI.nil 0 w').at
theorem live_rd (hg : Glob r w) (h : ListsAt w (.slice na G.length nc) G) (hsz : ∀ k, k < G.length → (G.getD k []).length ≤ 17592186044416) :
    Calls Tryd.prog 18 #[.slice na G.length nc] w (Ret2 (fun x y w' => ErrIs r w' (checkG G) y ∧ ∃ L, AnsW (checkG G) (LiveList G.length (adjOf G)) L ∧ IntsAt w' x (castI L)) w) := by
  refine (live_any r na nc G w hg h hsz).mono ?_
  rintro e w' ⟨x, y, rfl, b, he, h1, h2⟩
  refine ⟨x, y, rfl, b, he, ?_⟩
  cases hc : checkG G with
  | none =>
    obtain ⟨L, hL, ho⟩ := h1 hc
    exact ⟨L, ⟨fun _ => hL, fun q => absurd rfl q⟩, ho.at⟩
  | some t =>
    obtain rfl := h2 (by rw [hc]; simp)
    exact ⟨[], ⟨fun q => (by cases q), fun _ => rfl⟩, (OwnI.nil 0 w').at⟩
theorem live12_rd (h : ListsAt w (.slice na G.length nc) G) (hsz : ∀ k, k < G.length → (G.getD k []).length ≤ 17592186044416) :
    Calls Tryd.prog 24 #[.slice na G.length nc] w (Ret2 (fun x y w' => EAt w' (checkG G) y ∧ ∃ L, AnsW (checkG G) (LiveList G.length (adjOf G)) L ∧ IntsAt w' x (castI L)) w) := by
  refine (ref12_live na nc G w h hsz).mono ?_
  rintro e w' ⟨x, y, rfl, b, he, h1, h2⟩
  refine ⟨x, y, rfl, b, he.at, ?_⟩
  cases hc : checkG G with
  | none =>
    obtain ⟨L, hL, ho⟩ := h1 hc
    exact ⟨L, ⟨fun _ => hL, fun q => absurd rfl q⟩, ho.at⟩
  | some t =>
    obtain rfl := h2 (by rw [hc]; simp)
    exact ⟨[], ⟨fun q => (by cases q), fun _ => rfl⟩, (OwnI.nil 0 w').at⟩
theorem path_rd (a b : Int) (hg : Glob r w) (h : ListsAt w (.slice na G.length nc) G) (hsz : ∀ k, k < G.length → (G.getD k []).length ≤ 17592186044416) :
    Calls Tryd.prog 29 #[.slice na G.length nc, .int .i64 a, .int .i64 b] w (Ret2 (fun x y w' => ErrIs r w' (pathE G a b) y ∧ ∃ u, AnsW (pathE G a b) (WayList (adjOf G) a.toNat b.toNat) u ∧ IntsAt w' x (castI u)) w) := by
  refine (path_any r na nc G a b w hg h hsz).mono ?_
  rintro e w' ⟨x, y, rfl, b, he, h1, h2⟩
  refine ⟨x, y, rfl, b, he, ?_⟩
  cases hc : pathE G a _ with
  | none =>
    obtain ⟨u, hu, ho⟩ := (h1 hc).list
    exact ⟨u, ⟨fun _ => hu, fun q => absurd rfl q⟩, ho.at⟩
  | some t =>
    obtain rfl := h2 (by rw [hc]; simp)
    exact ⟨[], ⟨fun q => (by cases q), fun _ => rfl⟩, (OwnI.nil 0 w').at⟩
theorem path12_rd (a b : Int) (h : ListsAt w (.slice na G.length nc) G) (hsz : ∀ k, k < G.length → (G.getD k []).length ≤ 17592186044416) :
    Calls Tryd.prog 30 #[.slice na G.length nc, .int .i64 a, .int .i64 b] w (Ret2 (fun x y w' => EAt w' (pathE G a b) y ∧ ∃ u, AnsW (pathE G a b) (WayList (adjOf G) a.toNat b.toNat) u ∧ IntsAt w' x (castI u)) w) := by
  refine (ref12_path na nc G a b w h hsz).mono ?_
  rintro e w' ⟨x, y, rfl, b, he, h1, h2⟩
  refine ⟨x, y, rfl, b, he.at, ?_⟩
  cases hc : pathE G a _ with
  | none =>
    obtain ⟨u, hu, ho⟩ := (h1 hc).list
    exact ⟨u, ⟨fun _ => hu, fun q => absurd rfl q⟩, ho.at⟩
  | some t =>
    obtain rfl := h2 (by rw [hc]; simp)
    exact ⟨[], ⟨fun q => (by cases q), fun _ => rfl⟩, (OwnI.nil 0 w').at⟩
theorem loop_rd (a : Int) (hg : Glob r w) (h : ListsAt w (.slice na G.length nc) G) (hsz : ∀ k, k < G.length → (G.getD k []).length ≤ 17592186044416) :
    Calls Tryd.prog 31 #[.slice na G.length nc, .int .i64 a] w (Ret2 (fun x y w' => ErrIs r w' (loopE G a) y ∧ ∃ u, AnsW (loopE G a) (LoopFirst G a.toNat) u ∧ IntsAt w' x (castI u)) w) := by
  refine (loopG_any r na nc G a w hg h hsz).mono ?_
  rintro e w' ⟨x, y, rfl, b, he, h1, h2⟩
  refine ⟨x, y, rfl, b, he, ?_⟩
  cases hc : loopE G a with
  | none =>
    obtain ⟨u, hu, ho⟩ := (h1 hc).first
    exact ⟨u, ⟨fun _ => hu, fun q => absurd rfl q⟩, ho⟩
  | some t =>
    obtain rfl := h2 (by rw [hc]; simp)
    exact ⟨[], ⟨fun q => (by cases q), fun _ => rfl⟩, (OwnI.nil 0 w').at⟩
theorem loop12_rd (a : Int) (h : ListsAt w (.slice na G.length nc) G) (hsz : ∀ k, k < G.length → (G.getD k []).length ≤ 17592186044416) :
    Calls Tryd.prog 32 #[.slice na G.length nc, .int .i64 a] w (Ret2 (fun x y w' => EAt w' (loopE G a) y ∧ ∃ u, AnsW (loopE G a) (LoopFirst G a.toNat) u ∧ IntsAt w' x (castI u)) w) := by
  refine (ref12_loop na nc G a w h hsz).mono ?_
  rintro e w' ⟨x, y, rfl, b, he, h1, h2⟩
  refine ⟨x, y, rfl, b, he.at, ?_⟩
  cases hc : loopE G a with
  | none =>
    obtain ⟨u, hu, ho⟩ := (h1 hc).first
    exact ⟨u, ⟨fun _ => hu, fun q => absurd rfl q⟩, ho⟩
  | some t =>
    obtain rfl := h2 (by rw [hc]; simp)
    exact ⟨[], ⟨fun q => (by cases q), fun _ => rfl⟩, (OwnI.nil 0 w').at⟩
end
end Go.Proofs.YtdldadgnggaopaaDoor

namespace Go.Proofs.YtdldadgnggaopaaDoor
open Go.RowKit
set_option maxRecDepth 100000

set_option maxHeartbeats 8000000 in
theorem graphWays_any (r : Nat → Addr) (na : Option Addr) (nc : Nat) (G : List (List Int)) (a b : Int) (w : World) (hg : Glob r w) (hG : GlobE w) (h : ListsAt w (.slice na G.length nc) G) (hsz : ∀ k, k < G.length → (G.getD k []).length ≤ 17592186043904) :
    Calls Tryd.prog 6 #[.slice na G.length nc, .int .i64 a, .int .i64 b] w (Ret1 (fun x _ => x = .bool true) w) := by
  have hsz2 : ∀ k, k < G.length → (G.getD k []).length ≤ 17592186044414 := fun k hk => Nat.le_trans (hsz k hk) (by omega)
  have hsz : ∀ k, k < G.length → (G.getD k []).length ≤ 17592186044416 := fun k hk => Nat.le_trans (hsz k hk) (by omega)
  replace hg := Lib.hid hg
  replace hG := Lib.hid hG
  replace h := Lib.hid h
  replace hsz := Lib.hid hsz
  replace hsz2 := Lib.hid hsz2
  go_enter Tryd.func6, Tryd.ntmps6
  go_wp2_with fail
  refine (awake12 r _ hg.out).mono ?_
  rintro e w1 ⟨_, rfl, b1, rfl⟩
  go_wp2_with fail
  refine (heavy_any na nc G w1 (h.out.below b1) hsz.out).mono ?_
  rintro e w2 ⟨x, rfl, b2, hv, rfl, hh⟩
  have b02 := Below.step b1 b2
  cases hv with
  | true =>
    clear hh
    go_wp2
    go_ret
    exact ⟨_, rfl, b02, rfl⟩
  | false =>
    obtain ⟨hn, harr⟩ := hh rfl
    clear hh
    replace harr := Lib.hid harr
    go_wp2_with fail
    refine (lentG_any na nc G w2 (h.out.below b02) (by omega) hsz2.out).mono ?_
    rintro e w3 ⟨ov, rfl, b3, hlent⟩
    obtain ⟨oa, oc, rfl⟩ := hlent.lists.shape
    have b03 := Below.step b02 b3
    have hm := hlent.lists
    replace hlent := Lib.hid hlent
    replace hm := Lib.hid hm
    go_wp2_with fail
    refine (path_rd r oa oc G w3 a b (hg.out.below b03) hm.out hsz.out).mono ?_
    rintro e w4 ⟨xa, ea, rfl, b4, hea, U, hU, hxa⟩
    have b04 := Below.step b03 b4
    replace hea := Lib.hid hea
    replace hU := Lib.hid hU
    replace hxa := Lib.hid hxa
    go_wp2_with fail
    refine (path12_rd na nc G w4 a b (h.out.below b04) hsz.out).mono ?_
    rintro e w5 ⟨xb, fb, rfl, b5, hfb, U2, hU2, hxb⟩
    obtain rfl := hU.out.unique (fun _ _ a b => a.unique b) hU2
    clear hU2
    obtain ⟨fhfb0, fhfb1, fhfb2, fhfb3, fhfb4, fhfb5, fhfb6, rfl⟩ := hfb.shape
    have c5 := Below.step b5 (belowAlloc w5 (.cells #[.int .i64 fhfb0, .slice fhfb1 fhfb2 fhfb3, .slice fhfb4 fhfb5 fhfb6] 45))
    have qhfb : Box3 (w5.alloc (.cells #[.int .i64 fhfb0, .slice fhfb1 fhfb2 fhfb3, .slice fhfb4 fhfb5 fhfb6] 45)) w5.heap.size (.int .i64 fhfb0) (.slice fhfb1 fhfb2 fhfb3) (.slice fhfb4 fhfb5 fhfb6) := by simp [Box3, go_sem]
    replace hfb := Lib.hid (hfb.below (belowAlloc w5 (.cells #[.int .i64 fhfb0, .slice fhfb1 fhfb2 fhfb3, .slice fhfb4 fhfb5 fhfb6] 45)))
    replace hxb := Lib.hid (hxb.below (belowAlloc w5 (.cells #[.int .i64 fhfb0, .slice fhfb1 fhfb2 fhfb3, .slice fhfb4 fhfb5 fhfb6] 45)))
    have b05 := Below.step b04 c5
    have m5 := Below.step b4 c5
    go_wp2_with fail
    refine (loop_rd r oa oc G _ a (hg.out.below b05) (hm.out.below m5) hsz.out).mono ?_
    rintro e w6 ⟨xc, ec, rfl, b6, hec, L, hL, hxc⟩
    have b06 := Below.step b05 b6
    have m6 := Below.step m5 b6
    replace hec := Lib.hid hec
    replace hL := Lib.hid hL
    replace hxc := Lib.hid hxc
    go_wp2_with fail
    refine (loop12_rd na nc G w6 a (h.out.below b06) hsz.out).mono ?_
    rintro e w7 ⟨xd, fd, rfl, b7, hfd, L2, hL2, hxd⟩
    obtain rfl := hL.out.unique (fun _ _ a b => a.unique b) hL2
    clear hL2
    obtain ⟨fhfd0, fhfd1, fhfd2, fhfd3, fhfd4, fhfd5, fhfd6, rfl⟩ := hfd.shape
    have c7 := Below.step b7 (belowAlloc w7 (.cells #[.int .i64 fhfd0, .slice fhfd1 fhfd2 fhfd3, .slice fhfd4 fhfd5 fhfd6] 45))
    have qhfd : Box3 (w7.alloc (.cells #[.int .i64 fhfd0, .slice fhfd1 fhfd2 fhfd3, .slice fhfd4 fhfd5 fhfd6] 45)) w7.heap.size (.int .i64 fhfd0) (.slice fhfd1 fhfd2 fhfd3) (.slice fhfd4 fhfd5 fhfd6) := by simp [Box3, go_sem]
    replace hfd := Lib.hid (hfd.below (belowAlloc w7 (.cells #[.int .i64 fhfd0, .slice fhfd1 fhfd2 fhfd3, .slice fhfd4 fhfd5 fhfd6] 45)))
    replace hxd := Lib.hid (hxd.below (belowAlloc w7 (.cells #[.int .i64 fhfd0, .slice fhfd1 fhfd2 fhfd3, .slice fhfd4 fhfd5 fhfd6] 45)))
    have g67 := Below.step b6 c7
    have g57 := Below.step c5 g67
    have b07 := Below.step b06 c7
    have m7 := Below.step m6 c7
    go_wp2_with fail
    refine (ints_any xa xb (castI U) (castI U) _ (hxa.out.below g57) (hxb.out.below g67)).mono ?_
    rintro e w11 h11
    obtain ⟨rfl, b11⟩ := h11.below
    clear h11
    rw [show decide (castI U = castI U) = true by simp]
    have g711 := b11
    obtain ⟨⟨z0, z1, z2⟩, -, -, -⟩ := qhfb.below (Below.step g67 g711)
    go_wp2_with fail
    refine (raw_is r (pathE G a b) ea _ _ (hg.out.below (Below.step b07 g711)) (hG.out.below (Below.step b07 g711)) (hea.out.below (Below.step g57 g711)) (hfb.out.below (Below.step g67 g711)) (pathE_fine G a b)).mono ?_
    rintro e w12 ⟨_, rfl, b12, rfl⟩
    clear z0 z1 z2
    have g712 := Below.step g711 b12
    go_wp2_with fail
    refine (ints_any xc xd (castI L) (castI L) w12 (hxc.out.below (Below.step c7 g712)) (hxd.out.below g712)).mono ?_
    rintro e w13 h13
    obtain ⟨rfl, b13⟩ := h13.below
    clear h13
    rw [show decide (castI L = castI L) = true by simp]
    have g713 := Below.step g712 b13
    obtain ⟨⟨z0, z1, z2⟩, -, -, -⟩ := qhfd.below g713
    go_wp2_with fail
    refine (raw_is r (loopE G a) ec _ _ (hg.out.below (Below.step b07 g713)) (hG.out.below (Below.step b07 g713)) (hec.out.below (Below.step c7 g713)) (hfd.out.below g713) (loopE_fine G a)).mono ?_
    rintro e w14 ⟨_, rfl, b14, rfl⟩
    clear z0 z1 z2
    have g714 := Below.step g713 b14
    have cE := Below.step m7 g714
    have dE := Below.step b07 g714
    go_wp2_with fail
    refine (keptG_any w3.heap.size _ na nc G w14 (hlent.out.belowB cE) (h.out.below dE) (by omega) hsz2.out).mono ?_
    rintro e w15 h15
    obtain ⟨rfl, b15⟩ := h15.below
    clear h15
    have dF := Lib.hid (Below.step dE b15)
    go_wp2
    go_ret
    exact ⟨_, rfl, dF.out, rfl⟩
end Go.Proofs.YtdldadgnggaopaaDoor

namespace Go.Proofs.YtdldadgnggaopaaDoor
open Go.ChangeShapes Go.WideShapes Go.ChangeAt Go.RowKit Go.Joins
set_option maxRecDepth 100000

theorem own : ownKnob Tryd.prog.godebug = none := by kernel_rfl
theorem laidOut : laidOutB Tryd.prog = true := by kernel_rfl
theorem cellsInt : Tryd.prog.cellsOf 3 = 1 := by kernel_rfl
theorem uInt : Tryd.prog.underlying 3 = some (.int .i64) := by kernel_rfl
theorem bytesInt : Tryd.prog.bytesOf 3 = 8 := by kernel_rfl

theorem i64_of_wf {n : Int} (h : (Lit.int .i64 n).wf = true) : I64 n := by
  have := bounds_i64 h
  unfold I64
  omega

/-- A []int that came in. -/
theorem open_intsV {H : Type} {enc : TypeId × Value → H} {W : World} {held : Bool} {fuel : Nat} {v : Value} {y : DataW H × List MemPlace}
    (h : DataW.trod enc Tryd.prog W 0 (fun _ => true) held fuel 22 [v] = some y) (hw : ∀ n ∈ y.1.weights Tryd.prog 22, n ≤ reachBytes) :
    ∃ xs, IntsAt W v xs ∧ xs.length ≤ 17592186043904 ∧ ∀ x ∈ xs, I64 x := by
  rcases open_ints uInts uInt cellsInt h with ⟨hcs, _⟩ | ⟨a, len, cap, zs, hcs, _, hl, hm, hz, hx, hcell, hwz⟩
  · simp at hcs
    subst hcs
    exact ⟨[], (OwnI.nil 0 W).at, by simp, by simp⟩
  · simp at hcs
    subst hcs
    simp only [if_true] at hz
    have hzl : (zs.take len).length = len := by simp; omega
    refine ⟨zs.take len, ⟨some a, cap, by rw [hzl], by rw [hzl]; exact hl, hm, (fun e => by cases e), fun i hi => ?_⟩, ?_, fun x hx => i64_of_wf (hwz x (List.mem_of_mem_take hx))⟩
    · have hi' : i < zs.length := by rw [hzl] at hi; omega
      show W.cell? (a.add i) = _
      rw [hcell i hi']
      simp [List.getD, hi']
    · rw [hx] at hw
      have := hw ((lits (H := H) .i64 (zs.take len)).length * 8 + (lits (H := H) .i64 (zs.drop len)).length * 8) (by
        simp only [DataW.weights, uInts, bytesInt, List.mem_cons]
        left; omega)
      simp only [lits, List.length_map, reachBytes] at this
      omega

theorem open_intsT {H : Type} {enc : TypeId × Value → H} {W : World} {held : Bool} {v : Value} {d : DataW H} {p : List MemPlace} {b0 : Nat}
    (hv : Value.okWide Tryd.prog W .any b0 22 v) (h : DataW.Trod enc Tryd.prog W 0 (fun _ => true) held 22 v d p) (hw : ∀ n ∈ d.weights Tryd.prog 22, n ≤ reachBytes) :
    ∃ xs, IntsAt W v xs ∧ xs.length ≤ 17592186043904 ∧ ∀ x ∈ xs, I64 x := by
  obtain ⟨a, l, c, rfl⟩ := okWide_slice uInts hv
  obtain ⟨fuel, hf⟩ := h
  exact open_intsV (y := (d, p)) (by simpa [Value.cells] using hf) hw

theorem weights_each3 {H : Type} {t0 t1 t2 : TypeId} {y0 y1 y2 : DataW H} {n : Nat} (h : n ∈ y2.weights Tryd.prog t2) : n ∈ DataW.weightsEach Tryd.prog [t0, t1, t2] [y0, y1, y2] := by
  simp only [DataW.weightsEach, List.mem_append]
  exact .inr (.inr (.inl h))

/-- A rule that came in. -/
theorem open_ruleV {H : Type} {enc : TypeId × Value → H} {W : World} {held : Bool} {v : Value} {d : DataW H} {p : List MemPlace} {b0 : Nat}
    (hv : Value.okWide Tryd.prog W .any b0 24 v) (h : DataW.Trod enc Tryd.prog W 0 (fun _ => true) held 24 v d p) (hw : ∀ n ∈ d.weights Tryd.prog 24, n ≤ reachBytes) :
    ∃ (k R : Int) (u : Value) (xs : List Int), v = .agg #[.int .i64 k, .int .i64 R, u] ∧ IntsAt W u xs ∧ xs.length ≤ 17592186043904 ∧ (∀ x ∈ xs, I64 x) ∧ I64 k ∧ I64 R := by
  obtain ⟨v0, v1, v2, y0, y1, y2, n, rfl, rfl, rfl, h0, h1, h2⟩ := open_agg3 Tryd.underlying24 (by kernel_rfl) (by kernel_rfl) hv h
  obtain ⟨a, e0, _, wa⟩ := DataW.trod_int uInt h0
  obtain ⟨b, e1, _, wb⟩ := DataW.trod_int uInt h1
  simp at e0 e1
  subst e0 e1
  obtain ⟨xs, hx, hl, hb⟩ := open_intsV h2 fun n hn => hw n (by
    simp only [DataW.weights, Tryd.underlying24]
    exact weights_each3 (t0 := 3) (t1 := 3) (t2 := 22) hn)
  exact ⟨a, b, v2, xs, rfl, hx, hl, hb, i64_of_wf wa, i64_of_wf wb⟩

/-! The package-level errors. -/
theorem star : "*" ++ "errors.errorString" = "*errors.errorString" := by decide
theorem rowES (u : TypeId) (h : Tryd.prog.typeName? 3 u = some "*errors.errorString") : u = 208 :=
  typeName_ptr_named (nm := "errors.errorString") (by rw [star]; kernel_rfl) (by kernel_rfl) (by decide) u (by rw [star]; exact h)
theorem pES : Tryd.prog.underlying 208 = some (.pointer 229) := by kernel_rfl
theorem cES : Tryd.prog.cellsOf 229 = 1 := by kernel_rfl
theorem cStr : Tryd.prog.cellsOf 9 = 1 := by kernel_rfl

def laid12 : List (String × DataW Unit) := [("eden/api.BadRule", Rows.laid_eden_api_BadRule), ("eden/api.BadWord", Rows.laid_eden_api_BadWord), ("eden/api.BadArg", Rows.laid_eden_api_BadArg), ("eden/api.TooBig", Rows.laid_eden_api_TooBig), ("eden/api.NoBudget", Rows.laid_eden_api_NoBudget), ("eden/api.BadText", Rows.laid_eden_api_BadText), ("eden/api.BadPatch", Rows.laid_eden_api_BadPatch), ("eden/api.BadCert", Rows.laid_eden_api_BadCert), ("eden/api.NoInverse", Rows.laid_eden_api_NoInverse), ("eden/api.BadLine", Rows.laid_eden_api_BadLine), ("eden/api.BadState", Rows.laid_eden_api_BadState), ("eden/api.Unknown", Rows.laid_eden_api_Unknown)]

theorem sentinel {n : String} {text : List UInt8} {r : List (String × DataW Unit)} {W : World} {g : Nat}
    (h : laidMet Tryd.prog ((n, .iface "*errors.errorString" (.ptr (.agg [.lit (.string text)]))) :: r) W)
    (hg : Tryd.prog.globalNamed n = some g) (ht : (Tryd.prog.globals[g]?).map (·.type) = some 27) :
    (∃ a : Addr, W.cell? ⟨g, 0, none⟩ = some (.iface 208 (.pointer (some a))) ∧ ∃ s, W.cell? a = some (.string s) ∧ s.data.toList = text) ∧ laidMet Tryd.prog r W := by
  refine ⟨?_, h.tail⟩
  obtain ⟨a, s, hv, hc, hs, _⟩ := laid_sentinel h hg ht Tryd.underlying27 rowES pES Tryd.underlying229 rfl rfl Tryd.underlying9 cES cStr
  exact ⟨a, by simpa using World.var?_cell hg hv 0, s, hc, hs⟩

def txt : Nat → List UInt8
  | 1 => [98, 97, 100, 32, 114, 117, 108, 101]
  | 2 => [98, 97, 100, 32, 119, 111, 114, 100]
  | 3 => [98, 97, 100, 32, 97, 114, 103, 117, 109, 101, 110, 116]
  | 4 => [116, 111, 111, 32, 98, 105, 103]
  | 5 => [110, 111, 32, 98, 117, 100, 103, 101, 116]
  | 6 => [98, 97, 100, 32, 116, 101, 120, 116]
  | 7 => [98, 97, 100, 32, 112, 97, 116, 99, 104]
  | 8 => [98, 97, 100, 32, 99, 101, 114, 116, 105, 102, 105, 99, 97, 116, 101]
  | 9 => [110, 111, 32, 105, 110, 118, 101, 114, 115, 101]
  | 10 => [98, 97, 100, 32, 108, 105, 110, 101]
  | 11 => [98, 97, 100, 32, 115, 116, 97, 116, 101]
  | 99 => [117, 110, 107, 110, 111, 119, 110]
  | _ => []
theorem txt_apart : ∀ m n : Fin 12, 1 ≤ m.val → 1 ≤ n.val → txt m.val = txt n.val → m = n := by decide

theorem glob_of_laid {W : World} (h : laidMet Tryd.prog laid12 W) : ∃ r, Glob r W := by
  obtain ⟨⟨a1, c1, s1, e1, t1⟩, h⟩ := sentinel (text := txt 1) h (g := 0) (by kernel_rfl) (by kernel_rfl)
  obtain ⟨⟨a2, c2, s2, e2, t2⟩, h⟩ := sentinel (text := txt 2) h (g := 1) (by kernel_rfl) (by kernel_rfl)
  obtain ⟨⟨a3, c3, s3, e3, t3⟩, h⟩ := sentinel (text := txt 3) h (g := 2) (by kernel_rfl) (by kernel_rfl)
  obtain ⟨⟨a4, c4, s4, e4, t4⟩, h⟩ := sentinel (text := txt 4) h (g := 3) (by kernel_rfl) (by kernel_rfl)
  obtain ⟨⟨a5, c5, s5, e5, t5⟩, h⟩ := sentinel (text := txt 5) h (g := 4) (by kernel_rfl) (by kernel_rfl)
  obtain ⟨⟨a6, c6, s6, e6, t6⟩, h⟩ := sentinel (text := txt 6) h (g := 5) (by kernel_rfl) (by kernel_rfl)
  obtain ⟨⟨a7, c7, s7, e7, t7⟩, h⟩ := sentinel (text := txt 7) h (g := 6) (by kernel_rfl) (by kernel_rfl)
  obtain ⟨⟨a8, c8, s8, e8, t8⟩, h⟩ := sentinel (text := txt 8) h (g := 7) (by kernel_rfl) (by kernel_rfl)
  obtain ⟨⟨a9, c9, s9, e9, t9⟩, h⟩ := sentinel (text := txt 9) h (g := 8) (by kernel_rfl) (by kernel_rfl)
  obtain ⟨⟨a10, c10, s10, e10, t10⟩, h⟩ := sentinel (text := txt 10) h (g := 9) (by kernel_rfl) (by kernel_rfl)
  obtain ⟨⟨a11, c11, s11, e11, t11⟩, h⟩ := sentinel (text := txt 11) h (g := 10) (by kernel_rfl) (by kernel_rfl)
  obtain ⟨⟨a99, c99, s99, e99, t99⟩, h⟩ := sentinel (text := txt 99) h (g := 11) (by kernel_rfl) (by kernel_rfl)
  clear h
  have key : ∀ n : Nat, (1 ≤ n ∧ n ≤ 11) ∨ n = 99 → ∃ s, W.cell? ((fun n : Nat => match n with | 1 => a1 | 2 => a2 | 3 => a3 | 4 => a4 | 5 => a5 | 6 => a6 | 7 => a7 | 8 => a8 | 9 => a9 | 10 => a10 | 11 => a11 | _ => a99) n) = some (.string s) ∧ s.data.toList = txt n := by
    intro n hn
    have : n = 1 ∨ n = 2 ∨ n = 3 ∨ n = 4 ∨ n = 5 ∨ n = 6 ∨ n = 7 ∨ n = 8 ∨ n = 9 ∨ n = 10 ∨ n = 11 ∨ n = 99 := by omega
    rcases this with rfl | rfl | rfl | rfl | rfl | rfl | rfl | rfl | rfl | rfl | rfl | rfl
    · exact ⟨s1, e1, t1⟩
    · exact ⟨s2, e2, t2⟩
    · exact ⟨s3, e3, t3⟩
    · exact ⟨s4, e4, t4⟩
    · exact ⟨s5, e5, t5⟩
    · exact ⟨s6, e6, t6⟩
    · exact ⟨s7, e7, t7⟩
    · exact ⟨s8, e8, t8⟩
    · exact ⟨s9, e9, t9⟩
    · exact ⟨s10, e10, t10⟩
    · exact ⟨s11, e11, t11⟩
    · exact ⟨s99, e99, t99⟩
  refine ⟨(fun n : Nat => match n with | 1 => a1 | 2 => a2 | 3 => a3 | 4 => a4 | 5 => a5 | 6 => a6 | 7 => a7 | 8 => a8 | 9 => a9 | 10 => a10 | 11 => a11 | _ => a99), c1, c2, c3, c4, c5, c6, c7, c8, c9, c10, c11, c99, (fun n hn => ?_), fun m n hm1 hm2 hn1 hn2 he => ?_⟩
  · obtain ⟨s, hs, _⟩ := key n hn
    exact ⟨s, hs⟩
  · obtain ⟨s, hs, ts⟩ := key m.toNat (by omega)
    obtain ⟨s', hs', ts'⟩ := key n.toNat (by omega)
    have hss : s = s' := by
      have := hs.symm.trans ((congrArg W.cell? he).trans hs')
      simpa using this
    subst hss
    have := txt_apart ⟨m.toNat, by omega⟩ ⟨n.toNat, by omega⟩ (by simp; omega) (by simp; omega) (ts.symm.trans ts')
    have := congrArg Fin.val this
    simp at this
    omega
end Go.Proofs.YtdldadgnggaopaaDoor

namespace Go.Proofs.YtdldadgnggaopaaDoor
open Go.RowKit
set_option maxRecDepth 100000

def laid13 : List (String × DataW Unit) := ("errors.errorType", Rows.laid_errors_errorType) :: laid12
theorem rtypeNo : (Tryd.prog.cutTypes.find? (·.1 == "internal/reflectlite.rtype")).map (·.2) = some 183 := by kernel_rfl
theorem errorTypeNo : Tryd.prog.globalNamed "errors.errorType" = some 12 := by kernel_rfl
theorem typesNo : Tryd.prog.types.size = 341 - 100 := by kernel_rfl
theorem oneError : ((List.range (341 - 100)).filter fun t => Tryd.prog.rowNamed t [101, 114, 114, 111, 114]) = [27] := by kernel_rfl
theorem handleErr : typeHandle Tryd.prog 27 = .pointer (some ⟨13, 27, none⟩) := by kernel_rfl

theorem glob_of_laidH {W : World} (h : laidMetH Tryd.prog laid13 W) : ∃ r, Glob r W ∧ GlobE W := by
  have h' : laidMet Tryd.prog laid12 W ∧ handlesMet Tryd.prog [("errors.errorType", Rows.laid_errors_errorType)] W := h
  obtain ⟨r, hg⟩ := glob_of_laid h'.1
  refine ⟨r, hg, ?_⟩
  obtain ⟨name, u, ty, e1, e2, e3, e4, e5⟩ := h'.2 _ (List.mem_cons_self ..)
  have en : name = [101, 114, 114, 111, 114] := (Option.some.inj e1).symm
  subst en
  obtain rfl := Option.some.inj (rtypeNo.symm.trans e2)
  have hm : ty ∈ (List.range (341 - 100)).filter fun t => Tryd.prog.rowNamed t [101, 114, 114, 111, 114] := List.mem_filter.2 ⟨List.mem_range.2 (by rw [← typesNo]; exact e3), e4⟩
  rw [oneError] at hm
  obtain rfl := List.mem_singleton.1 hm
  rw [handleErr] at e5
  simpa [GlobE] using World.var?_cell errorTypeNo e5 0
end Go.Proofs.YtdldadgnggaopaaDoor

namespace Go.Proofs.YtdldadgnggaopaaDoor
open Go.ChangeShapes Go.WideShapes Go.ChangeAt Go.RowKit Go.Joins
set_option maxRecDepth 100000

theorem uLists : Tryd.prog.underlying 33 = some (.slice 22) := by kernel_rfl
theorem cellsInts : Tryd.prog.cellsOf 22 = 1 := by kernel_rfl
theorem bytesInts : Tryd.prog.bytesOf 22 = 24 := by kernel_rfl

theorem weightsAll_mem {H : Type} {P : Program} {e : TypeId} : ∀ {l : List (DataW H)} {d : DataW H}, d ∈ l → ∀ n ∈ d.weights P e, n ∈ DataW.weightsAll P e l
  | x :: l, d, hd, n, hn => by
    simp only [DataW.weightsAll]
    rcases List.mem_cons.1 hd with rfl | hd
    · exact List.mem_append_left _ hn
    · exact List.mem_append_right _ (weightsAll_mem hd n hn)

theorem open_listsV {H : Type} {enc : TypeId × Value → H} {W : World} {held : Bool} {fuel : Nat} {v : Value} {y : DataW H × List MemPlace}
    (h : DataW.trod enc Tryd.prog W 0 (fun _ => true) held fuel 33 [v] = some y) (hw : ∀ n ∈ y.1.weights Tryd.prog 33, n ≤ reachBytes) :
    ∃ (na : Option Addr) (nc : Nat) (G : List (List Int)), v = .slice na G.length nc ∧ ListsAt W v G ∧ G.length ≤ 5864062014805 ∧ ∀ k, k < G.length → (G.getD k []).length ≤ 17592186043904 ∧ ∀ x ∈ G.getD k [], I64 x := by
  rcases DataW.trod_slice uLists h with ⟨hcs, _⟩ | ⟨a, len, cap, elems, rest, n, _, hcs, hy, _, hl, hm, hlen, hel, _, _⟩
  · simp at hcs
    subst hcs
    refine ⟨none, 0, [], rfl, ⟨[], ⟨none, 0, rfl, Nat.le_refl 0, by unfold maxLen; omega, fun _ => rfl, fun i hi => absurd hi (by simp)⟩, rfl, fun i hi => absurd hi (by simp)⟩, by simp, fun k hk => absurd hk (by simp)⟩
  · simp only [List.cons.injEq, and_true] at hcs
    subst hcs
    subst hy
    have hone : ∀ i, i < len → ∃ u d p, W.cell? (a.add i) = some u ∧ elems[i]? = some (d, p) ∧ DataW.trod enc Tryd.prog W 0 (fun _ => true) held n 22 [u] = some (d, p) := by
      intro i hi
      have hi' : i < elems.length := by omega
      have := hel i hi
      rw [List.getElem?_eq_getElem hi', cellsInts, Nat.mul_one, Option.bind_eq_some_iff] at this
      obtain ⟨cs', h1, h2⟩ := this
      obtain ⟨_, hcl, hcc⟩ := World.cells?_some h1
      match cs', hcl with
      | [c], _ =>
        have h0 := hcc 0 (by omega)
        exact ⟨c, _, _, by simpa [Addr.add] using h0, List.getElem?_eq_getElem hi', h2⟩
    have hall : ∀ i, i < len → ∃ u xs, W.cell? (a.add i) = some u ∧ IntsAt W u xs ∧ xs.length ≤ 17592186043904 ∧ ∀ x ∈ xs, I64 x := by
      intro i hi
      obtain ⟨u, d, p, h1, h2, h3⟩ := hone i hi
      obtain ⟨xs, q1, q2, q3⟩ := open_intsV (y := (d, p)) h3 (fun m hm' => hw m (by
        simp only [DataW.weights, uLists]
        refine List.mem_cons_of_mem _ (List.mem_append_left _ (weightsAll_mem (d := d) (List.mem_map.2 ⟨(d, p), List.mem_of_getElem? h2, rfl⟩) _ hm'))))
      exact ⟨u, xs, h1, q1, q2, q3⟩
    have hN : len ≤ 5864062014805 := by
      have := hw ((List.map (fun x => x.1) elems).length * 24 + (List.map (fun x => x.1) rest).length * 24) (by
        simp only [DataW.weights, uLists, bytesInts, List.mem_cons]
        left; omega)
      simp only [List.length_map, reachBytes] at this
      omega
    let U : Nat → Value := fun i => if hi : i < len then (hall i hi).choose else undef
    let X : Nat → List Int := fun i => if hi : i < len then (hall i hi).choose_spec.choose else []
    have hUX : ∀ i, i < len → W.cell? (a.add i) = some (U i) ∧ IntsAt W (U i) (X i) ∧ (X i).length ≤ 17592186043904 ∧ ∀ x ∈ X i, I64 x := by
      intro i hi
      simp only [U, X, dif_pos hi]
      exact (hall i hi).choose_spec.choose_spec
    have hGl : ((List.range len).map X).length = len := by simp
    have hG : ∀ i, i < len → ((List.range len).map X).getD i [] = X i := by
      intro i hi
      simp [List.getD, hi]
    have hVl : ((List.range len).map U).length = len := by simp
    refine ⟨some a, cap, (List.range len).map X, by rw [hGl], ⟨(List.range len).map U, ⟨some a, cap, by rw [hVl], by rw [hVl]; exact hl, hm, (fun e => by cases e), fun i hi => ?_⟩, by rw [hVl, hGl], fun i hi => ?_⟩, by rw [hGl]; exact hN, fun k hk => ?_⟩
    · rw [hVl] at hi
      show W.cell? (a.add i) = _
      rw [(hUX i hi).1]
      simp
    · rw [hGl] at hi
      rw [hG i hi]
      have : vAt ((List.range len).map U) i = U i := by simp [vAt, List.getD, hi]
      rw [this]
      exact (hUX i hi).2.1
    · rw [hGl] at hk
      rw [hG k hk]
      exact (hUX k hk).2.2

theorem open_listsT {H : Type} {enc : TypeId × Value → H} {W : World} {held : Bool} {v : Value} {d : DataW H} {p : List MemPlace} {b0 : Nat}
    (hv : Value.okWide Tryd.prog W .any b0 33 v) (h : DataW.Trod enc Tryd.prog W 0 (fun _ => true) held 33 v d p) (hw : ∀ n ∈ d.weights Tryd.prog 33, n ≤ reachBytes) :
    ∃ (na : Option Addr) (nc : Nat) (G : List (List Int)), v = .slice na G.length nc ∧ ListsAt W v G ∧ G.length ≤ 5864062014805 ∧ ∀ k, k < G.length → (G.getD k []).length ≤ 17592186043904 ∧ ∀ x ∈ G.getD k [], I64 x := by
  obtain ⟨a, l, c, rfl⟩ := okWide_slice uLists hv
  obtain ⟨fuel, hf⟩ := h
  exact open_listsV (y := (d, p)) (by simpa [Value.cells] using hf) hw
end Go.Proofs.YtdldadgnggaopaaDoor

namespace Go.Proofs.YtdldadgnggaopaaDoor
open Go.ChangeShapes Go.WideShapes Go.ChangeAt Go.RowKit Go.Joins
namespace GraphWaysP

set_option maxRecDepth 100000 in
theorem door_met (os : Os) (args : Array Value) : laidMetH Tryd.prog Rows.graphWaysRow.laid ((World.doorLaid Tryd.prog 400 os).forCall (fun _ _ => 0) ⟨#[], args, []⟩).memory :=
  laidMetH_of_parts3 (fuel := 8) (laidMet_of_run' 8 (by kernel_rfl) (by kernel_rfl)) (by kernel_rfl) (by kernel_rfl)

set_option maxRecDepth 100000 in
theorem lifted (os : Os) (started : os.Started) (H : Type) (enc : TypeId × Value → H) :
    ReturnsInHanded {} Tryd.checked os 6 .any (fun w args => (Rows.graphWaysSpec.pre enc Tryd.prog Tryd.f6 [] false w args ∧ laidMetH Tryd.prog Rows.graphWaysRow.laid w) ∧ sizedMet enc Tryd.prog Tryd.f6 (OpenSpec.ofChange Rows.graphWaysSpec) false w args)
      (Rows.graphWaysSpec.post enc Tryd.prog Tryd.f6 false true false false) := by
  refine returnsInHanded_of_change_and (C := Tryd.checked) (X := fun w _ => laidMetH Tryd.prog Rows.graphWaysRow.laid w) (fun _ _ _ hh h => h.of_heap hh) own started (by kernel_rfl) Tryd.func6
    (ChangeSpec.witness_shaped (enc := enc) (C := Tryd.checked) (os := os) (X := fun w _ => laidMetH Tryd.prog Rows.graphWaysRow.laid w) false (World.doorLaid Tryd.prog 400 os) #[.slice none 0 0, .int .i64 0, .int .i64 0] 8 rfl (World.shaped_of_RefB (by kernel_rfl) (by kernel_rfl)) (by kernel_rfl) (by kernel_rfl) (by kernel_rfl) (door_met os _)) ?_
  intro W base args ds gs before hval0 hW _ hsz hL _
  have hval : ∀ (j : Nat) t v, Tryd.f6.params[j]? = some t → args[j]? = some v → Value.okWide Tryd.prog W .any base t v := hval0
  have hW' := hW
  obtain ⟨p, q, hA0, hV, rfl, hfz, hnd⟩ := hW
  have hA : DataW.TrodAll enc Tryd.prog W 0 (fun _ => true) true Tryd.f6.params.toList args.toList ds p := hA0
  rw [Tryd.params6] at hA hval hsz
  obtain ⟨v0, vs0, d0, ds0, p0, q0, hargs, rfl, rfl, g0, t0⟩ := trodAll_cons hA
  obtain ⟨v1, vs1, d1, ds1, p1, q1, rfl, rfl, rfl, g1, t1⟩ := trodAll_cons t0
  obtain ⟨v2, vs2, d2, ds2, p2, q2, rfl, rfl, rfl, g2, t2⟩ := trodAll_cons t1
  obtain ⟨rfl, rfl, rfl⟩ := trodAll_nil t2
  obtain rfl : args = #[v0, v1, v2] := by cases args; simp_all
  obtain ⟨rfl, rfl⟩ := trodVars_none hV
  have kk0 := g0
  have lt0 : ∀ x ∈ p0, x.block < W.heap.size := by obtain ⟨m, hm⟩ := kk0; exact DataW.trod_lt m _ _ _ hm
  obtain ⟨na0, nc0, G0, rfl, h0, l0, b0⟩ := open_listsT (hval 0 33 v0 rfl rfl) g0 (fun n hn => by
    have := List.all_eq_true.1 hsz n (DataW.weights_mem_each (j := 0) (t := 33) rfl rfl n hn)
    simpa using this)
  obtain ⟨k1, rfl, rfl, rfl, w1⟩ := open_int uInt (hval 1 3 v1 rfl rfl) g1
  have b1 := i64_of_wf w1
  obtain ⟨k2, rfl, rfl, rfl, w2⟩ := open_int uInt (hval 2 3 v2 rfl rfl) g2
  have b2 := i64_of_wf w2
  obtain ⟨r, hg, hG⟩ := glob_of_laidH (W := W) (by
    exact hL)
  clear hA0 hval0
  refine (graphWays_any r na0 nc0 G0 k1 k2 W hg hG h0 (fun k hk => (b0 k hk).1)).mono fun e W' ⟨x, he, bel, hxx⟩ => ?_
  subst he; subst hxx
  exact ⟨_, rfl, _, _, _, [], _, [], hW', trodAll_mk1 (shut_bool Tryd.underlying4 _), (trodAll_cons_mk (Below.trod laidOut (by kernel_rfl) (of_decide_eq_true (by kernel_rfl)) kk0 bel lt0) (trodAll_cons_mk (shut_int uInt w1) (trodAll_cons_mk (shut_int uInt w2) trodAll_mk0))), rfl, bel.frame _, fun h => by cases h⟩

theorem over : Rows.GraphWaysSaid :=
  OpenClaim.holds_of_wide 6 Tryd.f6 rfl rfl rfl rfl rfl rfl rfl ⟨rfl, rfl, rfl, rfl, rfl⟩ rfl rfl rfl rfl rfl (by kernel_rfl) Tryd.func6 (by kernel_rfl)
    (of_decide_eq_true (by kernel_rfl)) (by unfold Func.isWrapper; first | (rw [if_pos (by decide +kernel)]; kernel_rfl) | (rw [if_neg (by decide +kernel)]; exact ⟨rfl, rfl⟩))
    (fun os started H enc _ => lifted os started H enc)

/-- The tied card. -/
theorem card_holds : Rows.GraphWaysCardSaid :=
  Claim7.holds_tied_plain_at .later [] [.handle, .sentinel, .sentinel, .sentinel, .sentinel, .sentinel, .sentinel, .sentinel, .sentinel, .sentinel, .sentinel, .sentinel, .sentinel] true _ true
    over (fun _ h => by cases h) (by kernel_rfl) (fun _ h => by cases h) graphWays_row_tie rfl ⟨rfl, rfl⟩ (by kernel_rfl) rfl
    (fun f fn hf hfn => by
      obtain rfl : f = 6 := Option.some.inj ((show Tryd.prog.funcNamed Rows.graphWaysRow.func = some 6 by kernel_rfl).symm.trans hf) |>.symm
      obtain rfl : fn = Tryd.f6 := (Option.some.inj (Tryd.func6.symm.trans hfn)).symm
      exact ⟨by kernel_rfl, fun j t ht => by
        rw [Tryd.params6] at ht
        have hm : t ∈ [33, 3, 3] := by simpa using Array.mem_of_getElem? ht
        have hall : ([33, 3, 3].all fun u => !Tryd.prog.wantsStandIn u) = true := by kernel_rfl
        exact (show Tryd.prog.wantsStandIn t = false by simpa using List.all_eq_true.1 hall t hm)⟩)
    (by kernel_rfl)
end GraphWaysP
#print axioms GraphWaysP.card_holds
end Go.Proofs.YtdldadgnggaopaaDoor
