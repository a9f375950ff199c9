/-
  Walk: inject.One: whether a rule is one to one; if not, the two rows.
  Walks: edenref14.Witness at a witness, edenref14.One, edenlaw14.none.
  Plain mathematics of layer 14: a loop, a way, a loop make a way without ends; two rows along it that differ, with one image.
  Plain facts: the two rows of the witness of inject.One: right, unlike, with one image.
  Walk: edenraw.Lists at equal lists.
  Walk: edenlaw13.awake.
  Walk: edenlaw13.PairsGraphs returns true.
  Walk: edenlaw14.awake.
-/
import Derived.Test.YtilpckngghffoaaGreatDoorMIt9
import Derived.Deep.DeepCutAuto
namespace Go.Proofs.YtilpckngghffoaaGreatDoor
open Go.RowKit
set_option maxRecDepth 100000

def sInject : ByteArray := ⟨#[105, 110, 106, 101, 99, 116]⟩
/-- The row that holds nothing. -/
abbrev zRow : Value := .agg #[.int .i64 0, .slice none 0 0, .slice none 0 0, .slice none 0 0]
section
variable {K N : Nat} {T : List Int}
theorem goes_pairG {x y : Nat} (hN : 0 < N) (h : Goes (adjOf (pairG K N T)) x y) (hx : x < N * N) : Goes (pairL K N T) x y ∧ y < N * N := by
  induction h with
  | refl => exact ⟨.refl _, hx⟩
  | step h hz ih =>
    rw [pairG_adj ih.2] at hz
    exact ⟨.step ih.1 hz, ((mem_pairL hN).1 hz).lt hN⟩
theorem live_pairG (hN : 0 < N) {v : Nat} (hv : v < N * N) : IsLive (N * N) (adjOf (pairG K N T)) v ↔ LiveP (N * N) (pairL K N T) v := by
  constructor
  · rintro ⟨⟨u, hu, ⟨t, ht, h1⟩, h2⟩, ⟨u', hu', ⟨t', ht', h1'⟩, h2'⟩⟩
    rw [pairG_adj hu] at ht
    rw [pairG_adj hu'] at ht'
    exact ⟨⟨u, hu, ⟨t, ht, (goes_pairG hN h1 (((mem_pairL hN).1 ht).lt hN)).1⟩, (goes_pairG hN h2 hu).1⟩, ⟨u', hu', ⟨t', ht', (goes_pairG hN h1' (((mem_pairL hN).1 ht').lt hN)).1⟩, (goes_pairG hN h2' hv).1⟩⟩
  · rintro ⟨⟨u, hu, ⟨t, ht, h1⟩, h2⟩, ⟨u', hu', ⟨t', ht', h1'⟩, h2'⟩⟩
    exact ⟨⟨u, hu, ⟨t, by rw [pairG_adj hu]; exact ht, (pairG_goes hN h1 (((mem_pairL hN).1 ht).lt hN)).1⟩, (pairG_goes hN h2 hu).1⟩, ⟨u', hu', ⟨t', by rw [pairG_adj hu']; exact ht', (pairG_goes hN h1' (((mem_pairL hN).1 ht').lt hN)).1⟩, (pairG_goes hN h2' hv).1⟩⟩
end
theorem wk_notOne {K R : Nat} {T : List Int} (hK : 1 ≤ K) : NotOne K (wkR R) (wkT K R T) ↔ NotOne K R T := by
  unfold wkR wkT
  by_cases e : R = 0
  · subst e; rw [if_pos rfl, if_pos rfl]; exact notOne_wide (R := 0) (d := 1) hK
  · rw [if_neg e, if_neg e]
/-- The live pairs that are apart. -/
def oddL (K R : Nat) (L : List Nat) : List Nat := L.filter fun p => !decide (Diag (pw K (2 * wkR R)) p)
/-- Whether they tell that the rule is one to one. -/
theorem odd_none {K R : Nat} {T : List Int} {L : List Nat} (hr : RuleOk K R T) (h : LiveList (pw K (2 * wkR R) * pw K (2 * wkR R)) (adjOf (pairG K (pw K (2 * wkR R)) (wkT K R T))) L) : oddL K R L = [] ↔ ¬ NotOne K R T := by
  have hN := pw_pos (K := K) (2 * wkR R) hr.k1
  rw [← wk_notOne hr.k1]
  constructor
  · intro he hno
    obtain ⟨q, h1, h2, h3⟩ := live_of_notOne (wk_ok hr) (wk_pos R) hno
    have : q ∈ oddL K R L := List.mem_filter.2 ⟨(h.mem q).2 ⟨h1, (live_pairG (by omega) h1).2 h2⟩, by simp [h3]⟩
    rw [he] at this; cases this
  · intro hno
    apply Classical.byContradiction
    intro he
    obtain ⟨q, hq⟩ := List.exists_mem_of_ne_nil _ he
    obtain ⟨h1, h2⟩ := List.mem_filter.1 hq
    obtain ⟨h3, h4⟩ := (h.mem q).1 h1
    exact hno (notOne_of_live (wk_ok hr) (wk_pos R) ((live_pairG (by omega) h3).1 h4) (by simpa using h2))
/-- The witness: the first of them. -/
def OneIs (K R : Nat) (T : List Int) (L C Q : List Nat) : Prop :=
  ∃ l v m, LiveList (pw K (2 * wkR R) * pw K (2 * wkR R)) (adjOf (pairG K (pw K (2 * wkR R)) (wkT K R T))) l ∧ oddL K R l = v :: m ∧ WitIs (pairG K (pw K (2 * wkR R)) (wkT K R T)) v L C Q
/-- What One leaves at a small rule. -/
def OnePost (w : World) (K R : Nat) (T : List Int) (yes x y e : Value) (w' : World) : Prop :=
  e = .nilIface ∧ ((yes = .bool true ∧ x = zRow ∧ y = zRow ∧ ¬ NotOne K R T) ∨ (yes = .bool false ∧ NotOne K R T ∧ ∃ L C Q aL aC aQ bL bC bQ, OneIs K R T L C Q ∧ x = .agg #[.int .i64 0, aL, aC, aQ] ∧ y = .agg #[.int .i64 0, bL, bC, bQ] ∧ ∃ f, Rows w.heap.size w' f ∧
    f (1, 0) = some (rowI aL (sideA K (pw K (2 * wkR R)) L)) ∧ f (1, 1) = some (rowI bL (sideB K (pw K (2 * wkR R)) L)) ∧ f (2, 0) = some (rowI aC (sideA K (pw K (2 * wkR R)) C)) ∧ f (2, 1) = some (rowI bC (sideB K (pw K (2 * wkR R)) C)) ∧ f (3, 0) = some (rowI aQ (sideA K (pw K (2 * wkR R)) Q)) ∧ f (3, 1) = some (rowI bQ (sideB K (pw K (2 * wkR R)) Q))))


set_option maxHeartbeats 1000000 in
theorem one_bad (r : Nat → Addr) (k R : Int) (va : Option Addr) (vn vc : Nat) (T : List Int) (t : Int × List (ByteArray × Int)) (w : World) (hg : Glob r w) (h : IntsAt w (.slice va vn vc) T) (hc : smallP k R T = some t) :
    Calls Tryz.prog 18 #[.agg #[.int .i64 k, .int .i64 R, .slice va vn vc]] w (Ret4 (fun x y z u w' => x = .bool false ∧ y = zRow ∧ z = zRow ∧ ErrIs r w' (under sInject 0 (under sPairs 0 (some t))) u) w) := by
  have bb := belowAlloc w (.cells #[.int .i64 k, .int .i64 R, .slice va vn vc] 24)
  have q : Box3 (w.alloc (.cells #[.int .i64 k, .int .i64 R, .slice va vn vc] 24)) w.heap.size (.int .i64 k) (.int .i64 R) (.slice va vn vc) := by simp [Box3, go_sem]
  obtain ⟨f0, R0, n02, o02⟩ := ((Rows.void w.heap.size w).below bb).box4 (0, 2) (by simp) 42 (.int .i64 0) (.slice none 0 0) (.slice none 0 0) (.slice none 0 0)
  obtain ⟨f1, R1, n03, o03⟩ := R0.box4 (0, 3) (by simp; omega) 42 (.int .i64 0) (.slice none 0 0) (.slice none 0 0) (.slice none 0 0)
  replace n02 := (o03 (0, 2) (by decide)).trans n02
  simp only [World.size_alloc] at n02 n03
  have b0 : Below w.heap.size w (((w.alloc (.cells #[.int .i64 k, .int .i64 R, .slice va vn vc] 24)).alloc (.cells #[.int .i64 0, .slice none 0 0, .slice none 0 0, .slice none 0 0] 42)).alloc (.cells #[.int .i64 0, .slice none 0 0, .slice none 0 0, .slice none 0 0] 42)) := Below.step bb (Below.step (belowAlloc _ _) (belowAlloc _ _))
  replace q := q.below (Below.step (belowAlloc _ (.cells #[.int .i64 0, .slice none 0 0, .slice none 0 0, .slice none 0 0] 42)) (belowAlloc _ (.cells #[.int .i64 0, .slice none 0 0, .slice none 0 0, .slice none 0 0] 42)))
  clear o02 o03 R0 bb
  replace hg := Lib.hid (hg.below b0)
  replace h := Lib.hid (h.below b0)
  replace hc := Lib.hid hc
  obtain ⟨⟨z0, z1, z2⟩, -, -, -⟩ := q
  replace R1 := Lib.hid R1
  replace n02 := Lib.hid n02
  replace n03 := Lib.hid n03
  go_enter Tryz.func18, Tryz.ntmps18
  go_wp2_with fail
  refine (pgraph_bad r k R va vn vc T t _ hg.out h.out hc.out).mono ?_
  rintro e w1 ⟨x, y, rfl, b1, rfl, hy⟩
  obtain ⟨T2, a2, rfl⟩ : ∃ T a, y = .iface T (.pointer (some a)) := by
    unfold under at hy
    exact ErrIs.some_shape hy
  replace hy := Lib.hid hy
  clear z0 z1 z2
  go_wp2_with fail
  refine (under_any r sInject 0 _ _ w1 hy.out).mono ?_
  rintro e w2 ⟨u, rfl, b2, hu⟩
  have hu' := hu
  obtain ⟨T3, a3, rfl⟩ : ∃ T a, u = .iface T (.pointer (some a)) := by
    unfold under at hu'
    exact ErrIs.some_shape hu'
  clear hu'
  have R2 := (R1.out.below b1).below b2
  replace n02 := n02.out
  replace n03 := n03.out
  have bw := Below.step b0 (Below.step b1 b2)
  obtain ⟨g0, g1, g2, g3⟩ := R2.cells4 n02
  obtain ⟨h0, h1, h2, h3⟩ := R2.cells4 n03
  have fg0 := R2.frz4 n02 0
  have fh0 := R2.frz4 n03 0
  have fg1 := R2.frz4 n02 1
  have fh1 := R2.frz4 n03 1
  have fg2 := R2.frz4 n02 2
  have fh2 := R2.frz4 n03 2
  have fg3 := R2.frz4 n02 3
  have fh3 := R2.frz4 n03 3
  have c2 := R2.cells4 n02
  have c3 := R2.cells4 n03
  have lg0 := (R2.low4 n02).1
  have lh0 := (R2.low4 n03).1
  obtain ⟨f3, R3, m02, o3⟩ := R2.all4 n02 (.int .i64 0) (.slice none 0 0) (.slice none 0 0) (.slice none 0 0)
  have n03' := (o3 (0, 3) (by decide)).trans n03
  have hu2 := hu.all4 c2 (.slice none 0 0) (.slice none 0 0) (.slice none 0 0)
  have hu3 := hu2.all4 (R3.cells4 n03') (.slice none 0 0) (.slice none 0 0) (.slice none 0 0)
  have b15 := Below.all4 (g := w.heap.size + 1) bw lg0 (.int .i64 0) (.slice none 0 0) (.slice none 0 0) (.slice none 0 0)
  have b16 := Below.all4 (g := w.heap.size + 2) b15 lh0 (.int .i64 0) (.slice none 0 0) (.slice none 0 0) (.slice none 0 0)
  replace hu := Lib.hid hu
  replace hu2 := Lib.hid hu2
  replace hu3 := Lib.hid hu3
  replace R2 := Lib.hid R2
  replace R3 := Lib.hid R3
  replace n02 := Lib.hid n02
  replace n03 := Lib.hid n03
  replace n03' := Lib.hid n03'
  replace m02 := Lib.hid m02
  clear o3 c2 c3
  go_wp2
  (try simp only [Exit.inBlock, Exit.then])
  refine bodyPost_ret (v := .tuple #[.bool false, zRow, zRow, .iface T3 (.pointer (some a3))]) (by simp [results, Tryz.results18, go_sem, g0, g1, g2, g3, h0, h1, h2, h3]) rfl ?_
  exact ⟨_, _, _, _, rfl, b16, rfl, rfl, rfl, hu3.out⟩

set_option maxHeartbeats 4000000 in
theorem one_ok (r : Nat → Addr) (K R : Nat) (va : Option Addr) (vn vc : Nat) (T : List Int) (w : World) (hg : Glob r w) (h : IntsAt w (.slice va vn vc) T) (hr : RuleOk K R T) (hl : T.length ≤ 256) :
    Calls Tryz.prog 18 #[.agg #[.int .i64 K, .int .i64 R, .slice va vn vc]] w (Ret4 (OnePost w K R T) w) := by
  have bb := belowAlloc w (.cells #[.int .i64 K, .int .i64 R, .slice va vn vc] 24)
  have q : Box3 (w.alloc (.cells #[.int .i64 K, .int .i64 R, .slice va vn vc] 24)) w.heap.size (.int .i64 K) (.int .i64 R) (.slice va vn vc) := by simp [Box3, go_sem]
  obtain ⟨f0, R0, n02, o02⟩ := ((Rows.void w.heap.size w).below bb).box4 (0, 2) (by simp) 42 (.int .i64 0) (.slice none 0 0) (.slice none 0 0) (.slice none 0 0)
  obtain ⟨f1, R1, n03, o03⟩ := R0.box4 (0, 3) (by simp; omega) 42 (.int .i64 0) (.slice none 0 0) (.slice none 0 0) (.slice none 0 0)
  replace n02 := (o03 (0, 2) (by decide)).trans n02
  simp only [World.size_alloc] at n02 n03
  have b0 : Below w.heap.size w (((w.alloc (.cells #[.int .i64 K, .int .i64 R, .slice va vn vc] 24)).alloc (.cells #[.int .i64 0, .slice none 0 0, .slice none 0 0, .slice none 0 0] 42)).alloc (.cells #[.int .i64 0, .slice none 0 0, .slice none 0 0, .slice none 0 0] 42)) := Below.step bb (Below.step (belowAlloc _ _) (belowAlloc _ _))
  replace q := q.below (Below.step (belowAlloc _ (.cells #[.int .i64 0, .slice none 0 0, .slice none 0 0, .slice none 0 0] 42)) (belowAlloc _ (.cells #[.int .i64 0, .slice none 0 0, .slice none 0 0, .slice none 0 0] 42)))
  clear o02 o03 R0 bb
  have hk1 := hr.k1
  have hokW := wk_ok hr
  have hlW := wk_small hr hl
  have hRW := wk_pos R
  have hN81 := nodes_le hokW hRW hlW
  have hN1 := pw_pos (K := K) (2 * wkR R) hk1
  obtain ⟨hdiv, hlen⟩ := hokW.half
  have hNK : pw K (2 * wkR R) * K ≤ 256 := by rw [← hlen]; exact hlW
  have hck := pairG_check (K := K) (N := pw K (2 * wkR R)) (T := wkT K R T) (by omega) hN81 hNK
  have hokG : GraphOk (pairG K (pw K (2 * wkR R)) (wkT K R T)) := pairG_ok (by omega)
  have hsz : ∀ k, k < (pairG K (pw K (2 * wkR R)) (wkT K R T)).length → ((pairG K (pw K (2 * wkR R)) (wkT K R T)).getD k []).length ≤ 17592186044416 := fun k hk => by
    rw [pairG_len] at hk
    rw [pairG_row hk, castI_len]
    have := pairL_len K (pw K (2 * wkR R)) (wkT K R T) k
    have h4 := hr.k4
    have := Nat.mul_le_mul h4 h4
    omega
  have hgraph := fun (w' : World) (hgl : Glob r w') (hT : IntsAt w' (.slice va vn vc) T) => pgraph_ok r K R va vn vc T w' hgl hT hr hl
  have hapart := fun (w' : World) (hgl : Glob r w') (hT : IntsAt w' (.slice va vn vc) T) => papart_ok r K R va vn vc T w' hgl hT hr hl
  have hlenG := pairG_len (K := K) (N := pw K (2 * wkR R)) (T := wkT K R T)
  have hodd := fun (L : List Nat) (hL : LiveList (pw K (2 * wkR R) * pw K (2 * wkR R)) (adjOf (pairG K (pw K (2 * wkR R)) (wkT K R T))) L) => odd_none hr hL
  have hone : ∀ (l : List Nat) (v : Nat) (m L C Q : List Nat), LiveList (pw K (2 * wkR R) * pw K (2 * wkR R)) (adjOf (pairG K (pw K (2 * wkR R)) (wkT K R T))) l → oddL K R l = v :: m → WitIs (pairG K (pw K (2 * wkR R)) (wkT K R T)) v L C Q → OneIs K R T L C Q := fun l v m L C Q h1 h2 h3 => ⟨l, v, m, h1, h2, h3⟩
  have hsub : ∀ (L : List Nat) (v : Nat) (m : List Nat), oddL K R L = v :: m → v ∈ L := fun L v m e => (List.mem_filter.1 (show v ∈ oddL K R L by rw [e]; exact List.mem_cons_self)).1
  have hwit := fun (ga : Option Addr) (gc v : Nat) (w' : World) (hgl : Glob r w') (hT : ListsAt w' (.slice ga (pairG K (pw K (2 * wkR R)) (wkT K R T)).length gc) (pairG K (pw K (2 * wkR R)) (wkT K R T))) (hv : v < (pairG K (pw K (2 * wkR R)) (wkT K R T)).length) (hli : IsLive (pairG K (pw K (2 * wkR R)) (wkT K R T)).length (adjOf (pairG K (pw K (2 * wkR R)) (wkT K R T))) v) => witness_ok r K (pw K (2 * wkR R)) ga gc _ v w' hgl hT hsz hck hokG hlenG hN1 hN81 hk1 hv hli
  replace hgraph := Lib.hid hgraph
  replace hapart := Lib.hid hapart
  replace hodd := Lib.hid hodd
  replace hone := Lib.hid hone
  replace hsub := Lib.hid hsub
  replace hwit := Lib.hid hwit
  replace hlenG := Lib.hid hlenG
  clear hdiv hlen hNK hck hokG hsz hokW hlW hRW hN81 hl
  replace hg := Lib.hid (hg.below b0)
  replace h := Lib.hid (h.below b0)
  replace hr := Lib.hid hr
  obtain ⟨⟨z0, z1, z2⟩, -, -, -⟩ := q
  have q0 := z0
  replace R1 := Lib.hid R1
  replace n02 := Lib.hid n02
  replace n03 := Lib.hid n03
  replace b0 := Lib.hid b0
  go_enter Tryz.func18, Tryz.ntmps18
  go_wp2_with fail
  refine (hgraph.out _ hg.out h.out).mono ?_
  rintro e w1 ⟨gv, y, rfl, b1, rfl, fg, vals, hrows, hwn⟩
  have hL : ListsAt w1 gv (pairG K (pw K (2 * wkR R)) (wkT K R T)) := hwn.lists hrows
  obtain ⟨ga, gc, rfl⟩ := hL.shape
  have c0 : w1.cell? ⟨w.heap.size, 0, none⟩ = some (.int .i64 K) := by rw [b1.cell (World.block_lt_of_cell? _ _ z0)]; exact z0
  have c1 : w1.cell? ⟨w.heap.size, 1, none⟩ = some (.int .i64 R) := by rw [b1.cell (World.block_lt_of_cell? _ _ z1)]; exact z1
  have c2 : w1.cell? ⟨w.heap.size, 2, none⟩ = some (.slice va vn vc) := by rw [b1.cell (World.block_lt_of_cell? _ _ z2)]; exact z2
  have b01 := Below.step b0.out b1
  replace hL := Lib.hid hL
  clear hrows hwn z0 z1 z2
  rw [hlenG.out]
  generalize hM : pw K (2 * wkR R) * pw K (2 * wkR R) = M at *
  replace hM := Lib.hid hM
  go_wp2_with fail
  refine (hapart.out w1 (hg.out.below b1) (h.out.below b1)).mono ?_
  rintro e w2 ⟨av, y, rfl, b2, rfl, L, hLL, how⟩
  have how2 : OwnI w1.heap.size w2 av (castI (oddL K R L)) := how
  clear how
  have hnone := hodd.out L hLL
  have b12 := Below.step b1 b2
  have b02 := Below.step b01 b2
  have R2 := R1.out.below b12
  have k0 : w2.cell? ⟨w.heap.size, 0, none⟩ = some (.int .i64 K) := by rw [b2.cell (World.block_lt_of_cell? _ _ c0)]; exact c0
  have lA := how2.at.len
  rw [castI_len] at lA
  have hsubL := hsub.out L
  have honeL := fun v m L' C' Q' e k => hone.out L v m L' C' Q' hLL e k
  have hmemL := hLL.mem
  replace hLL := Lib.hid hLL
  replace hsubL := Lib.hid hsubL
  replace honeL := Lib.hid honeL
  replace hmemL := Lib.hid hmemL
  clear c0 c1 c2
  cases hod : oddL K R L with
  | nil =>
    rw [hod] at hnone how2 lA
    have hno := hnone.1 rfl
    obtain ⟨aa, an, ac, rfl⟩ := how2.at.shape
    replace n02 := n02.out
    replace n03 := n03.out
    obtain ⟨g0, g1, g2, g3⟩ := R2.cells4 n02
    obtain ⟨h0, h1, h2, h3⟩ := R2.cells4 n03
    have fg0 := R2.frz4 n02 0
    have fh0 := R2.frz4 n03 0
    have fg1 := R2.frz4 n02 1
    have fh1 := R2.frz4 n03 1
    have fg2 := R2.frz4 n02 2
    have fh2 := R2.frz4 n03 2
    have fg3 := R2.frz4 n02 3
    have fh3 := R2.frz4 n03 3
    have c2 := R2.cells4 n02
    have c3 := R2.cells4 n03
    have lg0 := (R2.low4 n02).1
    have lh0 := (R2.low4 n03).1
    obtain ⟨f3, R3, m02, o3⟩ := R2.all4 n02 (.int .i64 0) (.slice none 0 0) (.slice none 0 0) (.slice none 0 0)
    have b15 := Below.all4 (g := w.heap.size + 1) b02 lg0 (.int .i64 0) (.slice none 0 0) (.slice none 0 0) (.slice none 0 0)
    have b16 := Below.all4 (g := w.heap.size + 2) b15 lh0 (.int .i64 0) (.slice none 0 0) (.slice none 0 0) (.slice none 0 0)
    replace hno := Lib.hid hno
    replace hod := Lib.hid hod
    replace how2 := Lib.hid how2
    replace R2 := Lib.hid R2
    replace R3 := Lib.hid R3
    replace n02 := Lib.hid n02
    replace n03 := Lib.hid n03
    replace m02 := Lib.hid m02
    clear o3 c2 c3 hnone
    go_wp2
    (try simp only [Exit.inBlock, Exit.then])
    refine bodyPost_ret (v := .tuple #[.bool true, zRow, zRow, .nilIface]) (by simp [results, Tryz.results18, go_sem, g0, g1, g2, g3, h0, h1, h2, h3]) rfl ?_
    exact ⟨_, _, _, _, rfl, b16, rfl, .inl ⟨rfl, rfl, rfl, hno.out⟩⟩
  | cons v m =>
    rw [hod] at hnone how2 lA
    have hno : NotOne K R T := Classical.byContradiction fun q => by have := hnone.2 q; cases this
    obtain ⟨aa, an, ac, rfl⟩ := how2.at.shape
    have hvL := hsubL.out v m hod
    obtain ⟨hvM, hvl⟩ := (hmemL.out v).1 hvL
    have iA : ∀ w', (Instr.indexAt 22 (.slice aa an ac) (.int .i64 0)).run Tryz.prog w' = .ok (.pointer (some (valAt (.slice aa an ac) 0))) w' := fun w' => how2.at.idx 0 (by simp [castI]) w'
    have cA := how2.at.cellD 0 (by simp [castI])
    rw [show (castI (v :: m)).getD 0 0 = (v : Int) from rfl] at cA
    have e0 : (((v :: m).length : Nat) : Int) = (m.length : Int) + 1 := by simp
    rw [e0] at lA
    have e1 : ((m.length : Int) + 1 == 0) = false := by rw [beq_eq_false_iff_ne]; omega
    have hwv := fun (w' : World) (hgl : Glob r w') (hT : ListsAt w' (.slice ga M gc) (pairG K (pw K (2 * wkR R)) (wkT K R T))) => hwit.out ga gc v w' hgl (by rw [hlenG.out]; exact hT) (by rw [hlenG.out]; exact hvM) (by rw [hlenG.out]; exact hvl)
    rw [hlenG.out] at hwv
    have hG2 := hg.out.below b12
    have hL2 : ListsAt w2 (.slice ga M gc) (pairG K (pw K (2 * wkR R)) (wkT K R T)) := by
      have := hL.out.below b2
      rwa [hlenG.out] at this
    replace hwv := Lib.hid hwv
    replace hG2 := Lib.hid hG2
    replace hL2 := Lib.hid hL2
    replace hno := Lib.hid hno
    replace hvL := Lib.hid hvL
    replace hvl := Lib.hid hvl
    replace how2 := Lib.hid how2
    replace R2 := Lib.hid R2
    clear hnone e0
    generalize valAt (.slice aa an ac) 0 = ra at *
    replace hod := Lib.hid hod
    go_upto_region 7 with fail
    go_cut [7, 9, 10] from 39 (fun s7 s9 s10 wx => s7 = .nilIface ∧ ∃ (g9 g10 : Nat) (L C Q : List Nat) (aL aC aQ bL bC bQ : Value) (f : Names), s9 = .pointer (some ⟨g9, 0, none⟩) ∧ s10 = .pointer (some ⟨g10, 0, none⟩) ∧ Below w.heap.size w wx ∧ WitIs (pairG K (pw K (2 * wkR R)) (wkT K R T)) v L C Q ∧ Rows w.heap.size wx f ∧ f (0, 2) = some (box4 42 (w.heap.size + 1) [.int .i64 0, .slice none 0 0, .slice none 0 0, .slice none 0 0]) ∧ f (0, 3) = some (box4 42 (w.heap.size + 2) [.int .i64 0, .slice none 0 0, .slice none 0 0, .slice none 0 0]) ∧ f (9, 0) = some (box4 42 g9 [.int .i64 0, aL, aC, aQ]) ∧ f (9, 1) = some (box4 42 g10 [.int .i64 0, bL, bC, bQ]) ∧ f (1, 0) = some (rowI aL (sideA K (pw K (2 * wkR R)) L)) ∧ f (1, 1) = some (rowI bL (sideB K (pw K (2 * wkR R)) L)) ∧ f (2, 0) = some (rowI aC (sideA K (pw K (2 * wkR R)) C)) ∧ f (2, 1) = some (rowI bC (sideB K (pw K (2 * wkR R)) C)) ∧ f (3, 0) = some (rowI aQ (sideA K (pw K (2 * wkR R)) Q)) ∧ f (3, 1) = some (rowI bQ (sideB K (pw K (2 * wkR R)) Q)))
    case first =>
      obtain ⟨W0, hW0⟩ : ∃ W0 : World, W0 = w2.drew := ⟨_, rfl⟩
      have b20 : Below w2.heap.size w2 W0 := by rw [hW0]; exact (Below.refl _ _).drew
      have bW0 : Below w.heap.size w W0 := by rw [hW0]; exact b02.drew
      have RW0 : Rows w.heap.size W0 f1 := by rw [hW0]; exact R2.out.drew
      have hB0 := bW0.size
      have hS0 : W0.cell? ⟨w.heap.size, 0, none⟩ = some (.int .i64 K) ∧ W0.cell? ra = some (.int .i64 v) := by rw [hW0]; exact ⟨k0, cA⟩
      have hlow : w.heap.size < w2.heap.size ∧ ra.block < w2.heap.size := ⟨World.block_lt_of_cell? _ _ k0, World.block_lt_of_cell? _ _ cA⟩
      replace n02 := n02.out
      replace n03 := n03.out
      refine wp_region_noPanic ?_
      refine wp_region_any (by kernel_rfl) ?_
      change wpAny _ _ _ _ _ _ _ (World.drew _)
      rw [← hW0]
      clear hW0 k0 cA b02 R2
      refine wpAny_of_held (S := fun w' => w'.cell? ⟨w.heap.size, 0, none⟩ = some (.int .i64 K) ∧ w'.cell? ra = some (.int .i64 v)) _ _ _ _ ?_
      refine takeD (i := 0) (v := ?_) (some 40) rfl rfl (by kernel_rfl) (by kernel_rfl) (by kernel_rfl) (fun _ _ _ h => h) (Or.inl ⟨by rfl, ?_⟩) hS0 ?_
      rotate_left
      · rintro W' ⟨s0, s1⟩; go_simp; try with_reducible rfl
      simp only [Act.put, List.setIfInBounds_toArray, List.set_cons_zero, List.set_cons_succ]
      refine takeD (i := 1) (v := ?_) (some 41) rfl rfl (by kernel_rfl) (by kernel_rfl) (by kernel_rfl) (fun _ _ _ h => h) (Or.inl ⟨by rfl, ?_⟩) hS0 ?_
      rotate_left
      · rintro W' ⟨s0, s1⟩; go_simp; try with_reducible rfl
      simp only [Act.put, List.setIfInBounds_toArray, List.set_cons_zero, List.set_cons_succ]
      refine takeD (i := 2) (v := ?_) (some 42) rfl rfl (by kernel_rfl) (by kernel_rfl) (by kernel_rfl) (fun _ _ _ h => h) (Or.inl ⟨by rfl, ?_⟩) hS0 ?_
      rotate_left
      · rintro W' ⟨s0, s1⟩; go_simp; try with_reducible rfl
      simp only [Act.put, List.setIfInBounds_toArray, List.set_cons_zero, List.set_cons_succ]
      refine takeD (i := 3) (v := ?_) (some 43) rfl rfl (by kernel_rfl) (by kernel_rfl) (by kernel_rfl) (fun _ _ _ h => h) (Or.inl ⟨by rfl, ?_⟩) hS0 ?_
      rotate_left
      · rintro W' ⟨s0, s1⟩; go_simp; try with_reducible rfl
      simp only [Act.put, List.setIfInBounds_toArray, List.set_cons_zero, List.set_cons_succ]
      refine takeD (i := 4) (v := ?_) (some 44) rfl rfl (by kernel_rfl) (by kernel_rfl) (by kernel_rfl) (fun _ _ _ h => h) (Or.inl ⟨by rfl, ?_⟩) hS0 ?_
      rotate_left
      · rintro W' ⟨s0, s1⟩; go_simp; try with_reducible rfl
      simp only [Act.put, List.setIfInBounds_toArray, List.set_cons_zero, List.set_cons_succ]
      refine takeD (i := 5) (v := ?_) (some 45) rfl rfl (by kernel_rfl) (by kernel_rfl) (by kernel_rfl) (fun _ _ _ h => h) (Or.inl ⟨by rfl, ?_⟩) hS0 ?_
      rotate_left
      · rintro W' ⟨s0, s1⟩; go_simp; try with_reducible rfl
      simp only [Act.put, List.setIfInBounds_toArray, List.set_cons_zero, List.set_cons_succ]
      refine wpAnyH_ready (rs := [6, 11, 12]) (by kernel_rfl) (by simp) (AllReadyH.cons rfl (fun KK hK => ?_) (AllReadyH.cons rfl (fun KK hK => ?_) (AllReadyH.cons rfl (fun KK hK => ?_) (AllReadyH.nil))))
      · go_simp
        refine (hwv.out W0 (hG2.out.below b20) (hL2.out.below b20)).mono ?_
        rintro e W1 ⟨x, y, z, rfl, bb, hz, L', C', Q', aL, aC, aQ, bL, bC, bQ, hwi, rfl, rfl, fw, Rw, k10, k11, k20, k21, k30, k31⟩
        subst hz
        obtain ⟨aLa, aLn, aLc, haL⟩ := (Rw.ownI k10).at.shape
        subst haL
        obtain ⟨bLa, bLn, bLc, hbL⟩ := (Rw.ownI k11).at.shape
        subst hbL
        obtain ⟨aCa, aCn, aCc, haC⟩ := (Rw.ownI k20).at.shape
        subst haC
        obtain ⟨bCa, bCn, bCc, hbC⟩ := (Rw.ownI k21).at.shape
        subst hbC
        obtain ⟨aQa, aQn, aQc, haQ⟩ := (Rw.ownI k30).at.shape
        subst haQ
        obtain ⟨bQa, bQn, bQc, hbQ⟩ := (Rw.ownI k31).at.shape
        subst hbQ
        obtain ⟨f1, RW1, sel, oth⟩ := RW0.merge (fun i => decide (i.1 = 1 ∨ i.1 = 2 ∨ i.1 = 3)) bb Rw hB0
        replace n02 := (oth (0, 2) (by decide)).trans n02
        replace n03 := (oth (0, 3) (by decide)).trans n03
        have n10 := (sel (1, 0) (by decide)).trans k10
        have n11 := (sel (1, 1) (by decide)).trans k11
        have n20 := (sel (2, 0) (by decide)).trans k20
        have n21 := (sel (2, 1) (by decide)).trans k21
        have n30 := (sel (3, 0) (by decide)).trans k30
        have n31 := (sel (3, 1) (by decide)).trans k31
        replace hwi := Lib.hid hwi
        clear sel oth k10 k11 k20 k21 k30 k31 Rw
        have bW1 := bW0.trans (bb.mono hB0)
        have b21 := Below.step b20 bb
        have hB1 := bW1.size
        have hS1 : W1.cell? ⟨w.heap.size, 0, none⟩ = some (.int .i64 K) ∧ W1.cell? ra = some (.int .i64 v) := ⟨by rw [b21.cell hlow.1, ← b20.cell hlow.1]; exact hS0.1, by rw [b21.cell hlow.2, ← b20.cell hlow.2]; exact hS0.2⟩
        refine hK.out _ _ hS1 fun _ => ?_
        clear hK KK bb RW0
        refine takeD (i := 7) (v := ?_) (some 39) rfl rfl (by kernel_rfl) (by kernel_rfl) (by kernel_rfl) (fun _ _ _ h => h) (Or.inl ⟨by rfl, ?_⟩) hS1 ?_
        rotate_left
        · rintro W' ⟨s0, s1⟩; go_simp; try with_reducible rfl
        simp only [Act.put, List.setIfInBounds_toArray, List.set_cons_zero, List.set_cons_succ]
        refine takeD (i := 8) (v := ?_) (some 47) rfl rfl (by kernel_rfl) (by kernel_rfl) (by kernel_rfl) (fun _ _ _ h => h) (Or.inl ⟨by rfl, ?_⟩) hS1 ?_
        rotate_left
        · rintro W' ⟨s0, s1⟩; go_simp; try with_reducible rfl
        simp only [Act.put, List.setIfInBounds_toArray, List.set_cons_zero, List.set_cons_succ]
        refine takeD (i := 9) (v := ?_) (some 48) rfl rfl (by kernel_rfl) (by kernel_rfl) (by kernel_rfl) (fun _ _ _ h => h) (Or.inl ⟨by rfl, ?_⟩) hS1 ?_
        rotate_left
        · rintro W' ⟨s0, s1⟩; go_simp; try with_reducible rfl
        simp only [Act.put, List.setIfInBounds_toArray, List.set_cons_zero, List.set_cons_succ]
        refine takeD (i := 10) (v := ?_) (some 49) rfl rfl (by kernel_rfl) (by kernel_rfl) (by kernel_rfl) (fun _ _ _ h => h) (Or.inl ⟨by rfl, ?_⟩) hS1 ?_
        rotate_left
        · rintro W' ⟨s0, s1⟩; go_simp; try with_reducible rfl
        simp only [Act.put, List.setIfInBounds_toArray, List.set_cons_zero, List.set_cons_succ]
        refine wpAnyH_ready (rs := [11, 12]) (by kernel_rfl) (by simp) (AllReadyH.cons rfl (fun KK hK => ?_) (AllReadyH.cons rfl (fun KK hK => ?_) (AllReadyH.nil)))
        · go_simp
          obtain ⟨f2, RW2, n90, oo⟩ := RW1.box4 (9, 0) hB1 42 (.int .i64 0) (.slice none 0 0) (.slice none 0 0) (.slice none 0 0)
          replace n02 := (oo (0, 2) (by decide)).trans n02
          replace n03 := (oo (0, 3) (by decide)).trans n03
          replace n10 := (oo (1, 0) (by decide)).trans n10
          replace n11 := (oo (1, 1) (by decide)).trans n11
          replace n20 := (oo (2, 0) (by decide)).trans n20
          replace n21 := (oo (2, 1) (by decide)).trans n21
          replace n30 := (oo (3, 0) (by decide)).trans n30
          replace n31 := (oo (3, 1) (by decide)).trans n31
          have bb := belowAlloc W1 (.cells #[.int .i64 0, .slice none 0 0, .slice none 0 0, .slice none 0 0] 42)
          obtain ⟨gb9, hgb9⟩ : ∃ g, W1.heap.size = g := ⟨_, rfl⟩
          obtain ⟨W2, hW2⟩ : ∃ W' : World, W1.alloc (.cells #[.int .i64 0, .slice none 0 0, .slice none 0 0, .slice none 0 0] 42) = W' := ⟨_, rfl⟩
          have lgb9 : w2.heap.size ≤ gb9 := by rw [← hgb9]; exact b21.size
          have bW2 := bW1.trans (bb.mono hB1)
          have b22 := Below.step b21 bb
          rw [hW2] at RW2 bW2 b22 bb
          have hB2 := bW2.size
          have hS2 : W2.cell? ⟨w.heap.size, 0, none⟩ = some (.int .i64 K) ∧ W2.cell? ra = some (.int .i64 v) := ⟨by rw [b22.cell hlow.1, ← b21.cell hlow.1]; exact hS1.1, by rw [b22.cell hlow.2, ← b21.cell hlow.2]; exact hS1.2⟩
          rw [hW2, hgb9]
          rw [hgb9] at n90
          replace hW2 := Lib.hid hW2
          replace hgb9 := Lib.hid hgb9
          refine hK.out _ _ hS2 fun _ => ?_
          clear hK KK bb RW1 oo
          refine wpAnyH_ready (rs := [12]) (by kernel_rfl) (by simp) (AllReadyH.cons rfl (fun KK hK => ?_) (AllReadyH.nil))
          · go_simp
            obtain ⟨f3, RW3, n91, oo⟩ := RW2.box4 (9, 1) hB2 42 (.int .i64 0) (.slice none 0 0) (.slice none 0 0) (.slice none 0 0)
            replace n02 := (oo (0, 2) (by decide)).trans n02
            replace n03 := (oo (0, 3) (by decide)).trans n03
            replace n10 := (oo (1, 0) (by decide)).trans n10
            replace n11 := (oo (1, 1) (by decide)).trans n11
            replace n20 := (oo (2, 0) (by decide)).trans n20
            replace n21 := (oo (2, 1) (by decide)).trans n21
            replace n30 := (oo (3, 0) (by decide)).trans n30
            replace n31 := (oo (3, 1) (by decide)).trans n31
            replace n90 := (oo (9, 0) (by decide)).trans n90
            have bb := belowAlloc W2 (.cells #[.int .i64 0, .slice none 0 0, .slice none 0 0, .slice none 0 0] 42)
            obtain ⟨gb10, hgb10⟩ : ∃ g, W2.heap.size = g := ⟨_, rfl⟩
            obtain ⟨W3, hW3⟩ : ∃ W' : World, W2.alloc (.cells #[.int .i64 0, .slice none 0 0, .slice none 0 0, .slice none 0 0] 42) = W' := ⟨_, rfl⟩
            have lgb10 : w2.heap.size ≤ gb10 := by rw [← hgb10]; exact b22.size
            have bW3 := bW2.trans (bb.mono hB2)
            have b23 := Below.step b22 bb
            rw [hW3] at RW3 bW3 b23 bb
            have hB3 := bW3.size
            have hS3 : W3.cell? ⟨w.heap.size, 0, none⟩ = some (.int .i64 K) ∧ W3.cell? ra = some (.int .i64 v) := ⟨by rw [b23.cell hlow.1, ← b22.cell hlow.1]; exact hS2.1, by rw [b23.cell hlow.2, ← b22.cell hlow.2]; exact hS2.2⟩
            rw [hW3, hgb10]
            rw [hgb10] at n91
            replace hW3 := Lib.hid hW3
            replace hgb10 := Lib.hid hgb10
            refine hK.out _ _ hS3 fun _ => ?_
            clear hK KK bb RW2 oo
            obtain ⟨t0, t1, t2, t3⟩ := RW3.cells4 n90
            have ft0 := RW3.frz4 n90 0
            have ft1 := RW3.frz4 n90 1
            have ft2 := RW3.frz4 n90 2
            have ft3 := RW3.frz4 n90 3
            have lt := (RW3.low4 n90)
            obtain ⟨f4, RW4, mm, oo⟩ := RW3.all4 n90 (.int .i64 0) (.slice aLa aLn aLc) (.slice aCa aCn aCc) (.slice aQa aQn aQc)
            replace n02 := (oo (0, 2) (by decide)).trans n02
            replace n03 := (oo (0, 3) (by decide)).trans n03
            replace n10 := (oo (1, 0) (by decide)).trans n10
            replace n11 := (oo (1, 1) (by decide)).trans n11
            replace n20 := (oo (2, 0) (by decide)).trans n20
            replace n21 := (oo (2, 1) (by decide)).trans n21
            replace n30 := (oo (3, 0) (by decide)).trans n30
            replace n31 := (oo (3, 1) (by decide)).trans n31
            replace n91 := (oo (9, 1) (by decide)).trans n91
            clear n90
            have n90 := mm
            have bW4 := Below.all4 (g := gb9) bW3 lt.1 (.int .i64 0) (.slice aLa aLn aLc) (.slice aCa aCn aCc) (.slice aQa aQn aQc)
            have b24 := Below.all4 (g := gb9) b23 lgb9 (.int .i64 0) (.slice aLa aLn aLc) (.slice aCa aCn aCc) (.slice aQa aQn aQc)
            obtain ⟨W4, hW4⟩ : ∃ W' : World, (((W3.setCell ⟨gb9, 0, none⟩ (.int .i64 0)).setCell ⟨gb9, 1, none⟩ (.slice aLa aLn aLc)).setCell ⟨gb9, 2, none⟩ (.slice aCa aCn aCc)).setCell ⟨gb9, 3, none⟩ (.slice aQa aQn aQc) = W' := ⟨_, rfl⟩
            rw [hW4] at RW4 bW4 b24
            have hS4 : W4.cell? ⟨w.heap.size, 0, none⟩ = some (.int .i64 K) ∧ W4.cell? ra = some (.int .i64 v) := ⟨by rw [b24.cell hlow.1, ← b23.cell hlow.1]; exact hS3.1, by rw [b24.cell hlow.2, ← b23.cell hlow.2]; exact hS3.2⟩
            replace hW4 := Lib.hid hW4
            refine wpAnyH_ready (rs := [13]) (by kernel_rfl) (by simp) (AllReadyH.cons rfl (fun KK hK => ?_) AllReadyH.nil)
            go_simp
            rw [hW4.out]
            refine hK.out _ _ hS4 fun _ => ?_
            clear hK KK t0 t1 t2 t3 ft0 ft1 ft2 ft3 mm oo lt RW3 hW4
            obtain ⟨t0, t1, t2, t3⟩ := RW4.cells4 n91
            have ft0 := RW4.frz4 n91 0
            have ft1 := RW4.frz4 n91 1
            have ft2 := RW4.frz4 n91 2
            have ft3 := RW4.frz4 n91 3
            have lt := (RW4.low4 n91)
            obtain ⟨f5, RW5, mm, oo⟩ := RW4.all4 n91 (.int .i64 0) (.slice bLa bLn bLc) (.slice bCa bCn bCc) (.slice bQa bQn bQc)
            replace n02 := (oo (0, 2) (by decide)).trans n02
            replace n03 := (oo (0, 3) (by decide)).trans n03
            replace n10 := (oo (1, 0) (by decide)).trans n10
            replace n11 := (oo (1, 1) (by decide)).trans n11
            replace n20 := (oo (2, 0) (by decide)).trans n20
            replace n21 := (oo (2, 1) (by decide)).trans n21
            replace n30 := (oo (3, 0) (by decide)).trans n30
            replace n31 := (oo (3, 1) (by decide)).trans n31
            replace n90 := (oo (9, 0) (by decide)).trans n90
            clear n91
            have n91 := mm
            have bW5 := Below.all4 (g := gb10) bW4 lt.1 (.int .i64 0) (.slice bLa bLn bLc) (.slice bCa bCn bCc) (.slice bQa bQn bQc)
            have b25 := Below.all4 (g := gb10) b24 lgb10 (.int .i64 0) (.slice bLa bLn bLc) (.slice bCa bCn bCc) (.slice bQa bQn bQc)
            obtain ⟨W5, hW5⟩ : ∃ W' : World, (((W4.setCell ⟨gb10, 0, none⟩ (.int .i64 0)).setCell ⟨gb10, 1, none⟩ (.slice bLa bLn bLc)).setCell ⟨gb10, 2, none⟩ (.slice bCa bCn bCc)).setCell ⟨gb10, 3, none⟩ (.slice bQa bQn bQc) = W' := ⟨_, rfl⟩
            rw [hW5] at RW5 bW5 b25
            have hS5 : W5.cell? ⟨w.heap.size, 0, none⟩ = some (.int .i64 K) ∧ W5.cell? ra = some (.int .i64 v) := ⟨by rw [b25.cell hlow.1, ← b24.cell hlow.1]; exact hS4.1, by rw [b25.cell hlow.2, ← b24.cell hlow.2]; exact hS4.2⟩
            replace hW5 := Lib.hid hW5
            refine wpAnyH_ready (rs := [14]) (by kernel_rfl) (by simp) (AllReadyH.cons rfl (fun KK hK => ?_) AllReadyH.nil)
            go_simp
            rw [hW5.out]
            refine hK.out _ _ hS5 fun _ => ?_
            clear hK KK t0 t1 t2 t3 ft0 ft1 ft2 ft3 mm oo lt RW4 hW5
            refine takeD (i := 15) (v := ?_) (some 7) rfl rfl (by kernel_rfl) (by kernel_rfl) (by kernel_rfl) (fun _ _ _ h => h) (Or.inl ⟨by rfl, ?_⟩) hS5 ?_
            rotate_left
            · rintro W' ⟨s0, s1⟩; go_simp; try with_reducible rfl
            simp only [Act.put, List.setIfInBounds_toArray, List.set_cons_zero, List.set_cons_succ]
            refine wpAnyH_done (by kernel_rfl) ?_ _
            refine NoPanic.normal ?_
            replace n02 := Lib.hid n02
            replace n03 := Lib.hid n03
            replace n90 := Lib.hid n90
            replace n91 := Lib.hid n91
            replace n10 := Lib.hid n10
            replace n11 := Lib.hid n11
            replace n20 := Lib.hid n20
            replace n21 := Lib.hid n21
            replace n30 := Lib.hid n30
            replace n31 := Lib.hid n31
            replace RW5 := Lib.hid RW5
            go_wp2
            go_meet
            case rel => exact ⟨rfl, gb9, gb10, L', C', Q', _, _, _, _, _, _, f5, rfl, rfl, bW5, hwi.out, RW5.out, n02.out, n03.out, n90.out, n91.out, n10.out, n11.out, n20.out, n21.out, n30.out, n31.out⟩
        · go_simp
          obtain ⟨f6, RW6, n91, oo⟩ := RW1.box4 (9, 1) hB1 42 (.int .i64 0) (.slice none 0 0) (.slice none 0 0) (.slice none 0 0)
          replace n02 := (oo (0, 2) (by decide)).trans n02
          replace n03 := (oo (0, 3) (by decide)).trans n03
          replace n10 := (oo (1, 0) (by decide)).trans n10
          replace n11 := (oo (1, 1) (by decide)).trans n11
          replace n20 := (oo (2, 0) (by decide)).trans n20
          replace n21 := (oo (2, 1) (by decide)).trans n21
          replace n30 := (oo (3, 0) (by decide)).trans n30
          replace n31 := (oo (3, 1) (by decide)).trans n31
          have bb := belowAlloc W1 (.cells #[.int .i64 0, .slice none 0 0, .slice none 0 0, .slice none 0 0] 42)
          obtain ⟨gb10, hgb10⟩ : ∃ g, W1.heap.size = g := ⟨_, rfl⟩
          obtain ⟨W6, hW6⟩ : ∃ W' : World, W1.alloc (.cells #[.int .i64 0, .slice none 0 0, .slice none 0 0, .slice none 0 0] 42) = W' := ⟨_, rfl⟩
          have lgb10 : w2.heap.size ≤ gb10 := by rw [← hgb10]; exact b21.size
          have bW6 := bW1.trans (bb.mono hB1)
          have b26 := Below.step b21 bb
          rw [hW6] at RW6 bW6 b26 bb
          have hB6 := bW6.size
          have hS6 : W6.cell? ⟨w.heap.size, 0, none⟩ = some (.int .i64 K) ∧ W6.cell? ra = some (.int .i64 v) := ⟨by rw [b26.cell hlow.1, ← b21.cell hlow.1]; exact hS1.1, by rw [b26.cell hlow.2, ← b21.cell hlow.2]; exact hS1.2⟩
          rw [hW6, hgb10]
          rw [hgb10] at n91
          replace hW6 := Lib.hid hW6
          replace hgb10 := Lib.hid hgb10
          refine hK.out _ _ hS6 fun _ => ?_
          clear hK KK bb RW1 oo
          refine wpAnyH_ready (rs := [11]) (by kernel_rfl) (by simp) (AllReadyH.cons rfl (fun KK hK => ?_) (AllReadyH.nil))
          · go_simp
            obtain ⟨f7, RW7, n90, oo⟩ := RW6.box4 (9, 0) hB6 42 (.int .i64 0) (.slice none 0 0) (.slice none 0 0) (.slice none 0 0)
            replace n02 := (oo (0, 2) (by decide)).trans n02
            replace n03 := (oo (0, 3) (by decide)).trans n03
            replace n10 := (oo (1, 0) (by decide)).trans n10
            replace n11 := (oo (1, 1) (by decide)).trans n11
            replace n20 := (oo (2, 0) (by decide)).trans n20
            replace n21 := (oo (2, 1) (by decide)).trans n21
            replace n30 := (oo (3, 0) (by decide)).trans n30
            replace n31 := (oo (3, 1) (by decide)).trans n31
            replace n91 := (oo (9, 1) (by decide)).trans n91
            have bb := belowAlloc W6 (.cells #[.int .i64 0, .slice none 0 0, .slice none 0 0, .slice none 0 0] 42)
            obtain ⟨gb9, hgb9⟩ : ∃ g, W6.heap.size = g := ⟨_, rfl⟩
            obtain ⟨W7, hW7⟩ : ∃ W' : World, W6.alloc (.cells #[.int .i64 0, .slice none 0 0, .slice none 0 0, .slice none 0 0] 42) = W' := ⟨_, rfl⟩
            have lgb9 : w2.heap.size ≤ gb9 := by rw [← hgb9]; exact b26.size
            have bW7 := bW6.trans (bb.mono hB6)
            have b27 := Below.step b26 bb
            rw [hW7] at RW7 bW7 b27 bb
            have hB7 := bW7.size
            have hS7 : W7.cell? ⟨w.heap.size, 0, none⟩ = some (.int .i64 K) ∧ W7.cell? ra = some (.int .i64 v) := ⟨by rw [b27.cell hlow.1, ← b26.cell hlow.1]; exact hS6.1, by rw [b27.cell hlow.2, ← b26.cell hlow.2]; exact hS6.2⟩
            rw [hW7, hgb9]
            rw [hgb9] at n90
            replace hW7 := Lib.hid hW7
            replace hgb9 := Lib.hid hgb9
            refine hK.out _ _ hS7 fun _ => ?_
            clear hK KK bb RW6 oo
            obtain ⟨t0, t1, t2, t3⟩ := RW7.cells4 n90
            have ft0 := RW7.frz4 n90 0
            have ft1 := RW7.frz4 n90 1
            have ft2 := RW7.frz4 n90 2
            have ft3 := RW7.frz4 n90 3
            have lt := (RW7.low4 n90)
            obtain ⟨f8, RW8, mm, oo⟩ := RW7.all4 n90 (.int .i64 0) (.slice aLa aLn aLc) (.slice aCa aCn aCc) (.slice aQa aQn aQc)
            replace n02 := (oo (0, 2) (by decide)).trans n02
            replace n03 := (oo (0, 3) (by decide)).trans n03
            replace n10 := (oo (1, 0) (by decide)).trans n10
            replace n11 := (oo (1, 1) (by decide)).trans n11
            replace n20 := (oo (2, 0) (by decide)).trans n20
            replace n21 := (oo (2, 1) (by decide)).trans n21
            replace n30 := (oo (3, 0) (by decide)).trans n30
            replace n31 := (oo (3, 1) (by decide)).trans n31
            replace n91 := (oo (9, 1) (by decide)).trans n91
            clear n90
            have n90 := mm
            have bW8 := Below.all4 (g := gb9) bW7 lt.1 (.int .i64 0) (.slice aLa aLn aLc) (.slice aCa aCn aCc) (.slice aQa aQn aQc)
            have b28 := Below.all4 (g := gb9) b27 lgb9 (.int .i64 0) (.slice aLa aLn aLc) (.slice aCa aCn aCc) (.slice aQa aQn aQc)
            obtain ⟨W8, hW8⟩ : ∃ W' : World, (((W7.setCell ⟨gb9, 0, none⟩ (.int .i64 0)).setCell ⟨gb9, 1, none⟩ (.slice aLa aLn aLc)).setCell ⟨gb9, 2, none⟩ (.slice aCa aCn aCc)).setCell ⟨gb9, 3, none⟩ (.slice aQa aQn aQc) = W' := ⟨_, rfl⟩
            rw [hW8] at RW8 bW8 b28
            have hS8 : W8.cell? ⟨w.heap.size, 0, none⟩ = some (.int .i64 K) ∧ W8.cell? ra = some (.int .i64 v) := ⟨by rw [b28.cell hlow.1, ← b27.cell hlow.1]; exact hS7.1, by rw [b28.cell hlow.2, ← b27.cell hlow.2]; exact hS7.2⟩
            replace hW8 := Lib.hid hW8
            refine wpAnyH_ready (rs := [13]) (by kernel_rfl) (by simp) (AllReadyH.cons rfl (fun KK hK => ?_) AllReadyH.nil)
            go_simp
            rw [hW8.out]
            refine hK.out _ _ hS8 fun _ => ?_
            clear hK KK t0 t1 t2 t3 ft0 ft1 ft2 ft3 mm oo lt RW7 hW8
            obtain ⟨t0, t1, t2, t3⟩ := RW8.cells4 n91
            have ft0 := RW8.frz4 n91 0
            have ft1 := RW8.frz4 n91 1
            have ft2 := RW8.frz4 n91 2
            have ft3 := RW8.frz4 n91 3
            have lt := (RW8.low4 n91)
            obtain ⟨f9, RW9, mm, oo⟩ := RW8.all4 n91 (.int .i64 0) (.slice bLa bLn bLc) (.slice bCa bCn bCc) (.slice bQa bQn bQc)
            replace n02 := (oo (0, 2) (by decide)).trans n02
            replace n03 := (oo (0, 3) (by decide)).trans n03
            replace n10 := (oo (1, 0) (by decide)).trans n10
            replace n11 := (oo (1, 1) (by decide)).trans n11
            replace n20 := (oo (2, 0) (by decide)).trans n20
            replace n21 := (oo (2, 1) (by decide)).trans n21
            replace n30 := (oo (3, 0) (by decide)).trans n30
            replace n31 := (oo (3, 1) (by decide)).trans n31
            replace n90 := (oo (9, 0) (by decide)).trans n90
            clear n91
            have n91 := mm
            have bW9 := Below.all4 (g := gb10) bW8 lt.1 (.int .i64 0) (.slice bLa bLn bLc) (.slice bCa bCn bCc) (.slice bQa bQn bQc)
            have b29 := Below.all4 (g := gb10) b28 lgb10 (.int .i64 0) (.slice bLa bLn bLc) (.slice bCa bCn bCc) (.slice bQa bQn bQc)
            obtain ⟨W9, hW9⟩ : ∃ W' : World, (((W8.setCell ⟨gb10, 0, none⟩ (.int .i64 0)).setCell ⟨gb10, 1, none⟩ (.slice bLa bLn bLc)).setCell ⟨gb10, 2, none⟩ (.slice bCa bCn bCc)).setCell ⟨gb10, 3, none⟩ (.slice bQa bQn bQc) = W' := ⟨_, rfl⟩
            rw [hW9] at RW9 bW9 b29
            have hS9 : W9.cell? ⟨w.heap.size, 0, none⟩ = some (.int .i64 K) ∧ W9.cell? ra = some (.int .i64 v) := ⟨by rw [b29.cell hlow.1, ← b28.cell hlow.1]; exact hS8.1, by rw [b29.cell hlow.2, ← b28.cell hlow.2]; exact hS8.2⟩
            replace hW9 := Lib.hid hW9
            refine wpAnyH_ready (rs := [14]) (by kernel_rfl) (by simp) (AllReadyH.cons rfl (fun KK hK => ?_) AllReadyH.nil)
            go_simp
            rw [hW9.out]
            refine hK.out _ _ hS9 fun _ => ?_
            clear hK KK t0 t1 t2 t3 ft0 ft1 ft2 ft3 mm oo lt RW8 hW9
            refine takeD (i := 15) (v := ?_) (some 7) rfl rfl (by kernel_rfl) (by kernel_rfl) (by kernel_rfl) (fun _ _ _ h => h) (Or.inl ⟨by rfl, ?_⟩) hS9 ?_
            rotate_left
            · rintro W' ⟨s0, s1⟩; go_simp; try with_reducible rfl
            simp only [Act.put, List.setIfInBounds_toArray, List.set_cons_zero, List.set_cons_succ]
            refine wpAnyH_done (by kernel_rfl) ?_ _
            refine NoPanic.normal ?_
            replace n02 := Lib.hid n02
            replace n03 := Lib.hid n03
            replace n90 := Lib.hid n90
            replace n91 := Lib.hid n91
            replace n10 := Lib.hid n10
            replace n11 := Lib.hid n11
            replace n20 := Lib.hid n20
            replace n21 := Lib.hid n21
            replace n30 := Lib.hid n30
            replace n31 := Lib.hid n31
            replace RW9 := Lib.hid RW9
            go_wp2
            go_meet
            case rel => exact ⟨rfl, gb9, gb10, L', C', Q', _, _, _, _, _, _, f9, rfl, rfl, bW9, hwi.out, RW9.out, n02.out, n03.out, n90.out, n91.out, n10.out, n11.out, n20.out, n21.out, n30.out, n31.out⟩
      · go_simp
        obtain ⟨f10, RW10, n90, oo⟩ := RW0.box4 (9, 0) hB0 42 (.int .i64 0) (.slice none 0 0) (.slice none 0 0) (.slice none 0 0)
        replace n02 := (oo (0, 2) (by decide)).trans n02
        replace n03 := (oo (0, 3) (by decide)).trans n03
        have bb := belowAlloc W0 (.cells #[.int .i64 0, .slice none 0 0, .slice none 0 0, .slice none 0 0] 42)
        obtain ⟨gb9, hgb9⟩ : ∃ g, W0.heap.size = g := ⟨_, rfl⟩
        obtain ⟨W10, hW10⟩ : ∃ W' : World, W0.alloc (.cells #[.int .i64 0, .slice none 0 0, .slice none 0 0, .slice none 0 0] 42) = W' := ⟨_, rfl⟩
        have lgb9 : w2.heap.size ≤ gb9 := by rw [← hgb9]; exact b20.size
        have bW10 := bW0.trans (bb.mono hB0)
        have b210 := Below.step b20 bb
        rw [hW10] at RW10 bW10 b210 bb
        have hB10 := bW10.size
        have hS10 : W10.cell? ⟨w.heap.size, 0, none⟩ = some (.int .i64 K) ∧ W10.cell? ra = some (.int .i64 v) := ⟨by rw [b210.cell hlow.1, ← b20.cell hlow.1]; exact hS0.1, by rw [b210.cell hlow.2, ← b20.cell hlow.2]; exact hS0.2⟩
        rw [hW10, hgb9]
        rw [hgb9] at n90
        replace hW10 := Lib.hid hW10
        replace hgb9 := Lib.hid hgb9
        refine hK.out _ _ hS10 fun _ => ?_
        clear hK KK bb RW0 oo
        refine wpAnyH_ready (rs := [6, 12]) (by kernel_rfl) (by simp) (AllReadyH.cons rfl (fun KK hK => ?_) (AllReadyH.cons rfl (fun KK hK => ?_) (AllReadyH.nil)))
        · go_simp
          refine (hwv.out W10 (hG2.out.below b210) (hL2.out.below b210)).mono ?_
          rintro e W11 ⟨x, y, z, rfl, bb, hz, L', C', Q', aL, aC, aQ, bL, bC, bQ, hwi, rfl, rfl, fw, Rw, k10, k11, k20, k21, k30, k31⟩
          subst hz
          obtain ⟨aLa, aLn, aLc, haL⟩ := (Rw.ownI k10).at.shape
          subst haL
          obtain ⟨bLa, bLn, bLc, hbL⟩ := (Rw.ownI k11).at.shape
          subst hbL
          obtain ⟨aCa, aCn, aCc, haC⟩ := (Rw.ownI k20).at.shape
          subst haC
          obtain ⟨bCa, bCn, bCc, hbC⟩ := (Rw.ownI k21).at.shape
          subst hbC
          obtain ⟨aQa, aQn, aQc, haQ⟩ := (Rw.ownI k30).at.shape
          subst haQ
          obtain ⟨bQa, bQn, bQc, hbQ⟩ := (Rw.ownI k31).at.shape
          subst hbQ
          obtain ⟨f11, RW11, sel, oth⟩ := RW10.merge (fun i => decide (i.1 = 1 ∨ i.1 = 2 ∨ i.1 = 3)) bb Rw hB10
          replace n02 := (oth (0, 2) (by decide)).trans n02
          replace n03 := (oth (0, 3) (by decide)).trans n03
          replace n90 := (oth (9, 0) (by decide)).trans n90
          have n10 := (sel (1, 0) (by decide)).trans k10
          have n11 := (sel (1, 1) (by decide)).trans k11
          have n20 := (sel (2, 0) (by decide)).trans k20
          have n21 := (sel (2, 1) (by decide)).trans k21
          have n30 := (sel (3, 0) (by decide)).trans k30
          have n31 := (sel (3, 1) (by decide)).trans k31
          replace hwi := Lib.hid hwi
          clear sel oth k10 k11 k20 k21 k30 k31 Rw
          have bW11 := bW10.trans (bb.mono hB10)
          have b211 := Below.step b210 bb
          have hB11 := bW11.size
          have hS11 : W11.cell? ⟨w.heap.size, 0, none⟩ = some (.int .i64 K) ∧ W11.cell? ra = some (.int .i64 v) := ⟨by rw [b211.cell hlow.1, ← b210.cell hlow.1]; exact hS10.1, by rw [b211.cell hlow.2, ← b210.cell hlow.2]; exact hS10.2⟩
          refine hK.out _ _ hS11 fun _ => ?_
          clear hK KK bb RW10
          refine takeD (i := 7) (v := ?_) (some 39) rfl rfl (by kernel_rfl) (by kernel_rfl) (by kernel_rfl) (fun _ _ _ h => h) (Or.inl ⟨by rfl, ?_⟩) hS11 ?_
          rotate_left
          · rintro W' ⟨s0, s1⟩; go_simp; try with_reducible rfl
          simp only [Act.put, List.setIfInBounds_toArray, List.set_cons_zero, List.set_cons_succ]
          refine takeD (i := 8) (v := ?_) (some 47) rfl rfl (by kernel_rfl) (by kernel_rfl) (by kernel_rfl) (fun _ _ _ h => h) (Or.inl ⟨by rfl, ?_⟩) hS11 ?_
          rotate_left
          · rintro W' ⟨s0, s1⟩; go_simp; try with_reducible rfl
          simp only [Act.put, List.setIfInBounds_toArray, List.set_cons_zero, List.set_cons_succ]
          refine takeD (i := 9) (v := ?_) (some 48) rfl rfl (by kernel_rfl) (by kernel_rfl) (by kernel_rfl) (fun _ _ _ h => h) (Or.inl ⟨by rfl, ?_⟩) hS11 ?_
          rotate_left
          · rintro W' ⟨s0, s1⟩; go_simp; try with_reducible rfl
          simp only [Act.put, List.setIfInBounds_toArray, List.set_cons_zero, List.set_cons_succ]
          refine takeD (i := 10) (v := ?_) (some 49) rfl rfl (by kernel_rfl) (by kernel_rfl) (by kernel_rfl) (fun _ _ _ h => h) (Or.inl ⟨by rfl, ?_⟩) hS11 ?_
          rotate_left
          · rintro W' ⟨s0, s1⟩; go_simp; try with_reducible rfl
          simp only [Act.put, List.setIfInBounds_toArray, List.set_cons_zero, List.set_cons_succ]
          refine wpAnyH_ready (rs := [12]) (by kernel_rfl) (by simp) (AllReadyH.cons rfl (fun KK hK => ?_) (AllReadyH.nil))
          · go_simp
            obtain ⟨f12, RW12, n91, oo⟩ := RW11.box4 (9, 1) hB11 42 (.int .i64 0) (.slice none 0 0) (.slice none 0 0) (.slice none 0 0)
            replace n02 := (oo (0, 2) (by decide)).trans n02
            replace n03 := (oo (0, 3) (by decide)).trans n03
            replace n90 := (oo (9, 0) (by decide)).trans n90
            replace n10 := (oo (1, 0) (by decide)).trans n10
            replace n11 := (oo (1, 1) (by decide)).trans n11
            replace n20 := (oo (2, 0) (by decide)).trans n20
            replace n21 := (oo (2, 1) (by decide)).trans n21
            replace n30 := (oo (3, 0) (by decide)).trans n30
            replace n31 := (oo (3, 1) (by decide)).trans n31
            have bb := belowAlloc W11 (.cells #[.int .i64 0, .slice none 0 0, .slice none 0 0, .slice none 0 0] 42)
            obtain ⟨gb10, hgb10⟩ : ∃ g, W11.heap.size = g := ⟨_, rfl⟩
            obtain ⟨W12, hW12⟩ : ∃ W' : World, W11.alloc (.cells #[.int .i64 0, .slice none 0 0, .slice none 0 0, .slice none 0 0] 42) = W' := ⟨_, rfl⟩
            have lgb10 : w2.heap.size ≤ gb10 := by rw [← hgb10]; exact b211.size
            have bW12 := bW11.trans (bb.mono hB11)
            have b212 := Below.step b211 bb
            rw [hW12] at RW12 bW12 b212 bb
            have hB12 := bW12.size
            have hS12 : W12.cell? ⟨w.heap.size, 0, none⟩ = some (.int .i64 K) ∧ W12.cell? ra = some (.int .i64 v) := ⟨by rw [b212.cell hlow.1, ← b211.cell hlow.1]; exact hS11.1, by rw [b212.cell hlow.2, ← b211.cell hlow.2]; exact hS11.2⟩
            rw [hW12, hgb10]
            rw [hgb10] at n91
            replace hW12 := Lib.hid hW12
            replace hgb10 := Lib.hid hgb10
            refine hK.out _ _ hS12 fun _ => ?_
            clear hK KK bb RW11 oo
            obtain ⟨t0, t1, t2, t3⟩ := RW12.cells4 n90
            have ft0 := RW12.frz4 n90 0
            have ft1 := RW12.frz4 n90 1
            have ft2 := RW12.frz4 n90 2
            have ft3 := RW12.frz4 n90 3
            have lt := (RW12.low4 n90)
            obtain ⟨f13, RW13, mm, oo⟩ := RW12.all4 n90 (.int .i64 0) (.slice aLa aLn aLc) (.slice aCa aCn aCc) (.slice aQa aQn aQc)
            replace n02 := (oo (0, 2) (by decide)).trans n02
            replace n03 := (oo (0, 3) (by decide)).trans n03
            replace n10 := (oo (1, 0) (by decide)).trans n10
            replace n11 := (oo (1, 1) (by decide)).trans n11
            replace n20 := (oo (2, 0) (by decide)).trans n20
            replace n21 := (oo (2, 1) (by decide)).trans n21
            replace n30 := (oo (3, 0) (by decide)).trans n30
            replace n31 := (oo (3, 1) (by decide)).trans n31
            replace n91 := (oo (9, 1) (by decide)).trans n91
            clear n90
            have n90 := mm
            have bW13 := Below.all4 (g := gb9) bW12 lt.1 (.int .i64 0) (.slice aLa aLn aLc) (.slice aCa aCn aCc) (.slice aQa aQn aQc)
            have b213 := Below.all4 (g := gb9) b212 lgb9 (.int .i64 0) (.slice aLa aLn aLc) (.slice aCa aCn aCc) (.slice aQa aQn aQc)
            obtain ⟨W13, hW13⟩ : ∃ W' : World, (((W12.setCell ⟨gb9, 0, none⟩ (.int .i64 0)).setCell ⟨gb9, 1, none⟩ (.slice aLa aLn aLc)).setCell ⟨gb9, 2, none⟩ (.slice aCa aCn aCc)).setCell ⟨gb9, 3, none⟩ (.slice aQa aQn aQc) = W' := ⟨_, rfl⟩
            rw [hW13] at RW13 bW13 b213
            have hS13 : W13.cell? ⟨w.heap.size, 0, none⟩ = some (.int .i64 K) ∧ W13.cell? ra = some (.int .i64 v) := ⟨by rw [b213.cell hlow.1, ← b212.cell hlow.1]; exact hS12.1, by rw [b213.cell hlow.2, ← b212.cell hlow.2]; exact hS12.2⟩
            replace hW13 := Lib.hid hW13
            refine wpAnyH_ready (rs := [13]) (by kernel_rfl) (by simp) (AllReadyH.cons rfl (fun KK hK => ?_) AllReadyH.nil)
            go_simp
            rw [hW13.out]
            refine hK.out _ _ hS13 fun _ => ?_
            clear hK KK t0 t1 t2 t3 ft0 ft1 ft2 ft3 mm oo lt RW12 hW13
            obtain ⟨t0, t1, t2, t3⟩ := RW13.cells4 n91
            have ft0 := RW13.frz4 n91 0
            have ft1 := RW13.frz4 n91 1
            have ft2 := RW13.frz4 n91 2
            have ft3 := RW13.frz4 n91 3
            have lt := (RW13.low4 n91)
            obtain ⟨f14, RW14, mm, oo⟩ := RW13.all4 n91 (.int .i64 0) (.slice bLa bLn bLc) (.slice bCa bCn bCc) (.slice bQa bQn bQc)
            replace n02 := (oo (0, 2) (by decide)).trans n02
            replace n03 := (oo (0, 3) (by decide)).trans n03
            replace n90 := (oo (9, 0) (by decide)).trans n90
            replace n10 := (oo (1, 0) (by decide)).trans n10
            replace n11 := (oo (1, 1) (by decide)).trans n11
            replace n20 := (oo (2, 0) (by decide)).trans n20
            replace n21 := (oo (2, 1) (by decide)).trans n21
            replace n30 := (oo (3, 0) (by decide)).trans n30
            replace n31 := (oo (3, 1) (by decide)).trans n31
            clear n91
            have n91 := mm
            have bW14 := Below.all4 (g := gb10) bW13 lt.1 (.int .i64 0) (.slice bLa bLn bLc) (.slice bCa bCn bCc) (.slice bQa bQn bQc)
            have b214 := Below.all4 (g := gb10) b213 lgb10 (.int .i64 0) (.slice bLa bLn bLc) (.slice bCa bCn bCc) (.slice bQa bQn bQc)
            obtain ⟨W14, hW14⟩ : ∃ W' : World, (((W13.setCell ⟨gb10, 0, none⟩ (.int .i64 0)).setCell ⟨gb10, 1, none⟩ (.slice bLa bLn bLc)).setCell ⟨gb10, 2, none⟩ (.slice bCa bCn bCc)).setCell ⟨gb10, 3, none⟩ (.slice bQa bQn bQc) = W' := ⟨_, rfl⟩
            rw [hW14] at RW14 bW14 b214
            have hS14 : W14.cell? ⟨w.heap.size, 0, none⟩ = some (.int .i64 K) ∧ W14.cell? ra = some (.int .i64 v) := ⟨by rw [b214.cell hlow.1, ← b213.cell hlow.1]; exact hS13.1, by rw [b214.cell hlow.2, ← b213.cell hlow.2]; exact hS13.2⟩
            replace hW14 := Lib.hid hW14
            refine wpAnyH_ready (rs := [14]) (by kernel_rfl) (by simp) (AllReadyH.cons rfl (fun KK hK => ?_) AllReadyH.nil)
            go_simp
            rw [hW14.out]
            refine hK.out _ _ hS14 fun _ => ?_
            clear hK KK t0 t1 t2 t3 ft0 ft1 ft2 ft3 mm oo lt RW13 hW14
            refine takeD (i := 15) (v := ?_) (some 7) rfl rfl (by kernel_rfl) (by kernel_rfl) (by kernel_rfl) (fun _ _ _ h => h) (Or.inl ⟨by rfl, ?_⟩) hS14 ?_
            rotate_left
            · rintro W' ⟨s0, s1⟩; go_simp; try with_reducible rfl
            simp only [Act.put, List.setIfInBounds_toArray, List.set_cons_zero, List.set_cons_succ]
            refine wpAnyH_done (by kernel_rfl) ?_ _
            refine NoPanic.normal ?_
            replace n02 := Lib.hid n02
            replace n03 := Lib.hid n03
            replace n90 := Lib.hid n90
            replace n91 := Lib.hid n91
            replace n10 := Lib.hid n10
            replace n11 := Lib.hid n11
            replace n20 := Lib.hid n20
            replace n21 := Lib.hid n21
            replace n30 := Lib.hid n30
            replace n31 := Lib.hid n31
            replace RW14 := Lib.hid RW14
            go_wp2
            go_meet
            case rel => exact ⟨rfl, gb9, gb10, L', C', Q', _, _, _, _, _, _, f14, rfl, rfl, bW14, hwi.out, RW14.out, n02.out, n03.out, n90.out, n91.out, n10.out, n11.out, n20.out, n21.out, n30.out, n31.out⟩
        · go_simp
          obtain ⟨f15, RW15, n91, oo⟩ := RW10.box4 (9, 1) hB10 42 (.int .i64 0) (.slice none 0 0) (.slice none 0 0) (.slice none 0 0)
          replace n02 := (oo (0, 2) (by decide)).trans n02
          replace n03 := (oo (0, 3) (by decide)).trans n03
          replace n90 := (oo (9, 0) (by decide)).trans n90
          have bb := belowAlloc W10 (.cells #[.int .i64 0, .slice none 0 0, .slice none 0 0, .slice none 0 0] 42)
          obtain ⟨gb10, hgb10⟩ : ∃ g, W10.heap.size = g := ⟨_, rfl⟩
          obtain ⟨W15, hW15⟩ : ∃ W' : World, W10.alloc (.cells #[.int .i64 0, .slice none 0 0, .slice none 0 0, .slice none 0 0] 42) = W' := ⟨_, rfl⟩
          have lgb10 : w2.heap.size ≤ gb10 := by rw [← hgb10]; exact b210.size
          have bW15 := bW10.trans (bb.mono hB10)
          have b215 := Below.step b210 bb
          rw [hW15] at RW15 bW15 b215 bb
          have hB15 := bW15.size
          have hS15 : W15.cell? ⟨w.heap.size, 0, none⟩ = some (.int .i64 K) ∧ W15.cell? ra = some (.int .i64 v) := ⟨by rw [b215.cell hlow.1, ← b210.cell hlow.1]; exact hS10.1, by rw [b215.cell hlow.2, ← b210.cell hlow.2]; exact hS10.2⟩
          rw [hW15, hgb10]
          rw [hgb10] at n91
          replace hW15 := Lib.hid hW15
          replace hgb10 := Lib.hid hgb10
          refine hK.out _ _ hS15 fun _ => ?_
          clear hK KK bb RW10 oo
          refine wpAnyH_ready (rs := [6]) (by kernel_rfl) (by simp) (AllReadyH.cons rfl (fun KK hK => ?_) (AllReadyH.nil))
          · go_simp
            refine (hwv.out W15 (hG2.out.below b215) (hL2.out.below b215)).mono ?_
            rintro e W16 ⟨x, y, z, rfl, bb, hz, L', C', Q', aL, aC, aQ, bL, bC, bQ, hwi, rfl, rfl, fw, Rw, k10, k11, k20, k21, k30, k31⟩
            subst hz
            obtain ⟨aLa, aLn, aLc, haL⟩ := (Rw.ownI k10).at.shape
            subst haL
            obtain ⟨bLa, bLn, bLc, hbL⟩ := (Rw.ownI k11).at.shape
            subst hbL
            obtain ⟨aCa, aCn, aCc, haC⟩ := (Rw.ownI k20).at.shape
            subst haC
            obtain ⟨bCa, bCn, bCc, hbC⟩ := (Rw.ownI k21).at.shape
            subst hbC
            obtain ⟨aQa, aQn, aQc, haQ⟩ := (Rw.ownI k30).at.shape
            subst haQ
            obtain ⟨bQa, bQn, bQc, hbQ⟩ := (Rw.ownI k31).at.shape
            subst hbQ
            obtain ⟨f16, RW16, sel, oth⟩ := RW15.merge (fun i => decide (i.1 = 1 ∨ i.1 = 2 ∨ i.1 = 3)) bb Rw hB15
            replace n02 := (oth (0, 2) (by decide)).trans n02
            replace n03 := (oth (0, 3) (by decide)).trans n03
            replace n90 := (oth (9, 0) (by decide)).trans n90
            replace n91 := (oth (9, 1) (by decide)).trans n91
            have n10 := (sel (1, 0) (by decide)).trans k10
            have n11 := (sel (1, 1) (by decide)).trans k11
            have n20 := (sel (2, 0) (by decide)).trans k20
            have n21 := (sel (2, 1) (by decide)).trans k21
            have n30 := (sel (3, 0) (by decide)).trans k30
            have n31 := (sel (3, 1) (by decide)).trans k31
            replace hwi := Lib.hid hwi
            clear sel oth k10 k11 k20 k21 k30 k31 Rw
            have bW16 := bW15.trans (bb.mono hB15)
            have b216 := Below.step b215 bb
            have hB16 := bW16.size
            have hS16 : W16.cell? ⟨w.heap.size, 0, none⟩ = some (.int .i64 K) ∧ W16.cell? ra = some (.int .i64 v) := ⟨by rw [b216.cell hlow.1, ← b215.cell hlow.1]; exact hS15.1, by rw [b216.cell hlow.2, ← b215.cell hlow.2]; exact hS15.2⟩
            refine hK.out _ _ hS16 fun _ => ?_
            clear hK KK bb RW15
            refine takeD (i := 7) (v := ?_) (some 39) rfl rfl (by kernel_rfl) (by kernel_rfl) (by kernel_rfl) (fun _ _ _ h => h) (Or.inl ⟨by rfl, ?_⟩) hS16 ?_
            rotate_left
            · rintro W' ⟨s0, s1⟩; go_simp; try with_reducible rfl
            simp only [Act.put, List.setIfInBounds_toArray, List.set_cons_zero, List.set_cons_succ]
            refine takeD (i := 8) (v := ?_) (some 47) rfl rfl (by kernel_rfl) (by kernel_rfl) (by kernel_rfl) (fun _ _ _ h => h) (Or.inl ⟨by rfl, ?_⟩) hS16 ?_
            rotate_left
            · rintro W' ⟨s0, s1⟩; go_simp; try with_reducible rfl
            simp only [Act.put, List.setIfInBounds_toArray, List.set_cons_zero, List.set_cons_succ]
            refine takeD (i := 9) (v := ?_) (some 48) rfl rfl (by kernel_rfl) (by kernel_rfl) (by kernel_rfl) (fun _ _ _ h => h) (Or.inl ⟨by rfl, ?_⟩) hS16 ?_
            rotate_left
            · rintro W' ⟨s0, s1⟩; go_simp; try with_reducible rfl
            simp only [Act.put, List.setIfInBounds_toArray, List.set_cons_zero, List.set_cons_succ]
            refine takeD (i := 10) (v := ?_) (some 49) rfl rfl (by kernel_rfl) (by kernel_rfl) (by kernel_rfl) (fun _ _ _ h => h) (Or.inl ⟨by rfl, ?_⟩) hS16 ?_
            rotate_left
            · rintro W' ⟨s0, s1⟩; go_simp; try with_reducible rfl
            simp only [Act.put, List.setIfInBounds_toArray, List.set_cons_zero, List.set_cons_succ]
            obtain ⟨t0, t1, t2, t3⟩ := RW16.cells4 n90
            have ft0 := RW16.frz4 n90 0
            have ft1 := RW16.frz4 n90 1
            have ft2 := RW16.frz4 n90 2
            have ft3 := RW16.frz4 n90 3
            have lt := (RW16.low4 n90)
            obtain ⟨f17, RW17, mm, oo⟩ := RW16.all4 n90 (.int .i64 0) (.slice aLa aLn aLc) (.slice aCa aCn aCc) (.slice aQa aQn aQc)
            replace n02 := (oo (0, 2) (by decide)).trans n02
            replace n03 := (oo (0, 3) (by decide)).trans n03
            replace n91 := (oo (9, 1) (by decide)).trans n91
            replace n10 := (oo (1, 0) (by decide)).trans n10
            replace n11 := (oo (1, 1) (by decide)).trans n11
            replace n20 := (oo (2, 0) (by decide)).trans n20
            replace n21 := (oo (2, 1) (by decide)).trans n21
            replace n30 := (oo (3, 0) (by decide)).trans n30
            replace n31 := (oo (3, 1) (by decide)).trans n31
            clear n90
            have n90 := mm
            have bW17 := Below.all4 (g := gb9) bW16 lt.1 (.int .i64 0) (.slice aLa aLn aLc) (.slice aCa aCn aCc) (.slice aQa aQn aQc)
            have b217 := Below.all4 (g := gb9) b216 lgb9 (.int .i64 0) (.slice aLa aLn aLc) (.slice aCa aCn aCc) (.slice aQa aQn aQc)
            obtain ⟨W17, hW17⟩ : ∃ W' : World, (((W16.setCell ⟨gb9, 0, none⟩ (.int .i64 0)).setCell ⟨gb9, 1, none⟩ (.slice aLa aLn aLc)).setCell ⟨gb9, 2, none⟩ (.slice aCa aCn aCc)).setCell ⟨gb9, 3, none⟩ (.slice aQa aQn aQc) = W' := ⟨_, rfl⟩
            rw [hW17] at RW17 bW17 b217
            have hS17 : W17.cell? ⟨w.heap.size, 0, none⟩ = some (.int .i64 K) ∧ W17.cell? ra = some (.int .i64 v) := ⟨by rw [b217.cell hlow.1, ← b216.cell hlow.1]; exact hS16.1, by rw [b217.cell hlow.2, ← b216.cell hlow.2]; exact hS16.2⟩
            replace hW17 := Lib.hid hW17
            refine wpAnyH_ready (rs := [13]) (by kernel_rfl) (by simp) (AllReadyH.cons rfl (fun KK hK => ?_) AllReadyH.nil)
            go_simp
            rw [hW17.out]
            refine hK.out _ _ hS17 fun _ => ?_
            clear hK KK t0 t1 t2 t3 ft0 ft1 ft2 ft3 mm oo lt RW16 hW17
            obtain ⟨t0, t1, t2, t3⟩ := RW17.cells4 n91
            have ft0 := RW17.frz4 n91 0
            have ft1 := RW17.frz4 n91 1
            have ft2 := RW17.frz4 n91 2
            have ft3 := RW17.frz4 n91 3
            have lt := (RW17.low4 n91)
            obtain ⟨f18, RW18, mm, oo⟩ := RW17.all4 n91 (.int .i64 0) (.slice bLa bLn bLc) (.slice bCa bCn bCc) (.slice bQa bQn bQc)
            replace n02 := (oo (0, 2) (by decide)).trans n02
            replace n03 := (oo (0, 3) (by decide)).trans n03
            replace n90 := (oo (9, 0) (by decide)).trans n90
            replace n10 := (oo (1, 0) (by decide)).trans n10
            replace n11 := (oo (1, 1) (by decide)).trans n11
            replace n20 := (oo (2, 0) (by decide)).trans n20
            replace n21 := (oo (2, 1) (by decide)).trans n21
            replace n30 := (oo (3, 0) (by decide)).trans n30
            replace n31 := (oo (3, 1) (by decide)).trans n31
            clear n91
            have n91 := mm
            have bW18 := Below.all4 (g := gb10) bW17 lt.1 (.int .i64 0) (.slice bLa bLn bLc) (.slice bCa bCn bCc) (.slice bQa bQn bQc)
            have b218 := Below.all4 (g := gb10) b217 lgb10 (.int .i64 0) (.slice bLa bLn bLc) (.slice bCa bCn bCc) (.slice bQa bQn bQc)
            obtain ⟨W18, hW18⟩ : ∃ W' : World, (((W17.setCell ⟨gb10, 0, none⟩ (.int .i64 0)).setCell ⟨gb10, 1, none⟩ (.slice bLa bLn bLc)).setCell ⟨gb10, 2, none⟩ (.slice bCa bCn bCc)).setCell ⟨gb10, 3, none⟩ (.slice bQa bQn bQc) = W' := ⟨_, rfl⟩
            rw [hW18] at RW18 bW18 b218
            have hS18 : W18.cell? ⟨w.heap.size, 0, none⟩ = some (.int .i64 K) ∧ W18.cell? ra = some (.int .i64 v) := ⟨by rw [b218.cell hlow.1, ← b217.cell hlow.1]; exact hS17.1, by rw [b218.cell hlow.2, ← b217.cell hlow.2]; exact hS17.2⟩
            replace hW18 := Lib.hid hW18
            refine wpAnyH_ready (rs := [14]) (by kernel_rfl) (by simp) (AllReadyH.cons rfl (fun KK hK => ?_) AllReadyH.nil)
            go_simp
            rw [hW18.out]
            refine hK.out _ _ hS18 fun _ => ?_
            clear hK KK t0 t1 t2 t3 ft0 ft1 ft2 ft3 mm oo lt RW17 hW18
            refine takeD (i := 15) (v := ?_) (some 7) rfl rfl (by kernel_rfl) (by kernel_rfl) (by kernel_rfl) (fun _ _ _ h => h) (Or.inl ⟨by rfl, ?_⟩) hS18 ?_
            rotate_left
            · rintro W' ⟨s0, s1⟩; go_simp; try with_reducible rfl
            simp only [Act.put, List.setIfInBounds_toArray, List.set_cons_zero, List.set_cons_succ]
            refine wpAnyH_done (by kernel_rfl) ?_ _
            refine NoPanic.normal ?_
            replace n02 := Lib.hid n02
            replace n03 := Lib.hid n03
            replace n90 := Lib.hid n90
            replace n91 := Lib.hid n91
            replace n10 := Lib.hid n10
            replace n11 := Lib.hid n11
            replace n20 := Lib.hid n20
            replace n21 := Lib.hid n21
            replace n30 := Lib.hid n30
            replace n31 := Lib.hid n31
            replace RW18 := Lib.hid RW18
            go_wp2
            go_meet
            case rel => exact ⟨rfl, gb9, gb10, L', C', Q', _, _, _, _, _, _, f18, rfl, rfl, bW18, hwi.out, RW18.out, n02.out, n03.out, n90.out, n91.out, n10.out, n11.out, n20.out, n21.out, n30.out, n31.out⟩
      · go_simp
        obtain ⟨f19, RW19, n91, oo⟩ := RW0.box4 (9, 1) hB0 42 (.int .i64 0) (.slice none 0 0) (.slice none 0 0) (.slice none 0 0)
        replace n02 := (oo (0, 2) (by decide)).trans n02
        replace n03 := (oo (0, 3) (by decide)).trans n03
        have bb := belowAlloc W0 (.cells #[.int .i64 0, .slice none 0 0, .slice none 0 0, .slice none 0 0] 42)
        obtain ⟨gb10, hgb10⟩ : ∃ g, W0.heap.size = g := ⟨_, rfl⟩
        obtain ⟨W19, hW19⟩ : ∃ W' : World, W0.alloc (.cells #[.int .i64 0, .slice none 0 0, .slice none 0 0, .slice none 0 0] 42) = W' := ⟨_, rfl⟩
        have lgb10 : w2.heap.size ≤ gb10 := by rw [← hgb10]; exact b20.size
        have bW19 := bW0.trans (bb.mono hB0)
        have b219 := Below.step b20 bb
        rw [hW19] at RW19 bW19 b219 bb
        have hB19 := bW19.size
        have hS19 : W19.cell? ⟨w.heap.size, 0, none⟩ = some (.int .i64 K) ∧ W19.cell? ra = some (.int .i64 v) := ⟨by rw [b219.cell hlow.1, ← b20.cell hlow.1]; exact hS0.1, by rw [b219.cell hlow.2, ← b20.cell hlow.2]; exact hS0.2⟩
        rw [hW19, hgb10]
        rw [hgb10] at n91
        replace hW19 := Lib.hid hW19
        replace hgb10 := Lib.hid hgb10
        refine hK.out _ _ hS19 fun _ => ?_
        clear hK KK bb RW0 oo
        refine wpAnyH_ready (rs := [6, 11]) (by kernel_rfl) (by simp) (AllReadyH.cons rfl (fun KK hK => ?_) (AllReadyH.cons rfl (fun KK hK => ?_) (AllReadyH.nil)))
        · go_simp
          refine (hwv.out W19 (hG2.out.below b219) (hL2.out.below b219)).mono ?_
          rintro e W20 ⟨x, y, z, rfl, bb, hz, L', C', Q', aL, aC, aQ, bL, bC, bQ, hwi, rfl, rfl, fw, Rw, k10, k11, k20, k21, k30, k31⟩
          subst hz
          obtain ⟨aLa, aLn, aLc, haL⟩ := (Rw.ownI k10).at.shape
          subst haL
          obtain ⟨bLa, bLn, bLc, hbL⟩ := (Rw.ownI k11).at.shape
          subst hbL
          obtain ⟨aCa, aCn, aCc, haC⟩ := (Rw.ownI k20).at.shape
          subst haC
          obtain ⟨bCa, bCn, bCc, hbC⟩ := (Rw.ownI k21).at.shape
          subst hbC
          obtain ⟨aQa, aQn, aQc, haQ⟩ := (Rw.ownI k30).at.shape
          subst haQ
          obtain ⟨bQa, bQn, bQc, hbQ⟩ := (Rw.ownI k31).at.shape
          subst hbQ
          obtain ⟨f20, RW20, sel, oth⟩ := RW19.merge (fun i => decide (i.1 = 1 ∨ i.1 = 2 ∨ i.1 = 3)) bb Rw hB19
          replace n02 := (oth (0, 2) (by decide)).trans n02
          replace n03 := (oth (0, 3) (by decide)).trans n03
          replace n91 := (oth (9, 1) (by decide)).trans n91
          have n10 := (sel (1, 0) (by decide)).trans k10
          have n11 := (sel (1, 1) (by decide)).trans k11
          have n20 := (sel (2, 0) (by decide)).trans k20
          have n21 := (sel (2, 1) (by decide)).trans k21
          have n30 := (sel (3, 0) (by decide)).trans k30
          have n31 := (sel (3, 1) (by decide)).trans k31
          replace hwi := Lib.hid hwi
          clear sel oth k10 k11 k20 k21 k30 k31 Rw
          have bW20 := bW19.trans (bb.mono hB19)
          have b220 := Below.step b219 bb
          have hB20 := bW20.size
          have hS20 : W20.cell? ⟨w.heap.size, 0, none⟩ = some (.int .i64 K) ∧ W20.cell? ra = some (.int .i64 v) := ⟨by rw [b220.cell hlow.1, ← b219.cell hlow.1]; exact hS19.1, by rw [b220.cell hlow.2, ← b219.cell hlow.2]; exact hS19.2⟩
          refine hK.out _ _ hS20 fun _ => ?_
          clear hK KK bb RW19
          refine takeD (i := 7) (v := ?_) (some 39) rfl rfl (by kernel_rfl) (by kernel_rfl) (by kernel_rfl) (fun _ _ _ h => h) (Or.inl ⟨by rfl, ?_⟩) hS20 ?_
          rotate_left
          · rintro W' ⟨s0, s1⟩; go_simp; try with_reducible rfl
          simp only [Act.put, List.setIfInBounds_toArray, List.set_cons_zero, List.set_cons_succ]
          refine takeD (i := 8) (v := ?_) (some 47) rfl rfl (by kernel_rfl) (by kernel_rfl) (by kernel_rfl) (fun _ _ _ h => h) (Or.inl ⟨by rfl, ?_⟩) hS20 ?_
          rotate_left
          · rintro W' ⟨s0, s1⟩; go_simp; try with_reducible rfl
          simp only [Act.put, List.setIfInBounds_toArray, List.set_cons_zero, List.set_cons_succ]
          refine takeD (i := 9) (v := ?_) (some 48) rfl rfl (by kernel_rfl) (by kernel_rfl) (by kernel_rfl) (fun _ _ _ h => h) (Or.inl ⟨by rfl, ?_⟩) hS20 ?_
          rotate_left
          · rintro W' ⟨s0, s1⟩; go_simp; try with_reducible rfl
          simp only [Act.put, List.setIfInBounds_toArray, List.set_cons_zero, List.set_cons_succ]
          refine takeD (i := 10) (v := ?_) (some 49) rfl rfl (by kernel_rfl) (by kernel_rfl) (by kernel_rfl) (fun _ _ _ h => h) (Or.inl ⟨by rfl, ?_⟩) hS20 ?_
          rotate_left
          · rintro W' ⟨s0, s1⟩; go_simp; try with_reducible rfl
          simp only [Act.put, List.setIfInBounds_toArray, List.set_cons_zero, List.set_cons_succ]
          refine wpAnyH_ready (rs := [11]) (by kernel_rfl) (by simp) (AllReadyH.cons rfl (fun KK hK => ?_) (AllReadyH.nil))
          · go_simp
            obtain ⟨f21, RW21, n90, oo⟩ := RW20.box4 (9, 0) hB20 42 (.int .i64 0) (.slice none 0 0) (.slice none 0 0) (.slice none 0 0)
            replace n02 := (oo (0, 2) (by decide)).trans n02
            replace n03 := (oo (0, 3) (by decide)).trans n03
            replace n91 := (oo (9, 1) (by decide)).trans n91
            replace n10 := (oo (1, 0) (by decide)).trans n10
            replace n11 := (oo (1, 1) (by decide)).trans n11
            replace n20 := (oo (2, 0) (by decide)).trans n20
            replace n21 := (oo (2, 1) (by decide)).trans n21
            replace n30 := (oo (3, 0) (by decide)).trans n30
            replace n31 := (oo (3, 1) (by decide)).trans n31
            have bb := belowAlloc W20 (.cells #[.int .i64 0, .slice none 0 0, .slice none 0 0, .slice none 0 0] 42)
            obtain ⟨gb9, hgb9⟩ : ∃ g, W20.heap.size = g := ⟨_, rfl⟩
            obtain ⟨W21, hW21⟩ : ∃ W' : World, W20.alloc (.cells #[.int .i64 0, .slice none 0 0, .slice none 0 0, .slice none 0 0] 42) = W' := ⟨_, rfl⟩
            have lgb9 : w2.heap.size ≤ gb9 := by rw [← hgb9]; exact b220.size
            have bW21 := bW20.trans (bb.mono hB20)
            have b221 := Below.step b220 bb
            rw [hW21] at RW21 bW21 b221 bb
            have hB21 := bW21.size
            have hS21 : W21.cell? ⟨w.heap.size, 0, none⟩ = some (.int .i64 K) ∧ W21.cell? ra = some (.int .i64 v) := ⟨by rw [b221.cell hlow.1, ← b220.cell hlow.1]; exact hS20.1, by rw [b221.cell hlow.2, ← b220.cell hlow.2]; exact hS20.2⟩
            rw [hW21, hgb9]
            rw [hgb9] at n90
            replace hW21 := Lib.hid hW21
            replace hgb9 := Lib.hid hgb9
            refine hK.out _ _ hS21 fun _ => ?_
            clear hK KK bb RW20 oo
            obtain ⟨t0, t1, t2, t3⟩ := RW21.cells4 n90
            have ft0 := RW21.frz4 n90 0
            have ft1 := RW21.frz4 n90 1
            have ft2 := RW21.frz4 n90 2
            have ft3 := RW21.frz4 n90 3
            have lt := (RW21.low4 n90)
            obtain ⟨f22, RW22, mm, oo⟩ := RW21.all4 n90 (.int .i64 0) (.slice aLa aLn aLc) (.slice aCa aCn aCc) (.slice aQa aQn aQc)
            replace n02 := (oo (0, 2) (by decide)).trans n02
            replace n03 := (oo (0, 3) (by decide)).trans n03
            replace n91 := (oo (9, 1) (by decide)).trans n91
            replace n10 := (oo (1, 0) (by decide)).trans n10
            replace n11 := (oo (1, 1) (by decide)).trans n11
            replace n20 := (oo (2, 0) (by decide)).trans n20
            replace n21 := (oo (2, 1) (by decide)).trans n21
            replace n30 := (oo (3, 0) (by decide)).trans n30
            replace n31 := (oo (3, 1) (by decide)).trans n31
            clear n90
            have n90 := mm
            have bW22 := Below.all4 (g := gb9) bW21 lt.1 (.int .i64 0) (.slice aLa aLn aLc) (.slice aCa aCn aCc) (.slice aQa aQn aQc)
            have b222 := Below.all4 (g := gb9) b221 lgb9 (.int .i64 0) (.slice aLa aLn aLc) (.slice aCa aCn aCc) (.slice aQa aQn aQc)
            obtain ⟨W22, hW22⟩ : ∃ W' : World, (((W21.setCell ⟨gb9, 0, none⟩ (.int .i64 0)).setCell ⟨gb9, 1, none⟩ (.slice aLa aLn aLc)).setCell ⟨gb9, 2, none⟩ (.slice aCa aCn aCc)).setCell ⟨gb9, 3, none⟩ (.slice aQa aQn aQc) = W' := ⟨_, rfl⟩
            rw [hW22] at RW22 bW22 b222
            have hS22 : W22.cell? ⟨w.heap.size, 0, none⟩ = some (.int .i64 K) ∧ W22.cell? ra = some (.int .i64 v) := ⟨by rw [b222.cell hlow.1, ← b221.cell hlow.1]; exact hS21.1, by rw [b222.cell hlow.2, ← b221.cell hlow.2]; exact hS21.2⟩
            replace hW22 := Lib.hid hW22
            refine wpAnyH_ready (rs := [13]) (by kernel_rfl) (by simp) (AllReadyH.cons rfl (fun KK hK => ?_) AllReadyH.nil)
            go_simp
            rw [hW22.out]
            refine hK.out _ _ hS22 fun _ => ?_
            clear hK KK t0 t1 t2 t3 ft0 ft1 ft2 ft3 mm oo lt RW21 hW22
            obtain ⟨t0, t1, t2, t3⟩ := RW22.cells4 n91
            have ft0 := RW22.frz4 n91 0
            have ft1 := RW22.frz4 n91 1
            have ft2 := RW22.frz4 n91 2
            have ft3 := RW22.frz4 n91 3
            have lt := (RW22.low4 n91)
            obtain ⟨f23, RW23, mm, oo⟩ := RW22.all4 n91 (.int .i64 0) (.slice bLa bLn bLc) (.slice bCa bCn bCc) (.slice bQa bQn bQc)
            replace n02 := (oo (0, 2) (by decide)).trans n02
            replace n03 := (oo (0, 3) (by decide)).trans n03
            replace n10 := (oo (1, 0) (by decide)).trans n10
            replace n11 := (oo (1, 1) (by decide)).trans n11
            replace n20 := (oo (2, 0) (by decide)).trans n20
            replace n21 := (oo (2, 1) (by decide)).trans n21
            replace n30 := (oo (3, 0) (by decide)).trans n30
            replace n31 := (oo (3, 1) (by decide)).trans n31
            replace n90 := (oo (9, 0) (by decide)).trans n90
            clear n91
            have n91 := mm
            have bW23 := Below.all4 (g := gb10) bW22 lt.1 (.int .i64 0) (.slice bLa bLn bLc) (.slice bCa bCn bCc) (.slice bQa bQn bQc)
            have b223 := Below.all4 (g := gb10) b222 lgb10 (.int .i64 0) (.slice bLa bLn bLc) (.slice bCa bCn bCc) (.slice bQa bQn bQc)
            obtain ⟨W23, hW23⟩ : ∃ W' : World, (((W22.setCell ⟨gb10, 0, none⟩ (.int .i64 0)).setCell ⟨gb10, 1, none⟩ (.slice bLa bLn bLc)).setCell ⟨gb10, 2, none⟩ (.slice bCa bCn bCc)).setCell ⟨gb10, 3, none⟩ (.slice bQa bQn bQc) = W' := ⟨_, rfl⟩
            rw [hW23] at RW23 bW23 b223
            have hS23 : W23.cell? ⟨w.heap.size, 0, none⟩ = some (.int .i64 K) ∧ W23.cell? ra = some (.int .i64 v) := ⟨by rw [b223.cell hlow.1, ← b222.cell hlow.1]; exact hS22.1, by rw [b223.cell hlow.2, ← b222.cell hlow.2]; exact hS22.2⟩
            replace hW23 := Lib.hid hW23
            refine wpAnyH_ready (rs := [14]) (by kernel_rfl) (by simp) (AllReadyH.cons rfl (fun KK hK => ?_) AllReadyH.nil)
            go_simp
            rw [hW23.out]
            refine hK.out _ _ hS23 fun _ => ?_
            clear hK KK t0 t1 t2 t3 ft0 ft1 ft2 ft3 mm oo lt RW22 hW23
            refine takeD (i := 15) (v := ?_) (some 7) rfl rfl (by kernel_rfl) (by kernel_rfl) (by kernel_rfl) (fun _ _ _ h => h) (Or.inl ⟨by rfl, ?_⟩) hS23 ?_
            rotate_left
            · rintro W' ⟨s0, s1⟩; go_simp; try with_reducible rfl
            simp only [Act.put, List.setIfInBounds_toArray, List.set_cons_zero, List.set_cons_succ]
            refine wpAnyH_done (by kernel_rfl) ?_ _
            refine NoPanic.normal ?_
            replace n02 := Lib.hid n02
            replace n03 := Lib.hid n03
            replace n90 := Lib.hid n90
            replace n91 := Lib.hid n91
            replace n10 := Lib.hid n10
            replace n11 := Lib.hid n11
            replace n20 := Lib.hid n20
            replace n21 := Lib.hid n21
            replace n30 := Lib.hid n30
            replace n31 := Lib.hid n31
            replace RW23 := Lib.hid RW23
            go_wp2
            go_meet
            case rel => exact ⟨rfl, gb9, gb10, L', C', Q', _, _, _, _, _, _, f23, rfl, rfl, bW23, hwi.out, RW23.out, n02.out, n03.out, n90.out, n91.out, n10.out, n11.out, n20.out, n21.out, n30.out, n31.out⟩
        · go_simp
          obtain ⟨f24, RW24, n90, oo⟩ := RW19.box4 (9, 0) hB19 42 (.int .i64 0) (.slice none 0 0) (.slice none 0 0) (.slice none 0 0)
          replace n02 := (oo (0, 2) (by decide)).trans n02
          replace n03 := (oo (0, 3) (by decide)).trans n03
          replace n91 := (oo (9, 1) (by decide)).trans n91
          have bb := belowAlloc W19 (.cells #[.int .i64 0, .slice none 0 0, .slice none 0 0, .slice none 0 0] 42)
          obtain ⟨gb9, hgb9⟩ : ∃ g, W19.heap.size = g := ⟨_, rfl⟩
          obtain ⟨W24, hW24⟩ : ∃ W' : World, W19.alloc (.cells #[.int .i64 0, .slice none 0 0, .slice none 0 0, .slice none 0 0] 42) = W' := ⟨_, rfl⟩
          have lgb9 : w2.heap.size ≤ gb9 := by rw [← hgb9]; exact b219.size
          have bW24 := bW19.trans (bb.mono hB19)
          have b224 := Below.step b219 bb
          rw [hW24] at RW24 bW24 b224 bb
          have hB24 := bW24.size
          have hS24 : W24.cell? ⟨w.heap.size, 0, none⟩ = some (.int .i64 K) ∧ W24.cell? ra = some (.int .i64 v) := ⟨by rw [b224.cell hlow.1, ← b219.cell hlow.1]; exact hS19.1, by rw [b224.cell hlow.2, ← b219.cell hlow.2]; exact hS19.2⟩
          rw [hW24, hgb9]
          rw [hgb9] at n90
          replace hW24 := Lib.hid hW24
          replace hgb9 := Lib.hid hgb9
          refine hK.out _ _ hS24 fun _ => ?_
          clear hK KK bb RW19 oo
          refine wpAnyH_ready (rs := [6]) (by kernel_rfl) (by simp) (AllReadyH.cons rfl (fun KK hK => ?_) (AllReadyH.nil))
          · go_simp
            refine (hwv.out W24 (hG2.out.below b224) (hL2.out.below b224)).mono ?_
            rintro e W25 ⟨x, y, z, rfl, bb, hz, L', C', Q', aL, aC, aQ, bL, bC, bQ, hwi, rfl, rfl, fw, Rw, k10, k11, k20, k21, k30, k31⟩
            subst hz
            obtain ⟨aLa, aLn, aLc, haL⟩ := (Rw.ownI k10).at.shape
            subst haL
            obtain ⟨bLa, bLn, bLc, hbL⟩ := (Rw.ownI k11).at.shape
            subst hbL
            obtain ⟨aCa, aCn, aCc, haC⟩ := (Rw.ownI k20).at.shape
            subst haC
            obtain ⟨bCa, bCn, bCc, hbC⟩ := (Rw.ownI k21).at.shape
            subst hbC
            obtain ⟨aQa, aQn, aQc, haQ⟩ := (Rw.ownI k30).at.shape
            subst haQ
            obtain ⟨bQa, bQn, bQc, hbQ⟩ := (Rw.ownI k31).at.shape
            subst hbQ
            obtain ⟨f25, RW25, sel, oth⟩ := RW24.merge (fun i => decide (i.1 = 1 ∨ i.1 = 2 ∨ i.1 = 3)) bb Rw hB24
            replace n02 := (oth (0, 2) (by decide)).trans n02
            replace n03 := (oth (0, 3) (by decide)).trans n03
            replace n91 := (oth (9, 1) (by decide)).trans n91
            replace n90 := (oth (9, 0) (by decide)).trans n90
            have n10 := (sel (1, 0) (by decide)).trans k10
            have n11 := (sel (1, 1) (by decide)).trans k11
            have n20 := (sel (2, 0) (by decide)).trans k20
            have n21 := (sel (2, 1) (by decide)).trans k21
            have n30 := (sel (3, 0) (by decide)).trans k30
            have n31 := (sel (3, 1) (by decide)).trans k31
            replace hwi := Lib.hid hwi
            clear sel oth k10 k11 k20 k21 k30 k31 Rw
            have bW25 := bW24.trans (bb.mono hB24)
            have b225 := Below.step b224 bb
            have hB25 := bW25.size
            have hS25 : W25.cell? ⟨w.heap.size, 0, none⟩ = some (.int .i64 K) ∧ W25.cell? ra = some (.int .i64 v) := ⟨by rw [b225.cell hlow.1, ← b224.cell hlow.1]; exact hS24.1, by rw [b225.cell hlow.2, ← b224.cell hlow.2]; exact hS24.2⟩
            refine hK.out _ _ hS25 fun _ => ?_
            clear hK KK bb RW24
            refine takeD (i := 7) (v := ?_) (some 39) rfl rfl (by kernel_rfl) (by kernel_rfl) (by kernel_rfl) (fun _ _ _ h => h) (Or.inl ⟨by rfl, ?_⟩) hS25 ?_
            rotate_left
            · rintro W' ⟨s0, s1⟩; go_simp; try with_reducible rfl
            simp only [Act.put, List.setIfInBounds_toArray, List.set_cons_zero, List.set_cons_succ]
            refine takeD (i := 8) (v := ?_) (some 47) rfl rfl (by kernel_rfl) (by kernel_rfl) (by kernel_rfl) (fun _ _ _ h => h) (Or.inl ⟨by rfl, ?_⟩) hS25 ?_
            rotate_left
            · rintro W' ⟨s0, s1⟩; go_simp; try with_reducible rfl
            simp only [Act.put, List.setIfInBounds_toArray, List.set_cons_zero, List.set_cons_succ]
            refine takeD (i := 9) (v := ?_) (some 48) rfl rfl (by kernel_rfl) (by kernel_rfl) (by kernel_rfl) (fun _ _ _ h => h) (Or.inl ⟨by rfl, ?_⟩) hS25 ?_
            rotate_left
            · rintro W' ⟨s0, s1⟩; go_simp; try with_reducible rfl
            simp only [Act.put, List.setIfInBounds_toArray, List.set_cons_zero, List.set_cons_succ]
            refine takeD (i := 10) (v := ?_) (some 49) rfl rfl (by kernel_rfl) (by kernel_rfl) (by kernel_rfl) (fun _ _ _ h => h) (Or.inl ⟨by rfl, ?_⟩) hS25 ?_
            rotate_left
            · rintro W' ⟨s0, s1⟩; go_simp; try with_reducible rfl
            simp only [Act.put, List.setIfInBounds_toArray, List.set_cons_zero, List.set_cons_succ]
            obtain ⟨t0, t1, t2, t3⟩ := RW25.cells4 n90
            have ft0 := RW25.frz4 n90 0
            have ft1 := RW25.frz4 n90 1
            have ft2 := RW25.frz4 n90 2
            have ft3 := RW25.frz4 n90 3
            have lt := (RW25.low4 n90)
            obtain ⟨f26, RW26, mm, oo⟩ := RW25.all4 n90 (.int .i64 0) (.slice aLa aLn aLc) (.slice aCa aCn aCc) (.slice aQa aQn aQc)
            replace n02 := (oo (0, 2) (by decide)).trans n02
            replace n03 := (oo (0, 3) (by decide)).trans n03
            replace n91 := (oo (9, 1) (by decide)).trans n91
            replace n10 := (oo (1, 0) (by decide)).trans n10
            replace n11 := (oo (1, 1) (by decide)).trans n11
            replace n20 := (oo (2, 0) (by decide)).trans n20
            replace n21 := (oo (2, 1) (by decide)).trans n21
            replace n30 := (oo (3, 0) (by decide)).trans n30
            replace n31 := (oo (3, 1) (by decide)).trans n31
            clear n90
            have n90 := mm
            have bW26 := Below.all4 (g := gb9) bW25 lt.1 (.int .i64 0) (.slice aLa aLn aLc) (.slice aCa aCn aCc) (.slice aQa aQn aQc)
            have b226 := Below.all4 (g := gb9) b225 lgb9 (.int .i64 0) (.slice aLa aLn aLc) (.slice aCa aCn aCc) (.slice aQa aQn aQc)
            obtain ⟨W26, hW26⟩ : ∃ W' : World, (((W25.setCell ⟨gb9, 0, none⟩ (.int .i64 0)).setCell ⟨gb9, 1, none⟩ (.slice aLa aLn aLc)).setCell ⟨gb9, 2, none⟩ (.slice aCa aCn aCc)).setCell ⟨gb9, 3, none⟩ (.slice aQa aQn aQc) = W' := ⟨_, rfl⟩
            rw [hW26] at RW26 bW26 b226
            have hS26 : W26.cell? ⟨w.heap.size, 0, none⟩ = some (.int .i64 K) ∧ W26.cell? ra = some (.int .i64 v) := ⟨by rw [b226.cell hlow.1, ← b225.cell hlow.1]; exact hS25.1, by rw [b226.cell hlow.2, ← b225.cell hlow.2]; exact hS25.2⟩
            replace hW26 := Lib.hid hW26
            refine wpAnyH_ready (rs := [13]) (by kernel_rfl) (by simp) (AllReadyH.cons rfl (fun KK hK => ?_) AllReadyH.nil)
            go_simp
            rw [hW26.out]
            refine hK.out _ _ hS26 fun _ => ?_
            clear hK KK t0 t1 t2 t3 ft0 ft1 ft2 ft3 mm oo lt RW25 hW26
            obtain ⟨t0, t1, t2, t3⟩ := RW26.cells4 n91
            have ft0 := RW26.frz4 n91 0
            have ft1 := RW26.frz4 n91 1
            have ft2 := RW26.frz4 n91 2
            have ft3 := RW26.frz4 n91 3
            have lt := (RW26.low4 n91)
            obtain ⟨f27, RW27, mm, oo⟩ := RW26.all4 n91 (.int .i64 0) (.slice bLa bLn bLc) (.slice bCa bCn bCc) (.slice bQa bQn bQc)
            replace n02 := (oo (0, 2) (by decide)).trans n02
            replace n03 := (oo (0, 3) (by decide)).trans n03
            replace n90 := (oo (9, 0) (by decide)).trans n90
            replace n10 := (oo (1, 0) (by decide)).trans n10
            replace n11 := (oo (1, 1) (by decide)).trans n11
            replace n20 := (oo (2, 0) (by decide)).trans n20
            replace n21 := (oo (2, 1) (by decide)).trans n21
            replace n30 := (oo (3, 0) (by decide)).trans n30
            replace n31 := (oo (3, 1) (by decide)).trans n31
            clear n91
            have n91 := mm
            have bW27 := Below.all4 (g := gb10) bW26 lt.1 (.int .i64 0) (.slice bLa bLn bLc) (.slice bCa bCn bCc) (.slice bQa bQn bQc)
            have b227 := Below.all4 (g := gb10) b226 lgb10 (.int .i64 0) (.slice bLa bLn bLc) (.slice bCa bCn bCc) (.slice bQa bQn bQc)
            obtain ⟨W27, hW27⟩ : ∃ W' : World, (((W26.setCell ⟨gb10, 0, none⟩ (.int .i64 0)).setCell ⟨gb10, 1, none⟩ (.slice bLa bLn bLc)).setCell ⟨gb10, 2, none⟩ (.slice bCa bCn bCc)).setCell ⟨gb10, 3, none⟩ (.slice bQa bQn bQc) = W' := ⟨_, rfl⟩
            rw [hW27] at RW27 bW27 b227
            have hS27 : W27.cell? ⟨w.heap.size, 0, none⟩ = some (.int .i64 K) ∧ W27.cell? ra = some (.int .i64 v) := ⟨by rw [b227.cell hlow.1, ← b226.cell hlow.1]; exact hS26.1, by rw [b227.cell hlow.2, ← b226.cell hlow.2]; exact hS26.2⟩
            replace hW27 := Lib.hid hW27
            refine wpAnyH_ready (rs := [14]) (by kernel_rfl) (by simp) (AllReadyH.cons rfl (fun KK hK => ?_) AllReadyH.nil)
            go_simp
            rw [hW27.out]
            refine hK.out _ _ hS27 fun _ => ?_
            clear hK KK t0 t1 t2 t3 ft0 ft1 ft2 ft3 mm oo lt RW26 hW27
            refine takeD (i := 15) (v := ?_) (some 7) rfl rfl (by kernel_rfl) (by kernel_rfl) (by kernel_rfl) (fun _ _ _ h => h) (Or.inl ⟨by rfl, ?_⟩) hS27 ?_
            rotate_left
            · rintro W' ⟨s0, s1⟩; go_simp; try with_reducible rfl
            simp only [Act.put, List.setIfInBounds_toArray, List.set_cons_zero, List.set_cons_succ]
            refine wpAnyH_done (by kernel_rfl) ?_ _
            refine NoPanic.normal ?_
            replace n02 := Lib.hid n02
            replace n03 := Lib.hid n03
            replace n90 := Lib.hid n90
            replace n91 := Lib.hid n91
            replace n10 := Lib.hid n10
            replace n11 := Lib.hid n11
            replace n20 := Lib.hid n20
            replace n21 := Lib.hid n21
            replace n30 := Lib.hid n30
            replace n31 := Lib.hid n31
            replace RW27 := Lib.hid RW27
            go_wp2
            go_meet
            case rel => exact ⟨rfl, gb9, gb10, L', C', Q', _, _, _, _, _, _, f27, rfl, rfl, bW27, hwi.out, RW27.out, n02.out, n03.out, n90.out, n91.out, n10.out, n11.out, n20.out, n21.out, n30.out, n31.out⟩
    case rest =>
      obtain ⟨rfl, g9, g10, L', C', Q', aL, aC, aQ, bL, bC, bQ, f9, rfl, rfl, bc, hwi, Rc, n02, n03, n90, n91, n10, n11, n20, n21, n30, n31⟩ := hcut
      obtain ⟨aLa, aLn, aLc, haL⟩ := (Rc.ownI n10).at.shape
      subst haL
      obtain ⟨bLa, bLn, bLc, hbL⟩ := (Rc.ownI n11).at.shape
      subst hbL
      obtain ⟨aCa, aCn, aCc, haC⟩ := (Rc.ownI n20).at.shape
      subst haC
      obtain ⟨bCa, bCn, bCc, hbC⟩ := (Rc.ownI n21).at.shape
      subst hbC
      obtain ⟨aQa, aQn, aQc, haQ⟩ := (Rc.ownI n30).at.shape
      subst haQ
      obtain ⟨bQa, bQn, bQc, hbQ⟩ := (Rc.ownI n31).at.shape
      subst hbQ
      have honeR := honeL.out v m L' C' Q' hod.out hwi
      clear hwi
      replace honeR := Lib.hid honeR
      obtain ⟨V, hVd⟩ : ∃ V : World, wc.drew = V := ⟨_, rfl⟩
      have RV : Rows w.heap.size V f9 := by rw [← hVd]; exact Rc.drew
      have bV : Below w.heap.size w V := by rw [← hVd]; exact bc.drew
      replace hVd := Lib.hid hVd
      clear Rc bc
      have hS : V.cell? ⟨g9, 0, none⟩ = some (.int .i64 0) ∧ V.cell? ⟨g9, 1, none⟩ = some (.slice aLa aLn aLc) ∧ V.cell? ⟨g9, 2, none⟩ = some (.slice aCa aCn aCc) ∧ V.cell? ⟨g9, 3, none⟩ = some (.slice aQa aQn aQc) ∧ V.cell? ⟨g10, 0, none⟩ = some (.int .i64 0) ∧ V.cell? ⟨g10, 1, none⟩ = some (.slice bLa bLn bLc) ∧ V.cell? ⟨g10, 2, none⟩ = some (.slice bCa bCn bCc) ∧ V.cell? ⟨g10, 3, none⟩ = some (.slice bQa bQn bQc) := by
        obtain ⟨a0, a1, a2, a3⟩ := RV.cells4 n90
        obtain ⟨d0, d1, d2, d3⟩ := RV.cells4 n91
        exact ⟨a0, a1, a2, a3, d0, d1, d2, d3⟩
      obtain ⟨g0, g1, g2, g3⟩ := RV.cells4 n02
      have fg0 := RV.frz4 n02 0
      have fg1 := RV.frz4 n02 1
      have fg2 := RV.frz4 n02 2
      have fg3 := RV.frz4 n02 3
      have lg0 := (RV.low4 n02).1
      obtain ⟨f15, R15, m02, o15⟩ := RV.all4 n02 (.int .i64 0) (.slice aLa aLn aLc) (.slice aCa aCn aCc) (.slice aQa aQn aQc)
      replace n03 := (o15 (0, 3) (by decide)).trans n03
      replace n90 := (o15 (9, 0) (by decide)).trans n90
      replace n91 := (o15 (9, 1) (by decide)).trans n91
      replace n10 := (o15 (1, 0) (by decide)).trans n10
      replace n11 := (o15 (1, 1) (by decide)).trans n11
      replace n20 := (o15 (2, 0) (by decide)).trans n20
      replace n21 := (o15 (2, 1) (by decide)).trans n21
      replace n30 := (o15 (3, 0) (by decide)).trans n30
      replace n31 := (o15 (3, 1) (by decide)).trans n31
      have b15 := Below.all4 (g := w.heap.size + 1) bV lg0 (.int .i64 0) (.slice aLa aLn aLc) (.slice aCa aCn aCc) (.slice aQa aQn aQc)
      obtain ⟨V15, hV15⟩ : ∃ V' : World, (((V.setCell ⟨w.heap.size + 1, 0, none⟩ (.int .i64 0)).setCell ⟨w.heap.size + 1, 1, none⟩ (.slice aLa aLn aLc)).setCell ⟨w.heap.size + 1, 2, none⟩ (.slice aCa aCn aCc)).setCell ⟨w.heap.size + 1, 3, none⟩ (.slice aQa aQn aQc) = V' := ⟨_, rfl⟩
      rw [hV15] at R15 b15
      have hS15 : V15.cell? ⟨g9, 0, none⟩ = some (.int .i64 0) ∧ V15.cell? ⟨g9, 1, none⟩ = some (.slice aLa aLn aLc) ∧ V15.cell? ⟨g9, 2, none⟩ = some (.slice aCa aCn aCc) ∧ V15.cell? ⟨g9, 3, none⟩ = some (.slice aQa aQn aQc) ∧ V15.cell? ⟨g10, 0, none⟩ = some (.int .i64 0) ∧ V15.cell? ⟨g10, 1, none⟩ = some (.slice bLa bLn bLc) ∧ V15.cell? ⟨g10, 2, none⟩ = some (.slice bCa bCn bCc) ∧ V15.cell? ⟨g10, 3, none⟩ = some (.slice bQa bQn bQc) := by
        obtain ⟨a0, a1, a2, a3⟩ := R15.cells4 n90
        obtain ⟨d0, d1, d2, d3⟩ := R15.cells4 n91
        exact ⟨a0, a1, a2, a3, d0, d1, d2, d3⟩
      replace hV15 := Lib.hid hV15
      clear n02 o15 RV bV lg0
      have n02 := m02
      clear m02
      go_upto_region 8 with fail
      refine wp_region_plan (fun w' => w'.cell? ⟨g9, 0, none⟩ = some (.int .i64 0) ∧ w'.cell? ⟨g9, 1, none⟩ = some (.slice aLa aLn aLc) ∧ w'.cell? ⟨g9, 2, none⟩ = some (.slice aCa aCn aCc) ∧ w'.cell? ⟨g9, 3, none⟩ = some (.slice aQa aQn aQc) ∧ w'.cell? ⟨g10, 0, none⟩ = some (.int .i64 0) ∧ w'.cell? ⟨g10, 1, none⟩ = some (.slice bLa bLn bLc) ∧ w'.cell? ⟨g10, 2, none⟩ = some (.slice bCa bCn bCc) ∧ w'.cell? ⟨g10, 3, none⟩ = some (.slice bQa bQn bQc)) 6 [(0, true), (1, true), (2, true), (3, true), (4, false), (5, false)] (by kernel_rfl) (by kernel_rfl) ?_
      rw [hVd.out]
      refine headY (v := ?_) (some 50) rfl rfl (Or.inl ⟨by rfl, ?_⟩) hS ?_
      rotate_left
      · rintro W' ⟨s0, s1, s2, s3, s4, s5, s6, s7⟩; go_simp; try with_reducible rfl
      simp only [Act.put, List.setIfInBounds_toArray, List.set_cons_zero, List.set_cons_succ]
      refine headY (v := ?_) (some 51) rfl rfl (Or.inl ⟨by rfl, ?_⟩) hS ?_
      rotate_left
      · rintro W' ⟨s0, s1, s2, s3, s4, s5, s6, s7⟩; go_simp; try with_reducible rfl
      simp only [Act.put, List.setIfInBounds_toArray, List.set_cons_zero, List.set_cons_succ]
      refine headY (v := ?_) (some 52) rfl rfl (Or.inl ⟨by rfl, ?_⟩) hS ?_
      rotate_left
      · rintro W' ⟨s0, s1, s2, s3, s4, s5, s6, s7⟩; go_simp; try with_reducible rfl
      simp only [Act.put, List.setIfInBounds_toArray, List.set_cons_zero, List.set_cons_succ]
      refine headY (v := ?_) (some 2) rfl rfl (Or.inl ⟨by rfl, ?_⟩) hS ?_
      rotate_left
      · rintro W' ⟨s0, s1, s2, s3, s4, s5, s6, s7⟩; go_simp; try with_reducible rfl
      simp only [Act.put, List.setIfInBounds_toArray, List.set_cons_zero, List.set_cons_succ]
      refine headC rfl (fun KK hK => ?_)
      go_simp
      rw [hV15.out]
      refine hK _ _ hS15 ?_
      clear hK KK hS g0 g1 g2 g3 fg0 fg1 fg2 fg3
      obtain ⟨h0, h1, h2, h3⟩ := R15.cells4 n03
      have fh0 := R15.frz4 n03 0
      have fh1 := R15.frz4 n03 1
      have fh2 := R15.frz4 n03 2
      have fh3 := R15.frz4 n03 3
      have lh0 := (R15.low4 n03).1
      obtain ⟨f16, R16, m03, o16⟩ := R15.all4 n03 (.int .i64 0) (.slice bLa bLn bLc) (.slice bCa bCn bCc) (.slice bQa bQn bQc)
      replace n02 := (o16 (0, 2) (by decide)).trans n02
      replace n90 := (o16 (9, 0) (by decide)).trans n90
      replace n91 := (o16 (9, 1) (by decide)).trans n91
      replace n10 := (o16 (1, 0) (by decide)).trans n10
      replace n11 := (o16 (1, 1) (by decide)).trans n11
      replace n20 := (o16 (2, 0) (by decide)).trans n20
      replace n21 := (o16 (2, 1) (by decide)).trans n21
      replace n30 := (o16 (3, 0) (by decide)).trans n30
      replace n31 := (o16 (3, 1) (by decide)).trans n31
      have b16 := Below.all4 (g := w.heap.size + 2) b15 lh0 (.int .i64 0) (.slice bLa bLn bLc) (.slice bCa bCn bCc) (.slice bQa bQn bQc)
      obtain ⟨V16, hV16⟩ : ∃ V' : World, (((V15.setCell ⟨w.heap.size + 2, 0, none⟩ (.int .i64 0)).setCell ⟨w.heap.size + 2, 1, none⟩ (.slice bLa bLn bLc)).setCell ⟨w.heap.size + 2, 2, none⟩ (.slice bCa bCn bCc)).setCell ⟨w.heap.size + 2, 3, none⟩ (.slice bQa bQn bQc) = V' := ⟨_, rfl⟩
      rw [hV16] at R16 b16
      have hS16 : V16.cell? ⟨g9, 0, none⟩ = some (.int .i64 0) ∧ V16.cell? ⟨g9, 1, none⟩ = some (.slice aLa aLn aLc) ∧ V16.cell? ⟨g9, 2, none⟩ = some (.slice aCa aCn aCc) ∧ V16.cell? ⟨g9, 3, none⟩ = some (.slice aQa aQn aQc) ∧ V16.cell? ⟨g10, 0, none⟩ = some (.int .i64 0) ∧ V16.cell? ⟨g10, 1, none⟩ = some (.slice bLa bLn bLc) ∧ V16.cell? ⟨g10, 2, none⟩ = some (.slice bCa bCn bCc) ∧ V16.cell? ⟨g10, 3, none⟩ = some (.slice bQa bQn bQc) := by
        obtain ⟨a0, a1, a2, a3⟩ := R16.cells4 n90
        obtain ⟨d0, d1, d2, d3⟩ := R16.cells4 n91
        exact ⟨a0, a1, a2, a3, d0, d1, d2, d3⟩
      replace hV16 := Lib.hid hV16
      clear n03 o16 R15 b15 lh0
      have n03 := m03
      clear m03
      refine headC rfl (fun KK hK => ?_)
      go_simp
      rw [hV16.out]
      refine hK _ _ hS16 ?_
      clear hK KK hS15 h0 h1 h2 h3 fh0 fh1 fh2 fh3
      refine head0 ?_
      simp only [List.drop_succ_cons, List.drop_zero]
      clear hS16
      obtain ⟨g0, g1, g2, g3⟩ := R16.cells4 n02
      obtain ⟨h0, h1, h2, h3⟩ := R16.cells4 n03
      replace n02 := Lib.hid n02
      replace n03 := Lib.hid n03
      replace n90 := Lib.hid n90
      replace n91 := Lib.hid n91
      replace n10 := Lib.hid n10
      replace n11 := Lib.hid n11
      replace n20 := Lib.hid n20
      replace n21 := Lib.hid n21
      replace n30 := Lib.hid n30
      replace n31 := Lib.hid n31
      replace R16 := Lib.hid R16
      go_wp2
      refine NoPanic.normal ?_
      go_wp2
      (try simp only [Exit.inBlock, Exit.then])
      refine bodyPost_ret (v := .tuple #[.bool false, .agg #[.int .i64 0, .slice aLa aLn aLc, .slice aCa aCn aCc, .slice aQa aQn aQc], .agg #[.int .i64 0, .slice bLa bLn bLc, .slice bCa bCn bCc, .slice bQa bQn bQc], .nilIface]) (by simp [results, Tryz.results18, go_sem, g0, g1, g2, g3, h0, h1, h2, h3]) rfl ?_
      exact ⟨_, _, _, _, rfl, b16, rfl, .inr ⟨rfl, hno.out, L', C', Q', _, _, _, _, _, _, honeR.out, rfl, rfl, f16, R16.out, n10.out, n11.out, n20.out, n21.out, n30.out, n31.out⟩⟩

theorem WitIs.pos {G : List (List Int)} {v : Nat} {L C Q : List Nat} (h : WitIs G v L C Q) : 1 ≤ L.length ∧ 1 ≤ Q.length := by
  obtain ⟨c, d, u1, u2, I, O, _, _, hc, _, h3, _, _, _, rfl, rfl, rfl⟩ := h
  refine ⟨?_, by simp⟩
  have he := h3.way.ends
  obtain ⟨w', hw⟩ := h3.way.ne
  cases hd : u1.dropLast with
  | nil =>
    rw [hd, hw] at he
    simp at he
    omega
  | cons x l => simp
theorem OneIs.pos {K R : Nat} {T : List Int} {L C Q : List Nat} (h : OneIs K R T L C Q) : 1 ≤ L.length ∧ 1 ≤ Q.length := by
  obtain ⟨_, _, _, _, _, h3⟩ := h
  exact h3.pos
/-- The answer, and the two rows' shape. -/
theorem OnePost.ans {w w' : World} {K R : Nat} {T : List Int} {yes x y e : Value} (h : OnePost w K R T yes x y e w') : e = .nilIface ∧ ∃ Y, yes = .bool Y ∧ (Y = true ↔ ¬ NotOne K R T) ∧
    ∃ a1 n1 c1 a2 n2 c2 a3 n3 c3 a4 n4 c4 a5 n5 c5 a6 n6 c6, x = .agg #[.int .i64 0, .slice a1 n1 c1, .slice a2 n2 c2, .slice a3 n3 c3] ∧ y = .agg #[.int .i64 0, .slice a4 n4 c4, .slice a5 n5 c5, .slice a6 n6 c6] := by
  obtain ⟨rfl, ⟨rfl, rfl, rfl, hn⟩ | ⟨rfl, hn, L, C, Q, aL, aC, aQ, bL, bC, bQ, _, rfl, rfl, f, hr, h1, h2, h3, h4, h5, h6⟩⟩ := h
  · exact ⟨rfl, true, rfl, ⟨fun _ => hn, fun _ => rfl⟩, _, _, _, _, _, _, _, _, _, _, _, _, _, _, _, _, _, _, rfl, rfl⟩
  · obtain ⟨_, _, _, rfl⟩ := (hr.ownI h1).at.shape
    obtain ⟨_, _, _, rfl⟩ := (hr.ownI h2).at.shape
    obtain ⟨_, _, _, rfl⟩ := (hr.ownI h3).at.shape
    obtain ⟨_, _, _, rfl⟩ := (hr.ownI h4).at.shape
    obtain ⟨_, _, _, rfl⟩ := (hr.ownI h5).at.shape
    obtain ⟨_, _, _, rfl⟩ := (hr.ownI h6).at.shape
    exact ⟨rfl, false, rfl, ⟨fun h => (by cases h), fun h => absurd hn h⟩, _, _, _, _, _, _, _, _, _, _, _, _, _, _, _, _, _, _, rfl, rfl⟩
end Go.Proofs.YtilpckngghffoaaGreatDoor

namespace Go.Proofs.YtilpckngghffoaaGreatDoor
open Go.RowKit
set_option maxRecDepth 100000

set_option maxHeartbeats 4000000 in
theorem ref_witness (p : Int) (K R : Nat) (va : Option Addr) (vn vc : Nat) (T : List Int) (la : Option Addr) (ln lc : Nat) (ca : Option Addr) (cn cc : Nat) (qa : Option Addr) (qn qc : Nat) (L C Q : List Int) (la' : Option Addr) (ln' lc' : Nat) (ca' : Option Addr) (cn' cc' : Nat) (qa' : Option Addr) (qn' qc' : Nat) (L' C' Q' : List Int) (w : World) (h : IntsAt w (.slice va vn vc) T) (hr : RuleOk K R T) (hL : IntsAt w (.slice la ln lc) L) (hC : IntsAt w (.slice ca cn cc) C) (hQ : IntsAt w (.slice qa qn qc) Q) (hL' : IntsAt w (.slice la' ln' lc') L') (hC' : IntsAt w (.slice ca' cn' cc') C') (hQ' : IntsAt w (.slice qa' qn' qc') Q') (hlL : L'.length = L.length) (hlC : C'.length = C.length) (hlQ : Q'.length = Q.length) (hro : RowOk K p L C Q) (hro' : RowOk K p L' C' Q')
    (hne : ∃ i : Int, p - 2 * L.length - 2 * L.length ≤ i ∧ i < p + C.length + 2 * Q.length + 2 * Q.length ∧ cellP p L C Q i ≠ cellP p L' C' Q' i) (himg : ∀ (f : Int) (n : Nat), imgP K R T (pieceP p L' C' Q' f n) = imgP K R T (pieceP p L C Q f n)) :
    Calls Tryz.prog 32 #[.agg #[.int .i64 K, .int .i64 R, .slice va vn vc], .agg #[.int .i64 p, .slice la ln lc, .slice ca cn cc, .slice qa qn qc], .agg #[.int .i64 p, .slice la' ln' lc', .slice ca' cn' cc', .slice qa' qn' qc']] w (Ret1 (fun x _ => x = .bool true) w) := by
  have b0 := Below.step (Below.step (belowAlloc w (.cells #[.int .i64 K, .int .i64 R, .slice va vn vc] 24)) (belowAlloc _ (.cells #[.int .i64 p, .slice la ln lc, .slice ca cn cc, .slice qa qn qc] 42))) (belowAlloc _ (.cells #[.int .i64 p, .slice la' ln' lc', .slice ca' cn' cc', .slice qa' qn' qc'] 42))
  have q : Box3 (((w.alloc (.cells #[.int .i64 K, .int .i64 R, .slice va vn vc] 24)).alloc (.cells #[.int .i64 p, .slice la ln lc, .slice ca cn cc, .slice qa qn qc] 42)).alloc (.cells #[.int .i64 p, .slice la' ln' lc', .slice ca' cn' cc', .slice qa' qn' qc'] 42)) w.heap.size (.int .i64 K) (.int .i64 R) (.slice va vn vc) := by simp [Box3, go_sem]
  have y : Cells4 (((w.alloc (.cells #[.int .i64 K, .int .i64 R, .slice va vn vc] 24)).alloc (.cells #[.int .i64 p, .slice la ln lc, .slice ca cn cc, .slice qa qn qc] 42)).alloc (.cells #[.int .i64 p, .slice la' ln' lc', .slice ca' cn' cc', .slice qa' qn' qc'] 42)) (w.heap.size + 1) (.int .i64 p) (.slice la ln lc) (.slice ca cn cc) (.slice qa qn qc) := by
    refine ⟨?_, ?_, ?_, ?_⟩ <;> simp [go_sem]
  have z : Cells4 (((w.alloc (.cells #[.int .i64 K, .int .i64 R, .slice va vn vc] 24)).alloc (.cells #[.int .i64 p, .slice la ln lc, .slice ca cn cc, .slice qa qn qc] 42)).alloc (.cells #[.int .i64 p, .slice la' ln' lc', .slice ca' cn' cc', .slice qa' qn' qc'] 42)) (w.heap.size + 2) (.int .i64 p) (.slice la' ln' lc') (.slice ca' cn' cc') (.slice qa' qn' qc') := by
    refine ⟨?_, ?_, ?_, ?_⟩ <;> simp [go_sem]
  obtain ⟨w0, hw0⟩ : ∃ W : World, (((w.alloc (.cells #[.int .i64 K, .int .i64 R, .slice va vn vc] 24)).alloc (.cells #[.int .i64 p, .slice la ln lc, .slice ca cn cc, .slice qa qn qc] 42)).alloc (.cells #[.int .i64 p, .slice la' ln' lc', .slice ca' cn' cc', .slice qa' qn' qc'] 42)) = W := ⟨_, rfl⟩
  rw [hw0] at b0 y q z
  replace h := h.below b0
  replace hL := hL.below b0
  replace hC := hC.below b0
  replace hQ := hQ.below b0
  replace hL' := hL'.below b0
  replace hC' := hC'.below b0
  replace hQ' := hQ'.below b0
  have hR3 := hr.r3
  have g1 := hro.l1
  have g2 := hro.q1
  have g3 := hro.l2
  have g4 := hro.q2
  have g5 := hro.c2
  have g6 := hro.p1
  have g7 := hro.p2
  have keep : ∀ W' : World, Below w0.heap.size w0 W' → W'.cell? ⟨w.heap.size, 0, none⟩ = some (.int .i64 K) ∧ W'.cell? ⟨w.heap.size, 1, none⟩ = some (.int .i64 R) ∧ W'.cell? ⟨w.heap.size, 2, none⟩ = some (.slice va vn vc) ∧ W'.cell? ⟨w.heap.size + 1, 0, none⟩ = some (.int .i64 p) ∧ W'.cell? ⟨w.heap.size + 1, 1, none⟩ = some (.slice la ln lc) ∧ W'.cell? ⟨w.heap.size + 1, 2, none⟩ = some (.slice ca cn cc) ∧ W'.cell? ⟨w.heap.size + 1, 3, none⟩ = some (.slice qa qn qc) ∧ W'.cell? ⟨w.heap.size + 2, 0, none⟩ = some (.int .i64 p) ∧ W'.cell? ⟨w.heap.size + 2, 1, none⟩ = some (.slice la' ln' lc') ∧ W'.cell? ⟨w.heap.size + 2, 2, none⟩ = some (.slice ca' cn' cc') ∧ W'.cell? ⟨w.heap.size + 2, 3, none⟩ = some (.slice qa' qn' qc') := fun W' hb => ⟨(q.below hb).1.1, (q.below hb).1.2.1, (q.below hb).1.2.2, (y.below hb).c0, (y.below hb).c1, (y.below hb).c2, (y.below hb).c3, (z.below hb).c0, (z.below hb).c1, (z.below hb).c2, (z.below hb).c3⟩
  have chkA := fun (w' : World) (hb : Below w0.heap.size w0 w') => ref_rcheck p K la ln lc ca cn cc qa qn qc L C Q w' (hL.below hb) (hC.below hb) (hQ.below hb) hro
  have chkB := fun (w' : World) (hb : Below w0.heap.size w0 w') => ref_rcheck p K la' ln' lc' ca' cn' cc' qa' qn' qc' L' C' Q' w' (hL'.below hb) (hC'.below hb) (hQ'.below hb) hro'
  have eqc := fun (w' : World) (hb : Below w0.heap.size w0 w') => ref_equal p la ln lc ca cn cc qa qn qc L C Q la' ln' lc' ca' cn' cc' qa' qn' qc' L' C' Q' w' (hL.below hb) (hC.below hb) (hQ.below hb) (hL'.below hb) (hC'.below hb) (hQ'.below hb) hlL hlC hlQ g1 g2 (by omega) (by omega) (by omega) (by omega)
  have imA := fun (w' : World) (hb : Below w0.heap.size w0 w') => ref_rimage p K R va vn vc T la ln lc ca cn cc qa qn qc L C Q w' (h.below hb) hr (hL.below hb) (hC.below hb) (hQ.below hb) g1 g2 (by omega) (by omega) (by omega) (by omega) hro.sL hro.sC hro.sQ (by omega) (by omega) (by omega) (by omega)
  have imB := fun (w' : World) (hb : Below w0.heap.size w0 w') => ref_rimage p K R va vn vc T la' ln' lc' ca' cn' cc' qa' qn' qc' L' C' Q' w' (h.below hb) hr (hL'.below hb) (hC'.below hb) (hQ'.below hb) (by omega) (by omega) (by omega) (by omega) (by omega) (by omega) hro'.sL hro'.sC hro'.sQ (by omega) (by omega) (by omega) (by omega)
  simp only [himg, hlL, hlC, hlQ] at imB
  have m1 : (imgP K R T (pieceP p L C Q (p - R - L.length - R) (L.length + 2 * R))).length = L.length := by rw [imgP_length, pieceP_len]; omega
  have m2 : (imgP K R T (pieceP p L C Q (p - R - R) (C.length + 2 * R + 2 * R))).length = C.length + 2 * R := by rw [imgP_length, pieceP_len]; omega
  have m3 : (imgP K R T (pieceP p L C Q (p - R + (C.length + 2 * R) - R) (Q.length + 2 * R))).length = Q.length := by rw [imgP_length, pieceP_len]; omega
  obtain ⟨A1, hA1⟩ : ∃ z, imgP K R T (pieceP p L C Q (p - R - L.length - R) (L.length + 2 * R)) = z := ⟨_, rfl⟩
  obtain ⟨A2, hA2⟩ : ∃ z, imgP K R T (pieceP p L C Q (p - R - R) (C.length + 2 * R + 2 * R)) = z := ⟨_, rfl⟩
  obtain ⟨A3, hA3⟩ : ∃ z, imgP K R T (pieceP p L C Q (p - R + (C.length + 2 * R) - R) (Q.length + 2 * R)) = z := ⟨_, rfl⟩
  simp only [hA1, hA2, hA3] at imA imB
  rw [hA1] at m1
  rw [hA2] at m2
  rw [hA3] at m3
  obtain ⟨t, ht⟩ : ∃ t, p - (R : Int) = t := ⟨_, rfl⟩
  rw [ht] at imA imB
  replace ht := Lib.hid ht
  replace hA1 := Lib.hid hA1
  replace hA2 := Lib.hid hA2
  replace hA3 := Lib.hid hA3
  replace himg := Lib.hid himg
  replace hne := Lib.hid hne
  replace h := Lib.hid h
  replace hr := Lib.hid hr
  replace hro := Lib.hid hro
  replace hro' := Lib.hid hro'
  replace hL := Lib.hid hL
  replace hC := Lib.hid hC
  replace hQ := Lib.hid hQ
  replace hL' := Lib.hid hL'
  replace hC' := Lib.hid hC'
  replace hQ' := Lib.hid hQ'
  replace hlL := Lib.hid hlL
  replace hlC := Lib.hid hlC
  replace hlQ := Lib.hid hlQ
  replace hw0 := Lib.hid hw0
  replace keep := Lib.hid keep
  replace chkA := Lib.hid chkA
  replace chkB := Lib.hid chkB
  replace eqc := Lib.hid eqc
  replace imA := Lib.hid imA
  replace imB := Lib.hid imB
  have p9 : -4096 ≤ t + 3 ∧ t ≤ 4096 := by have := ht.out; omega
  have kk := keep.out w0 (Below.refl _ _)
  obtain ⟨z0, z1, z2, y0, y1, y2, y3, x0, x1, x2, x3⟩ := kk
  clear q y z
  go_enter Tryz.func32, Tryz.ntmps32
  go_upto_region 1 with fail
  rw [hw0.out]
  go_wp2_with fail
  refine (chkA.out w0 (Below.refl w0.heap.size w0)).mono ?_
  rintro e w1 ⟨_, rfl, b1, rfl⟩
  have c1 := Below.step (Below.refl w0.heap.size w0) b1
  clear z0 z1 z2 y0 y1 y2 y3 x0 x1 x2 x3
  obtain ⟨z0, z1, z2, y0, y1, y2, y3, x0, x1, x2, x3⟩ := keep.out w1 c1
  go_wp2_with fail
  refine (err_bad _ _ _ _ _ _ _ w1).mono ?_
  rintro e w2 ⟨_, rfl, b2, rfl⟩
  rw [show ((0 : Int) != 0) = false from rfl]
  have c2 := Below.step c1 b2
  clear z0 z1 z2 y0 y1 y2 y3 x0 x1 x2 x3
  obtain ⟨z0, z1, z2, y0, y1, y2, y3, x0, x1, x2, x3⟩ := keep.out w2 c2
  go_wp2_with fail
  refine (chkB.out w2 c2).mono ?_
  rintro e w3 ⟨_, rfl, b3, rfl⟩
  have c3 := Below.step c2 b3
  clear z0 z1 z2 y0 y1 y2 y3 x0 x1 x2 x3
  obtain ⟨z0, z1, z2, y0, y1, y2, y3, x0, x1, x2, x3⟩ := keep.out w3 c3
  go_wp2_with fail
  refine (err_bad _ _ _ _ _ _ _ w3).mono ?_
  rintro e w4 ⟨_, rfl, b4, rfl⟩
  rw [show ((0 : Int) != 0) = false from rfl]
  have c4 := Below.step c3 b4
  clear z0 z1 z2 y0 y1 y2 y3 x0 x1 x2 x3
  obtain ⟨z0, z1, z2, y0, y1, y2, y3, x0, x1, x2, x3⟩ := keep.out w4 c4
  go_wp2_with fail
  refine (eqc.out w4 c4).mono ?_
  rintro e w5 ⟨_, rfl, b5, bq, rfl, hbq⟩
  obtain rfl : bq = false := by
    cases bq with
    | false => rfl
    | true =>
      obtain ⟨i, i1, i2, i3⟩ := hne.out
      exact absurd (hbq.1 rfl i i1 i2) i3
  clear hbq
  have c5 := Below.step c4 b5
  clear z0 z1 z2 y0 y1 y2 y3 x0 x1 x2 x3
  obtain ⟨z0, z1, z2, y0, y1, y2, y3, x0, x1, x2, x3⟩ := keep.out w5 c5
  obtain ⟨W, hW⟩ : ∃ W : World, w5.drew = W := ⟨_, rfl⟩
  have bW : Below w0.heap.size w0 W := by rw [← hW]; exact c5.drew
  have hS := keep.out W bW
  replace hW := Lib.hid hW
  clear z0 z1 z2 y0 y1 y2 y3 x0 x1 x2 x3
  go_upto_region 3 with fail
  refine wp_region_plan (fun w' => w'.cell? ⟨w.heap.size, 0, none⟩ = some (.int .i64 K) ∧ w'.cell? ⟨w.heap.size, 1, none⟩ = some (.int .i64 R) ∧ w'.cell? ⟨w.heap.size, 2, none⟩ = some (.slice va vn vc) ∧ w'.cell? ⟨w.heap.size + 1, 0, none⟩ = some (.int .i64 p) ∧ w'.cell? ⟨w.heap.size + 1, 1, none⟩ = some (.slice la ln lc) ∧ w'.cell? ⟨w.heap.size + 1, 2, none⟩ = some (.slice ca cn cc) ∧ w'.cell? ⟨w.heap.size + 1, 3, none⟩ = some (.slice qa qn qc) ∧ w'.cell? ⟨w.heap.size + 2, 0, none⟩ = some (.int .i64 p) ∧ w'.cell? ⟨w.heap.size + 2, 1, none⟩ = some (.slice la' ln' lc') ∧ w'.cell? ⟨w.heap.size + 2, 2, none⟩ = some (.slice ca' cn' cc') ∧ w'.cell? ⟨w.heap.size + 2, 3, none⟩ = some (.slice qa' qn' qc')) 7 [(0, true), (1, true), (3, true), (4, true), (2, false), (5, false), (6, false)] (by kernel_rfl) (by kernel_rfl) ?_
  rw [hW.out]
  refine headY (v := ?_) (some 24) rfl rfl (Or.inl ⟨by rfl, ?_⟩) hS ?_
  rotate_left
  · rintro W' ⟨s0, s1, s2, s3, s4, s5, s6, s7, s8, s9, s10⟩; go_simp; try with_reducible rfl
  simp only [Act.put, List.setIfInBounds_toArray, List.set_cons_zero, List.set_cons_succ]
  refine headY (v := ?_) (some 25) rfl rfl (Or.inl ⟨by rfl, ?_⟩) hS ?_
  rotate_left
  · rintro W' ⟨s0, s1, s2, s3, s4, s5, s6, s7, s8, s9, s10⟩; go_simp; try with_reducible rfl
  simp only [Act.put, List.setIfInBounds_toArray, List.set_cons_zero, List.set_cons_succ]
  refine headY (v := ?_) (some 27) rfl rfl (Or.inl ⟨by rfl, ?_⟩) hS ?_
  rotate_left
  · rintro W' ⟨s0, s1, s2, s3, s4, s5, s6, s7, s8, s9, s10⟩; go_simp; try with_reducible rfl
  simp only [Act.put, List.setIfInBounds_toArray, List.set_cons_zero, List.set_cons_succ]
  refine headY (v := ?_) (some 28) rfl rfl (Or.inl ⟨by rfl, ?_⟩) hS ?_
  rotate_left
  · rintro W' ⟨s0, s1, s2, s3, s4, s5, s6, s7, s8, s9, s10⟩; go_simp; try with_reducible rfl
  simp only [Act.put, List.setIfInBounds_toArray, List.set_cons_zero, List.set_cons_succ]
  refine headC rfl (fun KK hK => ?_)
  go_simp
  refine (imA.out W bW).mono ?_
  rintro e w6 ⟨_, rfl, b6, l1, l2, l3, k1, k2, k3, q1, q2, q3, rfl, i1, i2, i3⟩
  have c6 := Below.step bW b6
  have hS6 := keep.out w6 c6
  replace i1 := Lib.hid i1
  replace i2 := Lib.hid i2
  replace i3 := Lib.hid i3
  refine hK _ _ hS6 ?_
  clear hK KK hS
  refine headC rfl (fun KK hK => ?_)
  go_simp
  refine (imB.out w6 c6).mono ?_
  rintro e w7 ⟨_, rfl, b7, l4, l5, l6, k4, k5, k6, q4, q5, q6, rfl, i4, i5, i6⟩
  have c7 := Below.step c6 b7
  have hS7 := keep.out w7 c7
  refine hK _ _ hS7 ?_
  clear hK KK hS6
  refine headC rfl (fun KK hK => ?_)
  go_simp
  refine (ref_equal t l1 l2 l3 k1 k2 k3 q1 q2 q3 A1 A2 A3 l4 l5 l6 k4 k5 k6 q4 q5 q6 A1 A2 A3 w7 (i1.out.below b7) (i2.out.below b7) (i3.out.below b7) i4 i5 i6 rfl rfl rfl (by omega) (by omega) (by omega) (by omega) (by omega) (by omega)).mono ?_
  rintro e w8 ⟨_, rfl, b8, bq, rfl, hbq⟩
  obtain rfl : bq = true := hbq.2 (fun _ _ _ => rfl)
  have c8 := Below.step c7 b8
  have hS8 := keep.out w8 c8
  clear hbq
  refine hK _ _ hS8 ?_
  clear hK KK hS7
  refine head0 ?_
  simp only [List.drop_succ_cons, List.drop_zero]
  clear hS8
  have bE := Below.step b0 c8
  replace i4 := Lib.hid i4
  replace i5 := Lib.hid i5
  replace i6 := Lib.hid i6
  go_wp2
  refine NoPanic.normal ?_
  go_wp2
  go_ret
  exact ⟨_, rfl, bE, rfl⟩

/-- What edenref14.One leaves. -/
def ROne (B : Nat) (k R : Int) (T : List Int) (x y : Value) (w' : World) : Prop :=
  match pgE k R T with
  | none => y = .agg #[.int .i64 0, .slice none 0 0, .slice none 0 0] ∧ ∃ xs, pgA k R T xs ∧ x = .bool (decide (xs = []))
  | some t => x = .bool false ∧ EOwn B w' (under sInject 0 (some t)) y

set_option maxHeartbeats 4000000 in
theorem ref14_one (k R : Int) (va : Option Addr) (vn vc : Nat) (T : List Int) (w : World) (h : IntsAt w (.slice va vn vc) T) :
    Calls Tryz.prog 30 #[.agg #[.int .i64 k, .int .i64 R, .slice va vn vc]] w (Ret2 (ROne w.heap.size k R T) w) := by
  have bA := Below.step (belowAlloc w (.cells #[.int .i64 k, .int .i64 R, .slice va vn vc] 24)) (belowAlloc _ (.cells #[.int .i64 0, .slice none 0 0, .slice none 0 0] 33))
  have qA : Box3 ((w.alloc (.cells #[.int .i64 k, .int .i64 R, .slice va vn vc] 24)).alloc (.cells #[.int .i64 0, .slice none 0 0, .slice none 0 0] 33)) w.heap.size (.int .i64 k) (.int .i64 R) (.slice va vn vc) := by simp [Box3, go_sem]
  have q4 : Box3 ((w.alloc (.cells #[.int .i64 k, .int .i64 R, .slice va vn vc] 24)).alloc (.cells #[.int .i64 0, .slice none 0 0, .slice none 0 0] 33)) (w.heap.size + 1) (.int .i64 0) (.slice none 0 0) (.slice none 0 0) := by simp [Box3, go_sem]
  have s0 : ((w.alloc (.cells #[.int .i64 k, .int .i64 R, .slice va vn vc] 24)).alloc (.cells #[.int .i64 0, .slice none 0 0, .slice none 0 0] 33)).heap.size = w.heap.size + 2 := by simp
  obtain ⟨WA, hWA⟩ : ∃ W : World, ((w.alloc (.cells #[.int .i64 k, .int .i64 R, .slice va vn vc] 24)).alloc (.cells #[.int .i64 0, .slice none 0 0, .slice none 0 0] 33)) = W := ⟨_, rfl⟩
  replace h := h.below bA
  rw [hWA] at h bA qA q4 s0
  unfold ROne
  have hf := pgE_fine k R T
  have hap := rapart_any k R va vn vc T WA h
  replace h := Lib.hid h
  replace s0 := Lib.hid s0
  replace hWA := Lib.hid hWA
  replace hap := Lib.hid hap
  obtain ⟨⟨z0, z1, z2⟩, -, -, -⟩ := qA
  cases hc : pgE k R T with
  | some t =>
    obtain ⟨n, l⟩ := t
    rw [hc] at hf hap
    have hl : 1 ≤ l.length := by
      unfold pgE at hc
      cases hs : smallP k R T with
      | none => rw [hs] at hc; cases hc
      | some q => rw [hs] at hc; obtain ⟨a, b⟩ := q; cases hc; simp
    replace hc := Lib.hid hc
    go_enter Tryz.func30, Tryz.ntmps30
    go_upto_region 1 with fail
    rw [hWA.out]
    go_wp2_with fail
    refine hap.out.mono ?_
    rintro e w1 ⟨lv, x, rfl, b1, ⟨xs, -, hxs⟩, he⟩
    obtain ⟨lva, lvn, lvc, rfl⟩ := hxs.shape
    have he' := he
    obtain ⟨a1, n1, c1, a2, n2, c2, rfl, _, _⟩ := he'
    obtain ⟨be, q6⟩ := err_box8 w1 (.int .i64 n) (.slice a1 n1 c1) (.slice a2 n2 c2)
    have c1e := Below.step b1 be
    have hn0 : (n != 0) = true := by rw [bne_iff_ne]; have := hf.1; omega
    have heb := he.below be
    obtain ⟨W2, hW2⟩ : ∃ W2 : World, w1.alloc (.cells #[.int .i64 n, .slice a1 n1 c1, .slice a2 n2 c2] 33) = W2 := ⟨_, rfl⟩
    rw [hW2] at be c1e heb q6
    replace hW2 := Lib.hid hW2
    replace he := Lib.hid he
    replace heb := Lib.hid heb
    replace hxs := Lib.hid hxs
    clear z0 z1 z2
    have q60 := q6
    obtain ⟨⟨y0, y1, y2⟩, -, -, -⟩ := q60
    go_upto_region 2 with fail
    rw [hW2.out]
    go_wp2_with fail
    refine (err_bad _ _ _ _ _ _ _ W2).mono ?_
    rintro e w3 ⟨_, rfl, b3, rfl⟩
    rw [hn0]
    have hey := heb.out.below b3
    have c3 := Below.step c1e b3
    clear y0 y1 y2
    obtain ⟨⟨y0, y1, y2⟩, -, -, -⟩ := q6.below b3
    replace hey := Lib.hid hey
    go_wp2_with fail
    refine (raw_under sInject 0 (some (n, l)) _ w3 hey.out.at (fun n' l' e => by cases e; exact ⟨hf.1, hl, hf.2.2⟩)).mono ?_
    rintro e w4 ⟨z, rfl, b4, hz⟩
    have c4 := Below.step c3 b4
    have hz' := hz
    obtain ⟨d1, m1, k1, d2, m2, k2, rfl, _, _⟩ := hz'
    obtain ⟨⟨g0, g1, g2⟩, f0, f1, f2⟩ := q4.below c4
    have sW := c3.size
    rw [s0.out] at sW
    have hz9 := (hz.set3 (b := w.heap.size + 1) (by omega) (.int .i64 n) (.slice d1 m1 k1) (.slice d2 m2 k2)).mono (B' := w.heap.size) (by omega)
    replace hz := Lib.hid hz
    replace hz9 := Lib.hid hz9
    clear y0 y1 y2
    go_wp2
    (try simp only [Exit.inBlock, Exit.then])
    exact bodyPost_ret (v := .tuple #[.bool false, .agg #[.int .i64 n, .slice d1 m1 k1, .slice d2 m2 k2]]) (by simp [results, Tryz.results30, go_sem, g0, g1, g2]) rfl ⟨_, _, rfl, below_set3 (Below.step bA c4) (by omega) _ _ _, rfl, hz9.out⟩
  | none =>
    rw [hc] at hap
    replace hc := Lib.hid hc
    go_enter Tryz.func30, Tryz.ntmps30
    go_upto_region 1 with fail
    rw [hWA.out]
    go_wp2_with fail
    refine hap.out.mono ?_
    rintro e w1 ⟨lv, x, rfl, b1, ⟨xs, hpa, hxs⟩, he⟩
    obtain rfl : x = .agg #[.int .i64 0, .slice none 0 0, .slice none 0 0] := he
    have lX := hxs.len
    obtain ⟨lva, lvn, lvc, rfl⟩ := hxs.shape
    obtain ⟨be, ⟨⟨y0, y1, y2⟩, -, -, -⟩⟩ := err_box8 w1 (.int .i64 0) (.slice none 0 0) (.slice none 0 0)
    have c1e := Below.step b1 be
    obtain ⟨W2, hW2⟩ : ∃ W2 : World, w1.alloc (.cells #[.int .i64 0, .slice none 0 0, .slice none 0 0] 33) = W2 := ⟨_, rfl⟩
    rw [hW2] at be c1e y0 y1 y2
    replace hW2 := Lib.hid hW2
    replace hxs := Lib.hid hxs
    replace hpa := Lib.hid hpa
    clear z0 z1 z2
    go_upto_region 2 with fail
    rw [hW2.out]
    go_wp2_with fail
    refine (err_bad _ _ _ _ _ _ _ W2).mono ?_
    rintro e w3 ⟨_, rfl, b3, rfl⟩
    rw [show ((0 : Int) != 0) = false from rfl]
    have c3 := Below.step c1e b3
    clear y0 y1 y2
    obtain ⟨⟨g0, g1, g2⟩, f0, f1, f2⟩ := q4.below c3
    obtain ⟨bb, hbb⟩ : ∃ b : Bool, ((xs.length : Int) == 0) = b := ⟨_, rfl⟩
    have hbb2 : decide (xs = []) = bb := by
      rw [← hbb]
      cases xs with
      | nil => rfl
      | cons a l =>
        rw [show decide (a :: l = []) = false from decide_eq_false (by simp)]
        symm; rw [beq_eq_false_iff_ne]; simp only [List.length_cons]; omega
    replace hbb2 := Lib.hid hbb2
    go_wp2
    (try simp only [Exit.inBlock, Exit.then])
    exact bodyPost_ret (v := .tuple #[.bool bb, .agg #[.int .i64 0, .slice none 0 0, .slice none 0 0]]) (by simp [results, Tryz.results30, go_sem, g0, g1, g2]) rfl ⟨_, _, rfl, below_set3 (Below.step bA c3) (by have := s0.out; omega) _ _ _, rfl, xs, hpa.out, by rw [hbb2.out]⟩

theorem law_none (w : World) : Calls Tryz.prog 31 #[.agg #[.int .i64 0, .slice none 0 0, .slice none 0 0, .slice none 0 0]] w (Ret1 (fun x _ => x = .bool true) w) := by
  have b0 := belowAlloc w (.cells #[.int .i64 0, .slice none 0 0, .slice none 0 0, .slice none 0 0] 42)
  have nn := (OwnI.nil 0 w).at.len
  replace nn : ∀ w', (Builtin.len_ #[22] 3 #[.slice none 0 0]).run Tryz.prog w' = .ok (.int .i64 0) w' := nn
  go_enter Tryz.func31, Tryz.ntmps31
  go_wp2
  go_ret
  exact ⟨_, rfl, b0, rfl⟩
end Go.Proofs.YtilpckngghffoaaGreatDoor

namespace Go.Proofs.YtilpckngghffoaaGreatDoor

theorem Way.fst {adj : Nat → List Nat} {x y : Nat} {w : List Nat} (h : Way adj x y w) : w.getD 0 0 = x := by
  obtain ⟨w', rfl⟩ := h.ne; rfl
theorem Way.lst {adj : Nat → List Nat} {x y : Nat} {w : List Nat} (h : Way adj x y w) : w.getD (w.length - 1) 0 = y := by
  induction h with
  | one x => rfl
  | @cons x t y w ht h ih =>
    have := h.pos
    rw [List.length_cons, Nat.add_sub_cancel, show w.length = w.length - 1 + 1 by omega, List.getD_cons_succ]
    exact ih
theorem Way.stp {adj : Nat → List Nat} {x y : Nat} {w : List Nat} (h : Way adj x y w) : ∀ j, j + 1 < w.length → w.getD (j + 1) 0 ∈ adj (w.getD j 0) := by
  induction h with
  | one x => intro j hj; simp at hj
  | @cons x t y w ht h ih =>
    intro j hj
    cases j with
    | zero =>
      rw [List.getD_cons_succ, h.fst]; exact ht
    | succ j =>
      rw [List.getD_cons_succ, List.getD_cons_succ]
      exact ih j (by simpa using hj)
theorem getD_app (I O : List Nat) (j : Nat) : (I ++ O.drop 1).getD j 0 = if j < I.length then I.getD j 0 else O.getD (j - I.length + 1) 0 := by
  split
  · rename_i h
    rw [List.getD_eq_getElem?_getD, List.getElem?_append_left h, ← List.getD_eq_getElem?_getD]
  · rename_i h
    rw [List.getD_eq_getElem?_getD, List.getElem?_append_right (by omega), List.getElem?_drop, ← List.getD_eq_getElem?_getD, Nat.add_comm 1]
theorem getD_dl {W : List Nat} {j : Nat} (h : j + 1 < W.length) : W.dropLast.getD j 0 = W.getD j 0 := by
  rw [List.getD_eq_getElem?_getD, List.getElem?_dropLast, if_pos (by omega), ← List.getD_eq_getElem?_getD]
theorem getD_d1 (W : List Nat) (j : Nat) : (W.drop 1).getD j 0 = W.getD (j + 1) 0 := by
  rw [List.getD_eq_getElem?_getD, List.getElem?_drop, ← List.getD_eq_getElem?_getD, Nat.add_comm]
theorem Bi.of_ways {adj : Nat → List Nat} {c v d : Nat} {W I O U : List Nat} (hW : Way adj c c W) (lW : 2 ≤ W.length) (hI : Way adj c v I) (hO : Way adj v d O) (hU : Way adj d d U) (lU : 2 ≤ U.length) : Bi adj W.dropLast (I ++ O.drop 1) (U.drop 1) := by
  have pI := hI.pos
  have pO := hO.pos
  have lC : (I ++ O.drop 1).length = I.length + (O.length - 1) := by simp
  have last : (I ++ O.drop 1).getD ((I ++ O.drop 1).length - 1) 0 = d := by
    rw [lC, getD_app]
    by_cases e : O.length = 1
    · rw [if_pos (by omega), show I.length + (O.length - 1) - 1 = I.length - 1 by omega, hI.lst, ← hO.lst, e, ← hO.fst]
    · rw [if_neg (by omega), show I.length + (O.length - 1) - 1 - I.length + 1 = O.length - 1 by omega]; exact hO.lst
  refine ⟨by simp; omega, by omega, by simp; omega, fun j hj => ?_, ?_, ?_, fun j hj => ?_, ?_, fun j hj => ?_, ?_⟩
  · rw [List.length_dropLast] at hj
    rw [getD_dl (by omega), getD_dl (by omega)]; exact hW.stp j (by omega)
  · rw [List.length_dropLast, getD_dl (by omega), getD_dl (by omega), hW.fst]
    have := hW.stp (W.length - 1 - 1) (by omega)
    rw [show W.length - 1 - 1 + 1 = W.length - 1 by omega, hW.lst] at this
    exact this
  · rw [getD_app, if_pos pI, hI.fst, getD_dl (by omega), hW.fst]
  · rw [lC] at hj
    rw [getD_app, getD_app]
    by_cases h1 : j + 1 < I.length
    · rw [if_pos h1, if_pos (by omega)]; exact hI.stp j h1
    · rw [if_neg h1]
      by_cases h2 : j < I.length
      · rw [if_pos h2, show j = I.length - 1 by omega, hI.lst, show I.length - 1 + 1 - I.length + 1 = 0 + 1 by omega]
        have := hO.stp 0 (by omega)
        rw [hO.fst] at this
        exact this
      · rw [if_neg h2, show j + 1 - I.length + 1 = j - I.length + 1 + 1 by omega]
        exact hO.stp _ (by omega)
  · rw [last, getD_d1]
    have := hU.stp 0 (by omega)
    rw [hU.fst] at this
    exact this
  · rw [List.length_drop] at hj
    rw [getD_d1, getD_d1]; exact hU.stp _ (by omega)
  · rw [last, getD_d1, List.length_drop, show U.length - 1 - 1 + 1 = U.length - 1 by omega]; exact hU.lst
/-- The row along the first nodes, the row along the second. -/
def rowA (K N : Nat) (l : List Nat) : List Int := l.map fun p => ((p / N % K : Nat) : Int)
def rowB' (K N : Nat) (l : List Nat) : List Int := l.map fun p => ((p % N % K : Nat) : Int)
theorem rowA_cell (K N : Nat) (L C Q : List Nat) (i : Int) : cellP 0 (rowA K N L) (rowA K N C) (rowA K N Q) i = ((cellA 0 L C Q i / N % K : Nat) : Int) := by
  rw [cellP_A, Int.sub_zero]
  have := cellA_map (fun p : Nat => ((p / N % K : Nat) : Int)) 0 L C Q i
  rw [Nat.zero_div, Nat.zero_mod] at this
  exact this
theorem rowB_cell (K N : Nat) (L C Q : List Nat) (i : Int) : cellP 0 (rowB' K N L) (rowB' K N C) (rowB' K N Q) i = ((cellA 0 L C Q i % N % K : Nat) : Int) := by
  rw [cellP_A, Int.sub_zero]
  have := cellA_map (fun p : Nat => ((p % N % K : Nat) : Int)) 0 L C Q i
  rw [Nat.zero_mod, Nat.zero_mod] at this
  exact this
theorem bi_img {K R : Nat} {T : List Int} (hK : 1 ≤ K) (hR : 1 ≤ R) {L C Q : List Nat} (h : Bi (pairL K (pw K (2 * R)) T) L C Q) (j : Int) :
    imgC K R T (cellP 0 (rowA K (pw K (2 * R)) L) (rowA K (pw K (2 * R)) C) (rowA K (pw K (2 * R)) Q)) j = imgC K R T (cellP 0 (rowB' K (pw K (2 * R)) L) (rowB' K (pw K (2 * R)) C) (rowB' K (pw K (2 * R)) Q)) j := by
  have := pairs_img (T := T) hK hR (V := cellA 0 L C Q) h.step j
  rw [← funext (rowA_cell K (pw K (2 * R)) L C Q), ← funext (rowB_cell K (pw K (2 * R)) L C Q)] at this
  exact this
/-- Left of the core a row repeats its block. -/
theorem cellA_left {α : Type} (d : α) {L : List α} (l1 : 1 ≤ L.length) {i : Int} (h : i < 0) : ∃ j : Int, j < 0 ∧ -(L.length : Int) ≤ j ∧ ∀ (L' C' Q' : List α), L'.length = L.length → cellA d L' C' Q' i = cellA d L' C' Q' j := by
  obtain ⟨m, hm, e⟩ := emod_nat (a := i) l1
  refine ⟨(m : Int) - L.length, by omega, by omega, fun L' C' Q' hl => ?_⟩
  unfold cellA
  rw [if_pos h, if_pos (by omega), hl]
  congr 2
  rw [e]
  have : ((m : Int) - L.length) % (L.length : Int) = m := by
    rw [Int.sub_emod_right]; exact Int.emod_eq_of_lt (by omega) (by omega)
  rw [this]
/-- They differ near the pair that is apart. -/
theorem bi_ne {K R : Nat} {T : List Int} (hK : 1 ≤ K) (hR : 1 ≤ R) {L C Q : List Nat} (h : Bi (pairL K (pw K (2 * R)) T) L C Q) {s : Nat} (hs : s < C.length) (hd : ¬ Diag (pw K (2 * R)) (C.getD s 0)) :
    ∃ j : Int, -(L.length : Int) ≤ j ∧ j < C.length ∧ cellP 0 (rowA K (pw K (2 * R)) L) (rowA K (pw K (2 * R)) C) (rowA K (pw K (2 * R)) Q) j ≠ cellP 0 (rowB' K (pw K (2 * R)) L) (rowB' K (pw K (2 * R)) C) (rowB' K (pw K (2 * R)) Q) j := by
  have hN := pw_pos (K := K) (2 * R) hK
  obtain ⟨V, hVe⟩ : ∃ V, V = cellA 0 L C Q := ⟨_, rfl⟩
  have hV : ∀ i, V (i + 1) ∈ pairL K (pw K (2 * R)) T (V i) := by rw [hVe]; exact h.step
  have harr : ∀ i, toN K (pw K (2 * R)) (V i / pw K (2 * R)) (V (i + 1) / pw K (2 * R) % K) = V (i + 1) / pw K (2 * R) ∧ toN K (pw K (2 * R)) (V i % pw K (2 * R)) (V (i + 1) % pw K (2 * R) % K) = V (i + 1) % pw K (2 * R) := fun i => by
    obtain ⟨s, t, hs, ht, e, h⟩ := (mem_pairL (by omega)).1 (hV i)
    rw [h, pair_div (toN_lt (by omega)), pair_mod (toN_lt (by omega)), toN_mod hK hR hs, toN_mod hK hR ht]
    exact ⟨rfl, rfl⟩
  have lowA : ∀ i, 0 ≤ ((V i / pw K (2 * R) % K : Nat) : Int) ∧ ((V i / pw K (2 * R) % K : Nat) : Int) < K := fun i => by
    have := Nat.mod_lt (V i / pw K (2 * R)) (show K > 0 by omega)
    omega
  have lowB : ∀ i, 0 ≤ ((V i % pw K (2 * R) % K : Nat) : Int) ∧ ((V i % pw K (2 * R) % K : Nat) : Int) < K := fun i => by
    have := Nat.mod_lt (V i % pw K (2 * R)) (show K > 0 by omega)
    omega
  have nA := nodes_win (R := R) hK (u := fun i => V i / pw K (2 * R)) (A := fun i => ((V i / pw K (2 * R) % K : Nat) : Int)) lowA (fun i => by rw [Int.toNat_natCast]; exact (harr i).1.symm)
  have nB := nodes_win (R := R) hK (u := fun i => V i % pw K (2 * R)) (A := fun i => ((V i % pw K (2 * R) % K : Nat) : Int)) lowB (fun i => by rw [Int.toNat_natCast]; exact (harr i).2.symm)
  have hVs : V (s : Int) = C.getD s 0 := by
    rw [hVe]; unfold cellA
    rw [if_neg (by omega), if_pos (by omega), Int.toNat_natCast]
  have hdiff : ∃ t : Nat, t < 2 * R ∧ V ((s : Int) - ((2 * R : Nat) : Int) + 1 + t) / pw K (2 * R) % K ≠ V ((s : Int) - ((2 * R : Nat) : Int) + 1 + t) % pw K (2 * R) % K := by
    apply Classical.byContradiction
    intro hno
    apply hd
    unfold Diag
    rw [← hVs, nA (s : Int), nB (s : Int)]
    congr 1
    unfold winF
    refine List.map_congr_left fun t ht => ?_
    have ht := List.mem_range.1 ht
    have : V ((s : Int) - ((2 * R : Nat) : Int) + 1 + t) / pw K (2 * R) % K = V ((s : Int) - ((2 * R : Nat) : Int) + 1 + t) % pw K (2 * R) % K := Classical.byContradiction fun q => hno ⟨t, ht, q⟩
    exact congrArg (fun n : Nat => (n : Int)) this
  obtain ⟨t, ht, hne⟩ := hdiff
  generalize hj : (s : Int) - ((2 * R : Nat) : Int) + 1 + t = j at hne
  have hjC : j < C.length := by omega
  by_cases h0 : j < 0
  · obtain ⟨j', h1, h2, h3⟩ := cellA_left (0 : Nat) h.l1 h0
    refine ⟨j', h2, by omega, ?_⟩
    rw [rowA_cell, rowB_cell, ← h3 L C Q rfl, ← hVe]
    intro q
    exact hne (by exact_mod_cast q)
  · refine ⟨j, by omega, hjC, ?_⟩
    rw [rowA_cell, rowB_cell, ← hVe]
    intro q
    exact hne (by exact_mod_cast q)
end Go.Proofs.YtilpckngghffoaaGreatDoor

namespace Go.Proofs.YtilpckngghffoaaGreatDoor

theorem way_pairL {K N : Nat} {T : List Int} (hN : 0 < N) {x y : Nat} {w : List Nat} (h : Way (adjOf (pairG K N T)) x y w) (hx : x < N * N) : Way (pairL K N T) x y w := by
  induction h with
  | one x => exact .one x
  | @cons x t y w ht h ih =>
    rw [pairG_adj hx] at ht
    exact .cons ht (ih (((mem_pairL hN).1 ht).lt hN))
theorem oneIs_bi {K R : Nat} {T : List Int} {L C Q : List Nat} (hr : RuleOk K R T) (hl : T.length ≤ 256) (h : OneIs K R T L C Q) :
    Bi (pairL K (pw K (2 * wkR R)) (wkT K R T)) L C Q ∧ L.length ≤ 8192 ∧ C.length ≤ 16384 ∧ Q.length ≤ 8192 ∧ ∃ s, s < C.length ∧ ¬ Diag (pw K (2 * wkR R)) (C.getD s 0) := by
  have hN := pw_pos (K := K) (2 * wkR R) hr.k1
  have hN81 := nodes_le (wk_ok hr) (wk_pos R) (wk_small hr hl)
  have hM6 : pw K (2 * wkR R) * pw K (2 * wkR R) ≤ 6561 := Nat.mul_le_mul hN81 hN81
  obtain ⟨l, v, m, hlive, hodd, c, d, u1, u2, I, O, -, -, hc, hd, h1, h2, h3, h4, rfl, rfl, rfl⟩ := h
  have hok := pairG_ok (K := K) (N := pw K (2 * wkR R)) (T := wkT K R T) (by omega)
  have hv1 : v ∈ oddL K R l := by rw [hodd]; exact List.mem_cons_self
  obtain ⟨hv2, hv3⟩ := List.mem_filter.1 hv1
  obtain ⟨hvM, -⟩ := (hlive.mem v).1 hv2
  have hvD : ¬ Diag (pw K (2 * wkR R)) v := by simpa using hv3
  obtain ⟨a1, a2, a3⟩ := wide_bound hok hc h1
  obtain ⟨b1, b2, b3⟩ := wide_bound hok hd h2
  have W1 := wide_back hok h1.way rfl hc
  have W2 := wide_back hok h2.way rfl hd
  have f3 := (first_bound hok h3 hc).1
  have f4 := (first_bound hok h4 (by rw [pairG_len]; exact hvM)).1
  rw [pairG_len] at hc hd a2 b2 f3 f4
  have V1 := way_pairL (by omega) W1 hc
  have V2 := way_pairL (by omega) W2 hd
  have V3 := way_pairL (by omega) h3.way hc
  have V4 := way_pairL (by omega) h4.way hvM
  have hb := Bi.of_ways V1 (by simp; omega) V3 V4 V2 (by simp; omega)
  have e1 : (u1.dropLast ++ [c]).dropLast = u1.dropLast := by simp
  have e2 : (u2.dropLast ++ [d]).drop 1 = u2.dropLast.drop 1 ++ [d] := by
    rw [List.drop_append_of_le_length (by simp; omega)]
  rw [e1, e2] at hb
  have p3 := V3.pos
  refine ⟨hb, by simp; omega, by simp; omega, by simp; omega, I.length - 1, by simp; omega, ?_⟩
  rw [getD_app, if_pos (by omega), V3.lst]
  exact hvD
theorem sideA_row (K N : Nat) (l : List Nat) : sideA K N l = rowA K N l := by simp [sideA, castI, rowA, Function.comp_def]
theorem sideB_row (K N : Nat) (l : List Nat) : sideB K N l = rowB' K N l := by simp [sideB, castI, rowB', Function.comp_def]
theorem rowA_syms {K : Nat} (hK : 1 ≤ K) (N : Nat) (l : List Nat) : Syms K (rowA K N l) := by
  intro x hx
  obtain ⟨p, -, rfl⟩ := List.mem_map.1 hx
  have := Nat.mod_lt (p / N) (show K > 0 by omega)
  omega
theorem rowB_syms {K : Nat} (hK : 1 ≤ K) (N : Nat) (l : List Nat) : Syms K (rowB' K N l) := by
  intro x hx
  obtain ⟨p, -, rfl⟩ := List.mem_map.1 hx
  have := Nat.mod_lt (p % N) (show K > 0 by omega)
  omega
/-- Both have one image. -/
theorem wit_img {K R : Nat} {T : List Int} (hr : RuleOk K R T) {L C Q : List Nat} (h : Bi (pairL K (pw K (2 * wkR R)) (wkT K R T)) L C Q) (f : Int) (n : Nat) :
    imgP K R T (pieceP 0 (rowA K (pw K (2 * wkR R)) L) (rowA K (pw K (2 * wkR R)) C) (rowA K (pw K (2 * wkR R)) Q) f n) = imgP K R T (pieceP 0 (rowB' K (pw K (2 * wkR R)) L) (rowB' K (pw K (2 * wkR R)) C) (rowB' K (pw K (2 * wkR R)) Q) f n) := by
  have hK := hr.k1
  have key : ∀ j, imgC K R T (cellP 0 (rowA K (pw K (2 * wkR R)) L) (rowA K (pw K (2 * wkR R)) C) (rowA K (pw K (2 * wkR R)) Q)) j = imgC K R T (cellP 0 (rowB' K (pw K (2 * wkR R)) L) (rowB' K (pw K (2 * wkR R)) C) (rowB' K (pw K (2 * wkR R)) Q)) j := fun j => by
    have h0 := bi_img hK (wk_pos R) h j
    by_cases e : R = 0
    · have eR : wkR R = 0 + 1 := by rw [e]; rfl
      have eT : wkT K R T = wideT K 0 1 T := by rw [e]; exact if_pos rfl
      have hA := fun i => cellP_syms (p := 0) (rowA_syms hK (pw K (2 * wkR R)) L) (rowA_syms hK (pw K (2 * wkR R)) C) (rowA_syms hK (pw K (2 * wkR R)) Q) (by simpa [rowA] using h.l1) (by simpa [rowA] using h.q1) i
      have hB := fun i => cellP_syms (p := 0) (rowB_syms hK (pw K (2 * wkR R)) L) (rowB_syms hK (pw K (2 * wkR R)) C) (rowB_syms hK (pw K (2 * wkR R)) Q) (by simpa [rowB'] using h.l1) (by simpa [rowB'] using h.q1) i
      generalize cellP 0 (rowA K (pw K (2 * wkR R)) L) (rowA K (pw K (2 * wkR R)) C) (rowA K (pw K (2 * wkR R)) Q) = A at h0 hA ⊢
      generalize cellP 0 (rowB' K (pw K (2 * wkR R)) L) (rowB' K (pw K (2 * wkR R)) C) (rowB' K (pw K (2 * wkR R)) Q) = B at h0 hB ⊢
      rw [eR, eT, imgC_wide hK hA, imgC_wide hK hB] at h0
      rw [e]; exact h0
    · have eR : wkR R = R := if_neg e
      have eT : wkT K R T = T := if_neg e
      generalize cellP 0 (rowA K (pw K (2 * wkR R)) L) (rowA K (pw K (2 * wkR R)) C) (rowA K (pw K (2 * wkR R)) Q) = A at h0 ⊢
      generalize cellP 0 (rowB' K (pw K (2 * wkR R)) L) (rowB' K (pw K (2 * wkR R)) C) (rowB' K (pw K (2 * wkR R)) Q) = B at h0 ⊢
      rw [eR, eT] at h0
      exact h0
  rw [pieceF_P, pieceF_P, img_piece, img_piece]
  exact congrFun (congrFun (congrArg pieceF (funext key)) _) _
end Go.Proofs.YtilpckngghffoaaGreatDoor

namespace Go.Proofs.YtilpckngghffoaaGreatDoor
open Go.RowKit
set_option maxRecDepth 100000

end Go.Proofs.YtilpckngghffoaaGreatDoor

namespace Go.Proofs.YtilpckngghffoaaGreatDoor
open Go.RowKit
set_option maxRecDepth 100000

end Go.Proofs.YtilpckngghffoaaGreatDoor

namespace Go.Proofs.YtilpckngghffoaaGreatDoor
open Go.RowKit
set_option maxRecDepth 100000

/-- What an error's numbers look like in memory. -/
theorem eat_shape {w : World} {t : PErr} {v : Value} (h : EAt w t v) : ∃ (n : Int) (sa : Option Addr) (sn sc : Nat) (ja : Option Addr) (jn jc : Nat), v = .agg #[.int .i64 n, .slice sa sn sc, .slice ja jn jc] := by
  cases t with
  | none => exact ⟨0, none, 0, 0, none, 0, 0, h⟩
  | some q =>
    obtain ⟨n, l⟩ := q
    obtain ⟨a1, n1, c1, a2, n2, c2, rfl, _, _⟩ := h
    exact ⟨_, _, _, _, _, _, _, rfl⟩

end Go.Proofs.YtilpckngghffoaaGreatDoor

namespace Go.Proofs.YtilpckngghffoaaGreatDoor
open Go.RowKit
set_option maxRecDepth 100000

/-- Each cell as it is. -/
def iT : List Int := [0, 0, 1, 1, 0, 0, 1, 1]
theorem iT_ok : RuleOk 2 1 iT := ⟨by decide, by decide, by decide, by decide, fun x hx => by simp [iT] at hx; omega⟩
theorem iT_one : ¬ NotOne 2 1 iT := by
  intro h
  obtain ⟨x, y, sx, sy, lx, ly, hne, e⟩ := h 1
  match x, lx with
  | [a, b, c], _ =>
    match y, ly with
    | [a', b', c'], _ =>
      have h1 := sx a (by simp)
      have h2 := sx b (by simp)
      have h3 := sx c (by simp)
      have k1 := sy a' (by simp)
      have k2 := sy b' (by simp)
      have k3 := sy c' (by simp)
      have hb : ∀ a b c : Int, 0 ≤ a → a < 2 → 0 ≤ b → b < 2 → 0 ≤ c → c < 2 → imgP 2 1 iT [a, b, c] = [b] := fun a b c p1 p2 p3 p4 p5 p6 => by
        have ha : a = 0 ∨ a = 1 := by omega
        have hb : b = 0 ∨ b = 1 := by omega
        have hc : c = 0 ∨ c = 1 := by omega
        rcases ha with rfl | rfl <;> rcases hb with rfl | rfl <;> rcases hc with rfl | rfl <;> decide
      rw [hb a b c h1.1 h1.2 h2.1 h2.2 h3.1 h3.2, hb a' b' c' k1.1 k1.2 k2.1 k2.2 k3.1 k3.2] at e
      injection e with e _
      exact hne e
/-- The sum of both neighbours. -/
def nT : List Int := [0, 1, 0, 1, 1, 0, 1, 0]
theorem nT_ok : RuleOk 2 1 nT := ⟨by decide, by decide, by decide, by decide, fun x hx => by simp [nT] at hx; omega⟩
theorem img_same {z : Int} (hz : z = 0 ∨ z = 1) (n : Nat) : imgP 2 1 nT (List.replicate n z) = List.replicate (n - 2) 0 := by
  refine List.ext_getElem (by simp [imgP_length]) fun i h1 h2 => ?_
  simp only [imgP_length, List.length_replicate] at h1
  simp only [imgP, List.getElem_map, List.getElem_range, List.getElem_replicate, List.drop_replicate, List.take_replicate]
  rw [show min (2 * 1 + 1) (n - i) = 3 by omega]
  rcases hz with rfl | rfl <;> decide
theorem nT_not : NotOne 2 1 nT := fun n =>
  ⟨List.replicate (2 * n + 1) 0, List.replicate (2 * n + 1) 1, fun x hx => by rw [List.eq_of_mem_replicate hx]; decide, fun x hx => by rw [List.eq_of_mem_replicate hx]; decide, by simp, by simp,
    by simp [List.getD, show n < 2 * n + 1 by omega], by rw [img_same (.inl rfl), img_same (.inr rfl)]⟩

set_option maxHeartbeats 2000000 in
theorem awake14 (r : Nat → Addr) (w : World) (hg : Glob r w) : Calls Tryz.prog 17 #[] w (Ret1 (fun x _ => x = .bool true) w) := by
  have bl := belowAlloc w (.cells #[.int .i64 0, .int .i64 0, .int .i64 1, .int .i64 1, .int .i64 0, .int .i64 0, .int .i64 1, .int .i64 1] 3)
  have hlit := lit_ints w [0, 0, 1, 1, 0, 0, 1, 1] #[.int .i64 0, .int .i64 0, .int .i64 1, .int .i64 1, .int .i64 0, .int .i64 0, .int .i64 1, .int .i64 1] rfl (by decide)
  replace hlit := Lib.hid hlit
  replace hg := Lib.hid hg
  go_enter Tryz.func17, Tryz.ntmps17
  go_wp2_with fail
  refine (one_ok r 2 1 _ _ _ iT _ (hg.out.below bl) hlit.out iT_ok (by decide)).mono ?_
  rintro e w2 ⟨y, a, b, z, rfl, b2, hp⟩
  obtain ⟨rfl, Y, rfl, hY, a1, n1, c1, a2, n2, c2, a3, n3, c3, a4, n4, c4, a5, n5, c5, a6, n6, c6, rfl, rfl⟩ := hp.ans
  obtain rfl : Y = true := hY.2 iT_one
  clear hp hY
  have b02 := Below.step bl b2
  have c1' := Cells4.alloc w2 42 (.int .i64 0) (.slice a1 n1 c1) (.slice a2 n2 c2) (.slice a3 n3 c3)
  have b03 := Below.step b02 (Below.step (belowAlloc w2 (.cells #[.int .i64 0, .slice a1 n1 c1, .slice a2 n2 c2, .slice a3 n3 c3] 42)) (belowAlloc _ (.cells #[.int .i64 0, .slice a4 n4 c4, .slice a5 n5 c5, .slice a6 n6 c6] 42)))
  have bl2 := belowAlloc ((w2.alloc (.cells #[.int .i64 0, .slice a1 n1 c1, .slice a2 n2 c2, .slice a3 n3 c3] 42)).alloc (.cells #[.int .i64 0, .slice a4 n4 c4, .slice a5 n5 c5, .slice a6 n6 c6] 42)) (.cells #[.int .i64 0, .int .i64 1, .int .i64 0, .int .i64 1, .int .i64 1, .int .i64 0, .int .i64 1, .int .i64 0] 3)
  have hlit2 := lit_ints ((w2.alloc (.cells #[.int .i64 0, .slice a1 n1 c1, .slice a2 n2 c2, .slice a3 n3 c3] 42)).alloc (.cells #[.int .i64 0, .slice a4 n4 c4, .slice a5 n5 c5, .slice a6 n6 c6] 42)) [0, 1, 0, 1, 1, 0, 1, 0] #[.int .i64 0, .int .i64 1, .int .i64 0, .int .i64 1, .int .i64 1, .int .i64 0, .int .i64 1, .int .i64 0] rfl (by decide)
  have b04 := Below.step b03 bl2
  replace hlit2 := Lib.hid hlit2
  clear c1'
  go_wp2_with fail
  have hone := fun (s : Nat) (hs : s = ((w2.alloc (.cells #[.int .i64 0, .slice a1 n1 c1, .slice a2 n2 c2, .slice a3 n3 c3] 42)).alloc (.cells #[.int .i64 0, .slice a4 n4 c4, .slice a5 n5 c5, .slice a6 n6 c6] 42)).heap.size) => one_ok r 2 1 (some ⟨s, 0, none⟩) 8 8 nT _ (hg.out.below b04) (by subst hs; exact hlit2.out) nT_ok (by decide)
  refine (hone _ (by simp)).mono ?_
  rintro e w5 ⟨y, a, b, z, rfl, b5, hp⟩
  obtain ⟨rfl, ⟨_, _, _, hn⟩ | ⟨rfl, _, L, C, Q, aL, aC, aQ, bL, bC, bQ, hoi, rfl, rfl, f, hr, k1, k2, k3, k4, k5, k6⟩⟩ := hp
  · exact absurd nT_not hn
  obtain ⟨p1, p2⟩ := hoi.pos
  have l1 := (hr.ownI k1).at.len
  have l6 := (hr.ownI k6).at.len
  rw [sideA_len] at l1
  rw [sideB_len] at l6
  obtain ⟨d1, m1, s1, rfl⟩ := (hr.ownI k1).at.shape
  obtain ⟨d2, m2, s2, rfl⟩ := (hr.ownI k2).at.shape
  obtain ⟨d3, m3, s3, rfl⟩ := (hr.ownI k3).at.shape
  obtain ⟨d4, m4, s4, rfl⟩ := (hr.ownI k4).at.shape
  obtain ⟨d5, m5, s5, rfl⟩ := (hr.ownI k5).at.shape
  obtain ⟨d6, m6, s6, rfl⟩ := (hr.ownI k6).at.shape
  have e1 : decide ((0 : Int) < (L.length : Int)) = true := by simp; omega
  have e6 : decide ((0 : Int) < (Q.length : Int)) = true := by simp; omega
  have b06 := Below.step b04 (Below.step b5 (Below.step (belowAlloc w5 (.cells #[.int .i64 0, .slice d1 m1 s1, .slice d3 m3 s3, .slice d5 m5 s5] 42)) (belowAlloc _ (.cells #[.int .i64 0, .slice d2 m2 s2, .slice d4 m4 s4, .slice d6 m6 s6] 42))))
  replace hoi := Lib.hid hoi
  clear hr k1 k2 k3 k4 k5 k6 hone
  go_wp2
  go_ret
  exact ⟨_, rfl, b06, congrArg Value.bool (decide_eq_true (by omega))⟩
end Go.Proofs.YtilpckngghffoaaGreatDoor
