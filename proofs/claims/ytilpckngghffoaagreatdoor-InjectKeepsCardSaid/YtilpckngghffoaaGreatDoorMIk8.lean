/-
  Walk: inject.One: whether a rule is one to one; if not, the two rows.
  Walk: inject.Rings.
  Walk: edenraw.Rows at equal rows; lists of one's own in groups, for Apart.
  Plain mathematics of layer 14: a loop, a way, a loop make a way without ends; two rows along it that differ, with one image.
  Plain mathematics of layers 7 and 15: a row's fault, that of two words that are no twins.
  Plain facts: the two rows of the witness of inject.One: right, unlike, with one image.
  Walk: edenlaw13.awake.
  Walk: edenlaw14.awake.
-/
import Derived.Test.YtilpckngghffoaaGreatDoorMIk7
import Derived.Deep.DeepCutAuto
namespace Go.Proofs.YtilpckngghffoaaGreatDoor
open Go.RowKit
set_option maxRecDepth 100000

def sInject : ByteArray := ⟨#[105, 110, 106, 101, 99, 116]⟩
/-- The row that holds nothing. -/
abbrev zRow : Value := .agg #[.int .i64 0, .slice none 0 0, .slice none 0 0, .slice none 0 0]
section
variable {K N : Nat} {T : List Int}
theorem goes_pairG {x y : Nat} (hN : 0 < N) (h : Goes (adjOf (pairG K N T)) x y) (hx : x < N * N) : Goes (pairL K N T) x y ∧ y < N * N := by
  induction h with
  | refl => exact ⟨.refl _, hx⟩
  | step h hz ih =>
    rw [pairG_adj ih.2] at hz
    exact ⟨.step ih.1 hz, ((mem_pairL hN).1 hz).lt hN⟩
theorem live_pairG (hN : 0 < N) {v : Nat} (hv : v < N * N) : IsLive (N * N) (adjOf (pairG K N T)) v ↔ LiveP (N * N) (pairL K N T) v := by
  constructor
  · rintro ⟨⟨u, hu, ⟨t, ht, h1⟩, h2⟩, ⟨u', hu', ⟨t', ht', h1'⟩, h2'⟩⟩
    rw [pairG_adj hu] at ht
    rw [pairG_adj hu'] at ht'
    exact ⟨⟨u, hu, ⟨t, ht, (goes_pairG hN h1 (((mem_pairL hN).1 ht).lt hN)).1⟩, (goes_pairG hN h2 hu).1⟩, ⟨u', hu', ⟨t', ht', (goes_pairG hN h1' (((mem_pairL hN).1 ht').lt hN)).1⟩, (goes_pairG hN h2' hv).1⟩⟩
  · rintro ⟨⟨u, hu, ⟨t, ht, h1⟩, h2⟩, ⟨u', hu', ⟨t', ht', h1'⟩, h2'⟩⟩
    exact ⟨⟨u, hu, ⟨t, by rw [pairG_adj hu]; exact ht, (pairG_goes hN h1 (((mem_pairL hN).1 ht).lt hN)).1⟩, (pairG_goes hN h2 hu).1⟩, ⟨u', hu', ⟨t', by rw [pairG_adj hu']; exact ht', (pairG_goes hN h1' (((mem_pairL hN).1 ht').lt hN)).1⟩, (pairG_goes hN h2' hv).1⟩⟩
end
theorem wk_notOne {K R : Nat} {T : List Int} (hK : 1 ≤ K) : NotOne K (wkR R) (wkT K R T) ↔ NotOne K R T := by
  unfold wkR wkT
  by_cases e : R = 0
  · subst e; rw [if_pos rfl, if_pos rfl]; exact notOne_wide (R := 0) (d := 1) hK
  · rw [if_neg e, if_neg e]
/-- The live pairs that are apart. -/
def oddL (K R : Nat) (L : List Nat) : List Nat := L.filter fun p => !decide (Diag (pw K (2 * wkR R)) p)
/-- Whether they tell that the rule is one to one. -/
theorem odd_none {K R : Nat} {T : List Int} {L : List Nat} (hr : RuleOk K R T) (h : LiveList (pw K (2 * wkR R) * pw K (2 * wkR R)) (adjOf (pairG K (pw K (2 * wkR R)) (wkT K R T))) L) : oddL K R L = [] ↔ ¬ NotOne K R T := by
  have hN := pw_pos (K := K) (2 * wkR R) hr.k1
  rw [← wk_notOne hr.k1]
  constructor
  · intro he hno
    obtain ⟨q, h1, h2, h3⟩ := live_of_notOne (wk_ok hr) (wk_pos R) hno
    have : q ∈ oddL K R L := List.mem_filter.2 ⟨(h.mem q).2 ⟨h1, (live_pairG (by omega) h1).2 h2⟩, by simp [h3]⟩
    rw [he] at this; cases this
  · intro hno
    apply Classical.byContradiction
    intro he
    obtain ⟨q, hq⟩ := List.exists_mem_of_ne_nil _ he
    obtain ⟨h1, h2⟩ := List.mem_filter.1 hq
    obtain ⟨h3, h4⟩ := (h.mem q).1 h1
    exact hno (notOne_of_live (wk_ok hr) (wk_pos R) ((live_pairG (by omega) h3).1 h4) (by simpa using h2))
/-- The witness: the first of them. -/
def OneIs (K R : Nat) (T : List Int) (L C Q : List Nat) : Prop :=
  ∃ l v m, LiveList (pw K (2 * wkR R) * pw K (2 * wkR R)) (adjOf (pairG K (pw K (2 * wkR R)) (wkT K R T))) l ∧ oddL K R l = v :: m ∧ WitIs (pairG K (pw K (2 * wkR R)) (wkT K R T)) v L C Q
theorem OneIs.unique {K R : Nat} {T : List Int} {L C Q L' C' Q' : List Nat} (h : OneIs K R T L C Q) (k : OneIs K R T L' C' Q') : L = L' ∧ C = C' ∧ Q = Q' := by
  obtain ⟨l, v, m, h1, h2, h3⟩ := h
  obtain ⟨l', v', m', k1, k2, k3⟩ := k
  obtain rfl := h1.unique k1
  rw [h2] at k2
  injection k2 with e _
  subst e
  exact h3.unique k3
/-- What One leaves at a small rule. -/
def OnePost (w : World) (K R : Nat) (T : List Int) (yes x y e : Value) (w' : World) : Prop :=
  e = .nilIface ∧ ((yes = .bool true ∧ x = zRow ∧ y = zRow ∧ ¬ NotOne K R T) ∨ (yes = .bool false ∧ NotOne K R T ∧ ∃ L C Q aL aC aQ bL bC bQ, OneIs K R T L C Q ∧ x = .agg #[.int .i64 0, aL, aC, aQ] ∧ y = .agg #[.int .i64 0, bL, bC, bQ] ∧ ∃ f, Rows w.heap.size w' f ∧
    f (1, 0) = some (rowI aL (sideA K (pw K (2 * wkR R)) L)) ∧ f (1, 1) = some (rowI bL (sideB K (pw K (2 * wkR R)) L)) ∧ f (2, 0) = some (rowI aC (sideA K (pw K (2 * wkR R)) C)) ∧ f (2, 1) = some (rowI bC (sideB K (pw K (2 * wkR R)) C)) ∧ f (3, 0) = some (rowI aQ (sideA K (pw K (2 * wkR R)) Q)) ∧ f (3, 1) = some (rowI bQ (sideB K (pw K (2 * wkR R)) Q))))


set_option maxHeartbeats 1000000 in
theorem one_bad (r : Nat → Addr) (k R : Int) (va : Option Addr) (vn vc : Nat) (T : List Int) (t : Int × List (ByteArray × Int)) (w : World) (hg : Glob r w) (h : IntsAt w (.slice va vn vc) T) (hc : smallP k R T = some t) :
    Calls Tryz.prog 18 #[.agg #[.int .i64 k, .int .i64 R, .slice va vn vc]] w (Ret4 (fun x y z u w' => x = .bool false ∧ y = zRow ∧ z = zRow ∧ ErrIs r w' (under sInject 0 (under sPairs 0 (some t))) u) w) := by
  have bb := belowAlloc w (.cells #[.int .i64 k, .int .i64 R, .slice va vn vc] 24)
  have q : Box3 (w.alloc (.cells #[.int .i64 k, .int .i64 R, .slice va vn vc] 24)) w.heap.size (.int .i64 k) (.int .i64 R) (.slice va vn vc) := by simp [Box3, go_sem]
  obtain ⟨f0, R0, n02, o02⟩ := ((Rows.void w.heap.size w).below bb).box4 (0, 2) (by simp) 42 (.int .i64 0) (.slice none 0 0) (.slice none 0 0) (.slice none 0 0)
  obtain ⟨f1, R1, n03, o03⟩ := R0.box4 (0, 3) (by simp; omega) 42 (.int .i64 0) (.slice none 0 0) (.slice none 0 0) (.slice none 0 0)
  replace n02 := (o03 (0, 2) (by decide)).trans n02
  simp only [World.size_alloc] at n02 n03
  have b0 : Below w.heap.size w (((w.alloc (.cells #[.int .i64 k, .int .i64 R, .slice va vn vc] 24)).alloc (.cells #[.int .i64 0, .slice none 0 0, .slice none 0 0, .slice none 0 0] 42)).alloc (.cells #[.int .i64 0, .slice none 0 0, .slice none 0 0, .slice none 0 0] 42)) := Below.step bb (Below.step (belowAlloc _ _) (belowAlloc _ _))
  replace q := q.below (Below.step (belowAlloc _ (.cells #[.int .i64 0, .slice none 0 0, .slice none 0 0, .slice none 0 0] 42)) (belowAlloc _ (.cells #[.int .i64 0, .slice none 0 0, .slice none 0 0, .slice none 0 0] 42)))
  clear o02 o03 R0 bb
  replace hg := Lib.hid (hg.below b0)
  replace h := Lib.hid (h.below b0)
  replace hc := Lib.hid hc
  obtain ⟨⟨z0, z1, z2⟩, -, -, -⟩ := q
  replace R1 := Lib.hid R1
  replace n02 := Lib.hid n02
  replace n03 := Lib.hid n03
  go_enter Tryz.func18, Tryz.ntmps18
  go_wp2_with fail
  refine (pgraph_bad r k R va vn vc T t _ hg.out h.out hc.out).mono ?_
  rintro e w1 ⟨x, y, rfl, b1, rfl, hy⟩
  obtain ⟨T2, a2, rfl⟩ : ∃ T a, y = .iface T (.pointer (some a)) := by
    unfold under at hy
    exact ErrIs.some_shape hy
  replace hy := Lib.hid hy
  clear z0 z1 z2
  go_wp2_with fail
  refine (under_any r sInject 0 _ _ w1 hy.out).mono ?_
  rintro e w2 ⟨u, rfl, b2, hu⟩
  have hu' := hu
  obtain ⟨T3, a3, rfl⟩ : ∃ T a, u = .iface T (.pointer (some a)) := by
    unfold under at hu'
    exact ErrIs.some_shape hu'
  clear hu'
  have R2 := (R1.out.below b1).below b2
  replace n02 := n02.out
  replace n03 := n03.out
  have bw := Below.step b0 (Below.step b1 b2)
  obtain ⟨g0, g1, g2, g3⟩ := R2.cells4 n02
  obtain ⟨h0, h1, h2, h3⟩ := R2.cells4 n03
  have fg0 := R2.frz4 n02 0
  have fh0 := R2.frz4 n03 0
  have fg1 := R2.frz4 n02 1
  have fh1 := R2.frz4 n03 1
  have fg2 := R2.frz4 n02 2
  have fh2 := R2.frz4 n03 2
  have fg3 := R2.frz4 n02 3
  have fh3 := R2.frz4 n03 3
  have c2 := R2.cells4 n02
  have c3 := R2.cells4 n03
  have lg0 := (R2.low4 n02).1
  have lh0 := (R2.low4 n03).1
  obtain ⟨f3, R3, m02, o3⟩ := R2.all4 n02 (.int .i64 0) (.slice none 0 0) (.slice none 0 0) (.slice none 0 0)
  have n03' := (o3 (0, 3) (by decide)).trans n03
  have hu2 := hu.all4 c2 (.slice none 0 0) (.slice none 0 0) (.slice none 0 0)
  have hu3 := hu2.all4 (R3.cells4 n03') (.slice none 0 0) (.slice none 0 0) (.slice none 0 0)
  have b15 := Below.all4 (g := w.heap.size + 1) bw lg0 (.int .i64 0) (.slice none 0 0) (.slice none 0 0) (.slice none 0 0)
  have b16 := Below.all4 (g := w.heap.size + 2) b15 lh0 (.int .i64 0) (.slice none 0 0) (.slice none 0 0) (.slice none 0 0)
  replace hu := Lib.hid hu
  replace hu2 := Lib.hid hu2
  replace hu3 := Lib.hid hu3
  replace R2 := Lib.hid R2
  replace R3 := Lib.hid R3
  replace n02 := Lib.hid n02
  replace n03 := Lib.hid n03
  replace n03' := Lib.hid n03'
  replace m02 := Lib.hid m02
  clear o3 c2 c3
  go_wp2
  (try simp only [Exit.inBlock, Exit.then])
  refine bodyPost_ret (v := .tuple #[.bool false, zRow, zRow, .iface T3 (.pointer (some a3))]) (by simp [results, Tryz.results18, go_sem, g0, g1, g2, g3, h0, h1, h2, h3]) rfl ?_
  exact ⟨_, _, _, _, rfl, b16, rfl, rfl, rfl, hu3.out⟩

set_option maxHeartbeats 4000000 in
theorem one_ok (r : Nat → Addr) (K R : Nat) (va : Option Addr) (vn vc : Nat) (T : List Int) (w : World) (hg : Glob r w) (h : IntsAt w (.slice va vn vc) T) (hr : RuleOk K R T) (hl : T.length ≤ 256) :
    Calls Tryz.prog 18 #[.agg #[.int .i64 K, .int .i64 R, .slice va vn vc]] w (Ret4 (OnePost w K R T) w) := by
  have bb := belowAlloc w (.cells #[.int .i64 K, .int .i64 R, .slice va vn vc] 24)
  have q : Box3 (w.alloc (.cells #[.int .i64 K, .int .i64 R, .slice va vn vc] 24)) w.heap.size (.int .i64 K) (.int .i64 R) (.slice va vn vc) := by simp [Box3, go_sem]
  obtain ⟨f0, R0, n02, o02⟩ := ((Rows.void w.heap.size w).below bb).box4 (0, 2) (by simp) 42 (.int .i64 0) (.slice none 0 0) (.slice none 0 0) (.slice none 0 0)
  obtain ⟨f1, R1, n03, o03⟩ := R0.box4 (0, 3) (by simp; omega) 42 (.int .i64 0) (.slice none 0 0) (.slice none 0 0) (.slice none 0 0)
  replace n02 := (o03 (0, 2) (by decide)).trans n02
  simp only [World.size_alloc] at n02 n03
  have b0 : Below w.heap.size w (((w.alloc (.cells #[.int .i64 K, .int .i64 R, .slice va vn vc] 24)).alloc (.cells #[.int .i64 0, .slice none 0 0, .slice none 0 0, .slice none 0 0] 42)).alloc (.cells #[.int .i64 0, .slice none 0 0, .slice none 0 0, .slice none 0 0] 42)) := Below.step bb (Below.step (belowAlloc _ _) (belowAlloc _ _))
  replace q := q.below (Below.step (belowAlloc _ (.cells #[.int .i64 0, .slice none 0 0, .slice none 0 0, .slice none 0 0] 42)) (belowAlloc _ (.cells #[.int .i64 0, .slice none 0 0, .slice none 0 0, .slice none 0 0] 42)))
  clear o02 o03 R0 bb
  have hk1 := hr.k1
  have hokW := wk_ok hr
  have hlW := wk_small hr hl
  have hRW := wk_pos R
  have hN81 := nodes_le hokW hRW hlW
  have hN1 := pw_pos (K := K) (2 * wkR R) hk1
  obtain ⟨hdiv, hlen⟩ := hokW.half
  have hNK : pw K (2 * wkR R) * K ≤ 256 := by rw [← hlen]; exact hlW
  have hck := pairG_check (K := K) (N := pw K (2 * wkR R)) (T := wkT K R T) (by omega) hN81 hNK
  have hokG : GraphOk (pairG K (pw K (2 * wkR R)) (wkT K R T)) := pairG_ok (by omega)
  have hsz : ∀ k, k < (pairG K (pw K (2 * wkR R)) (wkT K R T)).length → ((pairG K (pw K (2 * wkR R)) (wkT K R T)).getD k []).length ≤ 17592186044416 := fun k hk => by
    rw [pairG_len] at hk
    rw [pairG_row hk, castI_len]
    have := pairL_len K (pw K (2 * wkR R)) (wkT K R T) k
    have h4 := hr.k4
    have := Nat.mul_le_mul h4 h4
    omega
  have hgraph := fun (w' : World) (hgl : Glob r w') (hT : IntsAt w' (.slice va vn vc) T) => pgraph_ok r K R va vn vc T w' hgl hT hr hl
  have hapart := fun (w' : World) (hgl : Glob r w') (hT : IntsAt w' (.slice va vn vc) T) => papart_ok r K R va vn vc T w' hgl hT hr hl
  have hlenG := pairG_len (K := K) (N := pw K (2 * wkR R)) (T := wkT K R T)
  have hodd := fun (L : List Nat) (hL : LiveList (pw K (2 * wkR R) * pw K (2 * wkR R)) (adjOf (pairG K (pw K (2 * wkR R)) (wkT K R T))) L) => odd_none hr hL
  have hone : ∀ (l : List Nat) (v : Nat) (m L C Q : List Nat), LiveList (pw K (2 * wkR R) * pw K (2 * wkR R)) (adjOf (pairG K (pw K (2 * wkR R)) (wkT K R T))) l → oddL K R l = v :: m → WitIs (pairG K (pw K (2 * wkR R)) (wkT K R T)) v L C Q → OneIs K R T L C Q := fun l v m L C Q h1 h2 h3 => ⟨l, v, m, h1, h2, h3⟩
  have hsub : ∀ (L : List Nat) (v : Nat) (m : List Nat), oddL K R L = v :: m → v ∈ L := fun L v m e => (List.mem_filter.1 (show v ∈ oddL K R L by rw [e]; exact List.mem_cons_self)).1
  have hwit := fun (ga : Option Addr) (gc v : Nat) (w' : World) (hgl : Glob r w') (hT : ListsAt w' (.slice ga (pairG K (pw K (2 * wkR R)) (wkT K R T)).length gc) (pairG K (pw K (2 * wkR R)) (wkT K R T))) (hv : v < (pairG K (pw K (2 * wkR R)) (wkT K R T)).length) (hli : IsLive (pairG K (pw K (2 * wkR R)) (wkT K R T)).length (adjOf (pairG K (pw K (2 * wkR R)) (wkT K R T))) v) => witness_ok r K (pw K (2 * wkR R)) ga gc _ v w' hgl hT hsz hck hokG hlenG hN1 hN81 hk1 hv hli
  replace hgraph := Lib.hid hgraph
  replace hapart := Lib.hid hapart
  replace hodd := Lib.hid hodd
  replace hone := Lib.hid hone
  replace hsub := Lib.hid hsub
  replace hwit := Lib.hid hwit
  replace hlenG := Lib.hid hlenG
  clear hdiv hlen hNK hck hokG hsz hokW hlW hRW hN81 hl
  replace hg := Lib.hid (hg.below b0)
  replace h := Lib.hid (h.below b0)
  replace hr := Lib.hid hr
  obtain ⟨⟨z0, z1, z2⟩, -, -, -⟩ := q
  have q0 := z0
  replace R1 := Lib.hid R1
  replace n02 := Lib.hid n02
  replace n03 := Lib.hid n03
  replace b0 := Lib.hid b0
  go_enter Tryz.func18, Tryz.ntmps18
  go_wp2_with fail
  refine (hgraph.out _ hg.out h.out).mono ?_
  rintro e w1 ⟨gv, y, rfl, b1, rfl, fg, vals, hrows, hwn⟩
  have hL : ListsAt w1 gv (pairG K (pw K (2 * wkR R)) (wkT K R T)) := hwn.lists hrows
  obtain ⟨ga, gc, rfl⟩ := hL.shape
  have c0 : w1.cell? ⟨w.heap.size, 0, none⟩ = some (.int .i64 K) := by rw [b1.cell (World.block_lt_of_cell? _ _ z0)]; exact z0
  have c1 : w1.cell? ⟨w.heap.size, 1, none⟩ = some (.int .i64 R) := by rw [b1.cell (World.block_lt_of_cell? _ _ z1)]; exact z1
  have c2 : w1.cell? ⟨w.heap.size, 2, none⟩ = some (.slice va vn vc) := by rw [b1.cell (World.block_lt_of_cell? _ _ z2)]; exact z2
  have b01 := Below.step b0.out b1
  replace hL := Lib.hid hL
  clear hrows hwn z0 z1 z2
  rw [hlenG.out]
  generalize hM : pw K (2 * wkR R) * pw K (2 * wkR R) = M at *
  replace hM := Lib.hid hM
  go_wp2_with fail
  refine (hapart.out w1 (hg.out.below b1) (h.out.below b1)).mono ?_
  rintro e w2 ⟨av, y, rfl, b2, rfl, L, hLL, how⟩
  have how2 : OwnI w1.heap.size w2 av (castI (oddL K R L)) := how
  clear how
  have hnone := hodd.out L hLL
  have b12 := Below.step b1 b2
  have b02 := Below.step b01 b2
  have R2 := R1.out.below b12
  have k0 : w2.cell? ⟨w.heap.size, 0, none⟩ = some (.int .i64 K) := by rw [b2.cell (World.block_lt_of_cell? _ _ c0)]; exact c0
  have lA := how2.at.len
  rw [castI_len] at lA
  have hsubL := hsub.out L
  have honeL := fun v m L' C' Q' e k => hone.out L v m L' C' Q' hLL e k
  have hmemL := hLL.mem
  replace hLL := Lib.hid hLL
  replace hsubL := Lib.hid hsubL
  replace honeL := Lib.hid honeL
  replace hmemL := Lib.hid hmemL
  clear c0 c1 c2
  cases hod : oddL K R L with
  | nil =>
    rw [hod] at hnone how2 lA
    have hno := hnone.1 rfl
    obtain ⟨aa, an, ac, rfl⟩ := how2.at.shape
    replace n02 := n02.out
    replace n03 := n03.out
    obtain ⟨g0, g1, g2, g3⟩ := R2.cells4 n02
    obtain ⟨h0, h1, h2, h3⟩ := R2.cells4 n03
    have fg0 := R2.frz4 n02 0
    have fh0 := R2.frz4 n03 0
    have fg1 := R2.frz4 n02 1
    have fh1 := R2.frz4 n03 1
    have fg2 := R2.frz4 n02 2
    have fh2 := R2.frz4 n03 2
    have fg3 := R2.frz4 n02 3
    have fh3 := R2.frz4 n03 3
    have c2 := R2.cells4 n02
    have c3 := R2.cells4 n03
    have lg0 := (R2.low4 n02).1
    have lh0 := (R2.low4 n03).1
    obtain ⟨f3, R3, m02, o3⟩ := R2.all4 n02 (.int .i64 0) (.slice none 0 0) (.slice none 0 0) (.slice none 0 0)
    have b15 := Below.all4 (g := w.heap.size + 1) b02 lg0 (.int .i64 0) (.slice none 0 0) (.slice none 0 0) (.slice none 0 0)
    have b16 := Below.all4 (g := w.heap.size + 2) b15 lh0 (.int .i64 0) (.slice none 0 0) (.slice none 0 0) (.slice none 0 0)
    replace hno := Lib.hid hno
    replace hod := Lib.hid hod
    replace how2 := Lib.hid how2
    replace R2 := Lib.hid R2
    replace R3 := Lib.hid R3
    replace n02 := Lib.hid n02
    replace n03 := Lib.hid n03
    replace m02 := Lib.hid m02
    clear o3 c2 c3 hnone
    go_wp2
    (try simp only [Exit.inBlock, Exit.then])
    refine bodyPost_ret (v := .tuple #[.bool true, zRow, zRow, .nilIface]) (by simp [results, Tryz.results18, go_sem, g0, g1, g2, g3, h0, h1, h2, h3]) rfl ?_
    exact ⟨_, _, _, _, rfl, b16, rfl, .inl ⟨rfl, rfl, rfl, hno.out⟩⟩
  | cons v m =>
    rw [hod] at hnone how2 lA
    have hno : NotOne K R T := Classical.byContradiction fun q => by have := hnone.2 q; cases this
    obtain ⟨aa, an, ac, rfl⟩ := how2.at.shape
    have hvL := hsubL.out v m hod
    obtain ⟨hvM, hvl⟩ := (hmemL.out v).1 hvL
    have iA : ∀ w', (Instr.indexAt 22 (.slice aa an ac) (.int .i64 0)).run Tryz.prog w' = .ok (.pointer (some (valAt (.slice aa an ac) 0))) w' := fun w' => how2.at.idx 0 (by simp [castI]) w'
    have cA := how2.at.cellD 0 (by simp [castI])
    rw [show (castI (v :: m)).getD 0 0 = (v : Int) from rfl] at cA
    have e0 : (((v :: m).length : Nat) : Int) = (m.length : Int) + 1 := by simp
    rw [e0] at lA
    have e1 : ((m.length : Int) + 1 == 0) = false := by rw [beq_eq_false_iff_ne]; omega
    have hwv := fun (w' : World) (hgl : Glob r w') (hT : ListsAt w' (.slice ga M gc) (pairG K (pw K (2 * wkR R)) (wkT K R T))) => hwit.out ga gc v w' hgl (by rw [hlenG.out]; exact hT) (by rw [hlenG.out]; exact hvM) (by rw [hlenG.out]; exact hvl)
    rw [hlenG.out] at hwv
    have hG2 := hg.out.below b12
    have hL2 : ListsAt w2 (.slice ga M gc) (pairG K (pw K (2 * wkR R)) (wkT K R T)) := by
      have := hL.out.below b2
      rwa [hlenG.out] at this
    replace hwv := Lib.hid hwv
    replace hG2 := Lib.hid hG2
    replace hL2 := Lib.hid hL2
    replace hno := Lib.hid hno
    replace hvL := Lib.hid hvL
    replace hvl := Lib.hid hvl
    replace how2 := Lib.hid how2
    replace R2 := Lib.hid R2
    clear hnone e0
    generalize valAt (.slice aa an ac) 0 = ra at *
    replace hod := Lib.hid hod
    go_upto_region 7 with fail
    go_cut [7, 9, 10] from 39 (fun s7 s9 s10 wx => s7 = .nilIface ∧ ∃ (g9 g10 : Nat) (L C Q : List Nat) (aL aC aQ bL bC bQ : Value) (f : Names), s9 = .pointer (some ⟨g9, 0, none⟩) ∧ s10 = .pointer (some ⟨g10, 0, none⟩) ∧ Below w.heap.size w wx ∧ WitIs (pairG K (pw K (2 * wkR R)) (wkT K R T)) v L C Q ∧ Rows w.heap.size wx f ∧ f (0, 2) = some (box4 42 (w.heap.size + 1) [.int .i64 0, .slice none 0 0, .slice none 0 0, .slice none 0 0]) ∧ f (0, 3) = some (box4 42 (w.heap.size + 2) [.int .i64 0, .slice none 0 0, .slice none 0 0, .slice none 0 0]) ∧ f (9, 0) = some (box4 42 g9 [.int .i64 0, aL, aC, aQ]) ∧ f (9, 1) = some (box4 42 g10 [.int .i64 0, bL, bC, bQ]) ∧ f (1, 0) = some (rowI aL (sideA K (pw K (2 * wkR R)) L)) ∧ f (1, 1) = some (rowI bL (sideB K (pw K (2 * wkR R)) L)) ∧ f (2, 0) = some (rowI aC (sideA K (pw K (2 * wkR R)) C)) ∧ f (2, 1) = some (rowI bC (sideB K (pw K (2 * wkR R)) C)) ∧ f (3, 0) = some (rowI aQ (sideA K (pw K (2 * wkR R)) Q)) ∧ f (3, 1) = some (rowI bQ (sideB K (pw K (2 * wkR R)) Q)))
    case first =>
      obtain ⟨W0, hW0⟩ : ∃ W0 : World, W0 = w2.drew := ⟨_, rfl⟩
      have b20 : Below w2.heap.size w2 W0 := by rw [hW0]; exact (Below.refl _ _).drew
      have bW0 : Below w.heap.size w W0 := by rw [hW0]; exact b02.drew
      have RW0 : Rows w.heap.size W0 f1 := by rw [hW0]; exact R2.out.drew
      have hB0 := bW0.size
      have hS0 : W0.cell? ⟨w.heap.size, 0, none⟩ = some (.int .i64 K) ∧ W0.cell? ra = some (.int .i64 v) := by rw [hW0]; exact ⟨k0, cA⟩
      have hlow : w.heap.size < w2.heap.size ∧ ra.block < w2.heap.size := ⟨World.block_lt_of_cell? _ _ k0, World.block_lt_of_cell? _ _ cA⟩
      replace n02 := n02.out
      replace n03 := n03.out
      refine wp_region_noPanic ?_
      refine wp_region_any (by kernel_rfl) ?_
      change wpAny _ _ _ _ _ _ _ (World.drew _)
      rw [← hW0]
      clear hW0 k0 cA b02 R2
      refine wpAny_of_held (S := fun w' => w'.cell? ⟨w.heap.size, 0, none⟩ = some (.int .i64 K) ∧ w'.cell? ra = some (.int .i64 v)) _ _ _ _ ?_
      refine takeD (i := 0) (v := ?_) (some 40) rfl rfl (by kernel_rfl) (by kernel_rfl) (by kernel_rfl) (fun _ _ _ h => h) (Or.inl ⟨by rfl, ?_⟩) hS0 ?_
      rotate_left
      · rintro W' ⟨s0, s1⟩; go_simp; try with_reducible rfl
      simp only [Act.put, List.setIfInBounds_toArray, List.set_cons_zero, List.set_cons_succ]
      refine takeD (i := 1) (v := ?_) (some 41) rfl rfl (by kernel_rfl) (by kernel_rfl) (by kernel_rfl) (fun _ _ _ h => h) (Or.inl ⟨by rfl, ?_⟩) hS0 ?_
      rotate_left
      · rintro W' ⟨s0, s1⟩; go_simp; try with_reducible rfl
      simp only [Act.put, List.setIfInBounds_toArray, List.set_cons_zero, List.set_cons_succ]
      refine takeD (i := 2) (v := ?_) (some 42) rfl rfl (by kernel_rfl) (by kernel_rfl) (by kernel_rfl) (fun _ _ _ h => h) (Or.inl ⟨by rfl, ?_⟩) hS0 ?_
      rotate_left
      · rintro W' ⟨s0, s1⟩; go_simp; try with_reducible rfl
      simp only [Act.put, List.setIfInBounds_toArray, List.set_cons_zero, List.set_cons_succ]
      refine takeD (i := 3) (v := ?_) (some 43) rfl rfl (by kernel_rfl) (by kernel_rfl) (by kernel_rfl) (fun _ _ _ h => h) (Or.inl ⟨by rfl, ?_⟩) hS0 ?_
      rotate_left
      · rintro W' ⟨s0, s1⟩; go_simp; try with_reducible rfl
      simp only [Act.put, List.setIfInBounds_toArray, List.set_cons_zero, List.set_cons_succ]
      refine takeD (i := 4) (v := ?_) (some 44) rfl rfl (by kernel_rfl) (by kernel_rfl) (by kernel_rfl) (fun _ _ _ h => h) (Or.inl ⟨by rfl, ?_⟩) hS0 ?_
      rotate_left
      · rintro W' ⟨s0, s1⟩; go_simp; try with_reducible rfl
      simp only [Act.put, List.setIfInBounds_toArray, List.set_cons_zero, List.set_cons_succ]
      refine takeD (i := 5) (v := ?_) (some 45) rfl rfl (by kernel_rfl) (by kernel_rfl) (by kernel_rfl) (fun _ _ _ h => h) (Or.inl ⟨by rfl, ?_⟩) hS0 ?_
      rotate_left
      · rintro W' ⟨s0, s1⟩; go_simp; try with_reducible rfl
      simp only [Act.put, List.setIfInBounds_toArray, List.set_cons_zero, List.set_cons_succ]
      refine wpAnyH_ready (rs := [6, 11, 12]) (by kernel_rfl) (by simp) (AllReadyH.cons rfl (fun KK hK => ?_) (AllReadyH.cons rfl (fun KK hK => ?_) (AllReadyH.cons rfl (fun KK hK => ?_) (AllReadyH.nil))))
      · go_simp
        refine (hwv.out W0 (hG2.out.below b20) (hL2.out.below b20)).mono ?_
        rintro e W1 ⟨x, y, z, rfl, bb, hz, L', C', Q', aL, aC, aQ, bL, bC, bQ, hwi, rfl, rfl, fw, Rw, k10, k11, k20, k21, k30, k31⟩
        subst hz
        obtain ⟨aLa, aLn, aLc, haL⟩ := (Rw.ownI k10).at.shape
        subst haL
        obtain ⟨bLa, bLn, bLc, hbL⟩ := (Rw.ownI k11).at.shape
        subst hbL
        obtain ⟨aCa, aCn, aCc, haC⟩ := (Rw.ownI k20).at.shape
        subst haC
        obtain ⟨bCa, bCn, bCc, hbC⟩ := (Rw.ownI k21).at.shape
        subst hbC
        obtain ⟨aQa, aQn, aQc, haQ⟩ := (Rw.ownI k30).at.shape
        subst haQ
        obtain ⟨bQa, bQn, bQc, hbQ⟩ := (Rw.ownI k31).at.shape
        subst hbQ
        obtain ⟨f1, RW1, sel, oth⟩ := RW0.merge (fun i => decide (i.1 = 1 ∨ i.1 = 2 ∨ i.1 = 3)) bb Rw hB0
        replace n02 := (oth (0, 2) (by decide)).trans n02
        replace n03 := (oth (0, 3) (by decide)).trans n03
        have n10 := (sel (1, 0) (by decide)).trans k10
        have n11 := (sel (1, 1) (by decide)).trans k11
        have n20 := (sel (2, 0) (by decide)).trans k20
        have n21 := (sel (2, 1) (by decide)).trans k21
        have n30 := (sel (3, 0) (by decide)).trans k30
        have n31 := (sel (3, 1) (by decide)).trans k31
        replace hwi := Lib.hid hwi
        clear sel oth k10 k11 k20 k21 k30 k31 Rw
        have bW1 := bW0.trans (bb.mono hB0)
        have b21 := Below.step b20 bb
        have hB1 := bW1.size
        have hS1 : W1.cell? ⟨w.heap.size, 0, none⟩ = some (.int .i64 K) ∧ W1.cell? ra = some (.int .i64 v) := ⟨by rw [b21.cell hlow.1, ← b20.cell hlow.1]; exact hS0.1, by rw [b21.cell hlow.2, ← b20.cell hlow.2]; exact hS0.2⟩
        refine hK.out _ _ hS1 fun _ => ?_
        clear hK KK bb RW0
        refine takeD (i := 7) (v := ?_) (some 39) rfl rfl (by kernel_rfl) (by kernel_rfl) (by kernel_rfl) (fun _ _ _ h => h) (Or.inl ⟨by rfl, ?_⟩) hS1 ?_
        rotate_left
        · rintro W' ⟨s0, s1⟩; go_simp; try with_reducible rfl
        simp only [Act.put, List.setIfInBounds_toArray, List.set_cons_zero, List.set_cons_succ]
        refine takeD (i := 8) (v := ?_) (some 47) rfl rfl (by kernel_rfl) (by kernel_rfl) (by kernel_rfl) (fun _ _ _ h => h) (Or.inl ⟨by rfl, ?_⟩) hS1 ?_
        rotate_left
        · rintro W' ⟨s0, s1⟩; go_simp; try with_reducible rfl
        simp only [Act.put, List.setIfInBounds_toArray, List.set_cons_zero, List.set_cons_succ]
        refine takeD (i := 9) (v := ?_) (some 48) rfl rfl (by kernel_rfl) (by kernel_rfl) (by kernel_rfl) (fun _ _ _ h => h) (Or.inl ⟨by rfl, ?_⟩) hS1 ?_
        rotate_left
        · rintro W' ⟨s0, s1⟩; go_simp; try with_reducible rfl
        simp only [Act.put, List.setIfInBounds_toArray, List.set_cons_zero, List.set_cons_succ]
        refine takeD (i := 10) (v := ?_) (some 49) rfl rfl (by kernel_rfl) (by kernel_rfl) (by kernel_rfl) (fun _ _ _ h => h) (Or.inl ⟨by rfl, ?_⟩) hS1 ?_
        rotate_left
        · rintro W' ⟨s0, s1⟩; go_simp; try with_reducible rfl
        simp only [Act.put, List.setIfInBounds_toArray, List.set_cons_zero, List.set_cons_succ]
        refine wpAnyH_ready (rs := [11, 12]) (by kernel_rfl) (by simp) (AllReadyH.cons rfl (fun KK hK => ?_) (AllReadyH.cons rfl (fun KK hK => ?_) (AllReadyH.nil)))
        · go_simp
          obtain ⟨f2, RW2, n90, oo⟩ := RW1.box4 (9, 0) hB1 42 (.int .i64 0) (.slice none 0 0) (.slice none 0 0) (.slice none 0 0)
          replace n02 := (oo (0, 2) (by decide)).trans n02
          replace n03 := (oo (0, 3) (by decide)).trans n03
          replace n10 := (oo (1, 0) (by decide)).trans n10
          replace n11 := (oo (1, 1) (by decide)).trans n11
          replace n20 := (oo (2, 0) (by decide)).trans n20
          replace n21 := (oo (2, 1) (by decide)).trans n21
          replace n30 := (oo (3, 0) (by decide)).trans n30
          replace n31 := (oo (3, 1) (by decide)).trans n31
          have bb := belowAlloc W1 (.cells #[.int .i64 0, .slice none 0 0, .slice none 0 0, .slice none 0 0] 42)
          obtain ⟨gb9, hgb9⟩ : ∃ g, W1.heap.size = g := ⟨_, rfl⟩
          obtain ⟨W2, hW2⟩ : ∃ W' : World, W1.alloc (.cells #[.int .i64 0, .slice none 0 0, .slice none 0 0, .slice none 0 0] 42) = W' := ⟨_, rfl⟩
          have lgb9 : w2.heap.size ≤ gb9 := by rw [← hgb9]; exact b21.size
          have bW2 := bW1.trans (bb.mono hB1)
          have b22 := Below.step b21 bb
          rw [hW2] at RW2 bW2 b22 bb
          have hB2 := bW2.size
          have hS2 : W2.cell? ⟨w.heap.size, 0, none⟩ = some (.int .i64 K) ∧ W2.cell? ra = some (.int .i64 v) := ⟨by rw [b22.cell hlow.1, ← b21.cell hlow.1]; exact hS1.1, by rw [b22.cell hlow.2, ← b21.cell hlow.2]; exact hS1.2⟩
          rw [hW2, hgb9]
          rw [hgb9] at n90
          replace hW2 := Lib.hid hW2
          replace hgb9 := Lib.hid hgb9
          refine hK.out _ _ hS2 fun _ => ?_
          clear hK KK bb RW1 oo
          refine wpAnyH_ready (rs := [12]) (by kernel_rfl) (by simp) (AllReadyH.cons rfl (fun KK hK => ?_) (AllReadyH.nil))
          · go_simp
            obtain ⟨f3, RW3, n91, oo⟩ := RW2.box4 (9, 1) hB2 42 (.int .i64 0) (.slice none 0 0) (.slice none 0 0) (.slice none 0 0)
            replace n02 := (oo (0, 2) (by decide)).trans n02
            replace n03 := (oo (0, 3) (by decide)).trans n03
            replace n10 := (oo (1, 0) (by decide)).trans n10
            replace n11 := (oo (1, 1) (by decide)).trans n11
            replace n20 := (oo (2, 0) (by decide)).trans n20
            replace n21 := (oo (2, 1) (by decide)).trans n21
            replace n30 := (oo (3, 0) (by decide)).trans n30
            replace n31 := (oo (3, 1) (by decide)).trans n31
            replace n90 := (oo (9, 0) (by decide)).trans n90
            have bb := belowAlloc W2 (.cells #[.int .i64 0, .slice none 0 0, .slice none 0 0, .slice none 0 0] 42)
            obtain ⟨gb10, hgb10⟩ : ∃ g, W2.heap.size = g := ⟨_, rfl⟩
            obtain ⟨W3, hW3⟩ : ∃ W' : World, W2.alloc (.cells #[.int .i64 0, .slice none 0 0, .slice none 0 0, .slice none 0 0] 42) = W' := ⟨_, rfl⟩
            have lgb10 : w2.heap.size ≤ gb10 := by rw [← hgb10]; exact b22.size
            have bW3 := bW2.trans (bb.mono hB2)
            have b23 := Below.step b22 bb
            rw [hW3] at RW3 bW3 b23 bb
            have hB3 := bW3.size
            have hS3 : W3.cell? ⟨w.heap.size, 0, none⟩ = some (.int .i64 K) ∧ W3.cell? ra = some (.int .i64 v) := ⟨by rw [b23.cell hlow.1, ← b22.cell hlow.1]; exact hS2.1, by rw [b23.cell hlow.2, ← b22.cell hlow.2]; exact hS2.2⟩
            rw [hW3, hgb10]
            rw [hgb10] at n91
            replace hW3 := Lib.hid hW3
            replace hgb10 := Lib.hid hgb10
            refine hK.out _ _ hS3 fun _ => ?_
            clear hK KK bb RW2 oo
            obtain ⟨t0, t1, t2, t3⟩ := RW3.cells4 n90
            have ft0 := RW3.frz4 n90 0
            have ft1 := RW3.frz4 n90 1
            have ft2 := RW3.frz4 n90 2
            have ft3 := RW3.frz4 n90 3
            have lt := (RW3.low4 n90)
            obtain ⟨f4, RW4, mm, oo⟩ := RW3.all4 n90 (.int .i64 0) (.slice aLa aLn aLc) (.slice aCa aCn aCc) (.slice aQa aQn aQc)
            replace n02 := (oo (0, 2) (by decide)).trans n02
            replace n03 := (oo (0, 3) (by decide)).trans n03
            replace n10 := (oo (1, 0) (by decide)).trans n10
            replace n11 := (oo (1, 1) (by decide)).trans n11
            replace n20 := (oo (2, 0) (by decide)).trans n20
            replace n21 := (oo (2, 1) (by decide)).trans n21
            replace n30 := (oo (3, 0) (by decide)).trans n30
            replace n31 := (oo (3, 1) (by decide)).trans n31
            replace n91 := (oo (9, 1) (by decide)).trans n91
            clear n90
            have n90 := mm
            have bW4 := Below.all4 (g := gb9) bW3 lt.1 (.int .i64 0) (.slice aLa aLn aLc) (.slice aCa aCn aCc) (.slice aQa aQn aQc)
            have b24 := Below.all4 (g := gb9) b23 lgb9 (.int .i64 0) (.slice aLa aLn aLc) (.slice aCa aCn aCc) (.slice aQa aQn aQc)
            obtain ⟨W4, hW4⟩ : ∃ W' : World, (((W3.setCell ⟨gb9, 0, none⟩ (.int .i64 0)).setCell ⟨gb9, 1, none⟩ (.slice aLa aLn aLc)).setCell ⟨gb9, 2, none⟩ (.slice aCa aCn aCc)).setCell ⟨gb9, 3, none⟩ (.slice aQa aQn aQc) = W' := ⟨_, rfl⟩
            rw [hW4] at RW4 bW4 b24
            have hS4 : W4.cell? ⟨w.heap.size, 0, none⟩ = some (.int .i64 K) ∧ W4.cell? ra = some (.int .i64 v) := ⟨by rw [b24.cell hlow.1, ← b23.cell hlow.1]; exact hS3.1, by rw [b24.cell hlow.2, ← b23.cell hlow.2]; exact hS3.2⟩
            replace hW4 := Lib.hid hW4
            refine wpAnyH_ready (rs := [13]) (by kernel_rfl) (by simp) (AllReadyH.cons rfl (fun KK hK => ?_) AllReadyH.nil)
            go_simp
            rw [hW4.out]
            refine hK.out _ _ hS4 fun _ => ?_
            clear hK KK t0 t1 t2 t3 ft0 ft1 ft2 ft3 mm oo lt RW3 hW4
            obtain ⟨t0, t1, t2, t3⟩ := RW4.cells4 n91
            have ft0 := RW4.frz4 n91 0
            have ft1 := RW4.frz4 n91 1
            have ft2 := RW4.frz4 n91 2
            have ft3 := RW4.frz4 n91 3
            have lt := (RW4.low4 n91)
            obtain ⟨f5, RW5, mm, oo⟩ := RW4.all4 n91 (.int .i64 0) (.slice bLa bLn bLc) (.slice bCa bCn bCc) (.slice bQa bQn bQc)
            replace n02 := (oo (0, 2) (by decide)).trans n02
            replace n03 := (oo (0, 3) (by decide)).trans n03
            replace n10 := (oo (1, 0) (by decide)).trans n10
            replace n11 := (oo (1, 1) (by decide)).trans n11
            replace n20 := (oo (2, 0) (by decide)).trans n20
            replace n21 := (oo (2, 1) (by decide)).trans n21
            replace n30 := (oo (3, 0) (by decide)).trans n30
            replace n31 := (oo (3, 1) (by decide)).trans n31
            replace n90 := (oo (9, 0) (by decide)).trans n90
            clear n91
            have n91 := mm
            have bW5 := Below.all4 (g := gb10) bW4 lt.1 (.int .i64 0) (.slice bLa bLn bLc) (.slice bCa bCn bCc) (.slice bQa bQn bQc)
            have b25 := Below.all4 (g := gb10) b24 lgb10 (.int .i64 0) (.slice bLa bLn bLc) (.slice bCa bCn bCc) (.slice bQa bQn bQc)
            obtain ⟨W5, hW5⟩ : ∃ W' : World, (((W4.setCell ⟨gb10, 0, none⟩ (.int .i64 0)).setCell ⟨gb10, 1, none⟩ (.slice bLa bLn bLc)).setCell ⟨gb10, 2, none⟩ (.slice bCa bCn bCc)).setCell ⟨gb10, 3, none⟩ (.slice bQa bQn bQc) = W' := ⟨_, rfl⟩
            rw [hW5] at RW5 bW5 b25
            have hS5 : W5.cell? ⟨w.heap.size, 0, none⟩ = some (.int .i64 K) ∧ W5.cell? ra = some (.int .i64 v) := ⟨by rw [b25.cell hlow.1, ← b24.cell hlow.1]; exact hS4.1, by rw [b25.cell hlow.2, ← b24.cell hlow.2]; exact hS4.2⟩
            replace hW5 := Lib.hid hW5
            refine wpAnyH_ready (rs := [14]) (by kernel_rfl) (by simp) (AllReadyH.cons rfl (fun KK hK => ?_) AllReadyH.nil)
            go_simp
            rw [hW5.out]
            refine hK.out _ _ hS5 fun _ => ?_
            clear hK KK t0 t1 t2 t3 ft0 ft1 ft2 ft3 mm oo lt RW4 hW5
            refine takeD (i := 15) (v := ?_) (some 7) rfl rfl (by kernel_rfl) (by kernel_rfl) (by kernel_rfl) (fun _ _ _ h => h) (Or.inl ⟨by rfl, ?_⟩) hS5 ?_
            rotate_left
            · rintro W' ⟨s0, s1⟩; go_simp; try with_reducible rfl
            simp only [Act.put, List.setIfInBounds_toArray, List.set_cons_zero, List.set_cons_succ]
            refine wpAnyH_done (by kernel_rfl) ?_ _
            refine NoPanic.normal ?_
            replace n02 := Lib.hid n02
            replace n03 := Lib.hid n03
            replace n90 := Lib.hid n90
            replace n91 := Lib.hid n91
            replace n10 := Lib.hid n10
            replace n11 := Lib.hid n11
            replace n20 := Lib.hid n20
            replace n21 := Lib.hid n21
            replace n30 := Lib.hid n30
            replace n31 := Lib.hid n31
            replace RW5 := Lib.hid RW5
            go_wp2
            go_meet
            case rel => exact ⟨rfl, gb9, gb10, L', C', Q', _, _, _, _, _, _, f5, rfl, rfl, bW5, hwi.out, RW5.out, n02.out, n03.out, n90.out, n91.out, n10.out, n11.out, n20.out, n21.out, n30.out, n31.out⟩
        · go_simp
          obtain ⟨f6, RW6, n91, oo⟩ := RW1.box4 (9, 1) hB1 42 (.int .i64 0) (.slice none 0 0) (.slice none 0 0) (.slice none 0 0)
          replace n02 := (oo (0, 2) (by decide)).trans n02
          replace n03 := (oo (0, 3) (by decide)).trans n03
          replace n10 := (oo (1, 0) (by decide)).trans n10
          replace n11 := (oo (1, 1) (by decide)).trans n11
          replace n20 := (oo (2, 0) (by decide)).trans n20
          replace n21 := (oo (2, 1) (by decide)).trans n21
          replace n30 := (oo (3, 0) (by decide)).trans n30
          replace n31 := (oo (3, 1) (by decide)).trans n31
          have bb := belowAlloc W1 (.cells #[.int .i64 0, .slice none 0 0, .slice none 0 0, .slice none 0 0] 42)
          obtain ⟨gb10, hgb10⟩ : ∃ g, W1.heap.size = g := ⟨_, rfl⟩
          obtain ⟨W6, hW6⟩ : ∃ W' : World, W1.alloc (.cells #[.int .i64 0, .slice none 0 0, .slice none 0 0, .slice none 0 0] 42) = W' := ⟨_, rfl⟩
          have lgb10 : w2.heap.size ≤ gb10 := by rw [← hgb10]; exact b21.size
          have bW6 := bW1.trans (bb.mono hB1)
          have b26 := Below.step b21 bb
          rw [hW6] at RW6 bW6 b26 bb
          have hB6 := bW6.size
          have hS6 : W6.cell? ⟨w.heap.size, 0, none⟩ = some (.int .i64 K) ∧ W6.cell? ra = some (.int .i64 v) := ⟨by rw [b26.cell hlow.1, ← b21.cell hlow.1]; exact hS1.1, by rw [b26.cell hlow.2, ← b21.cell hlow.2]; exact hS1.2⟩
          rw [hW6, hgb10]
          rw [hgb10] at n91
          replace hW6 := Lib.hid hW6
          replace hgb10 := Lib.hid hgb10
          refine hK.out _ _ hS6 fun _ => ?_
          clear hK KK bb RW1 oo
          refine wpAnyH_ready (rs := [11]) (by kernel_rfl) (by simp) (AllReadyH.cons rfl (fun KK hK => ?_) (AllReadyH.nil))
          · go_simp
            obtain ⟨f7, RW7, n90, oo⟩ := RW6.box4 (9, 0) hB6 42 (.int .i64 0) (.slice none 0 0) (.slice none 0 0) (.slice none 0 0)
            replace n02 := (oo (0, 2) (by decide)).trans n02
            replace n03 := (oo (0, 3) (by decide)).trans n03
            replace n10 := (oo (1, 0) (by decide)).trans n10
            replace n11 := (oo (1, 1) (by decide)).trans n11
            replace n20 := (oo (2, 0) (by decide)).trans n20
            replace n21 := (oo (2, 1) (by decide)).trans n21
            replace n30 := (oo (3, 0) (by decide)).trans n30
            replace n31 := (oo (3, 1) (by decide)).trans n31
            replace n91 := (oo (9, 1) (by decide)).trans n91
            have bb := belowAlloc W6 (.cells #[.int .i64 0, .slice none 0 0, .slice none 0 0, .slice none 0 0] 42)
            obtain ⟨gb9, hgb9⟩ : ∃ g, W6.heap.size = g := ⟨_, rfl⟩
            obtain ⟨W7, hW7⟩ : ∃ W' : World, W6.alloc (.cells #[.int .i64 0, .slice none 0 0, .slice none 0 0, .slice none 0 0] 42) = W' := ⟨_, rfl⟩
            have lgb9 : w2.heap.size ≤ gb9 := by rw [← hgb9]; exact b26.size
            have bW7 := bW6.trans (bb.mono hB6)
            have b27 := Below.step b26 bb
            rw [hW7] at RW7 bW7 b27 bb
            have hB7 := bW7.size
            have hS7 : W7.cell? ⟨w.heap.size, 0, none⟩ = some (.int .i64 K) ∧ W7.cell? ra = some (.int .i64 v) := ⟨by rw [b27.cell hlow.1, ← b26.cell hlow.1]; exact hS6.1, by rw [b27.cell hlow.2, ← b26.cell hlow.2]; exact hS6.2⟩
            rw [hW7, hgb9]
            rw [hgb9] at n90
            replace hW7 := Lib.hid hW7
            replace hgb9 := Lib.hid hgb9
            refine hK.out _ _ hS7 fun _ => ?_
            clear hK KK bb RW6 oo
            obtain ⟨t0, t1, t2, t3⟩ := RW7.cells4 n90
            have ft0 := RW7.frz4 n90 0
            have ft1 := RW7.frz4 n90 1
            have ft2 := RW7.frz4 n90 2
            have ft3 := RW7.frz4 n90 3
            have lt := (RW7.low4 n90)
            obtain ⟨f8, RW8, mm, oo⟩ := RW7.all4 n90 (.int .i64 0) (.slice aLa aLn aLc) (.slice aCa aCn aCc) (.slice aQa aQn aQc)
            replace n02 := (oo (0, 2) (by decide)).trans n02
            replace n03 := (oo (0, 3) (by decide)).trans n03
            replace n10 := (oo (1, 0) (by decide)).trans n10
            replace n11 := (oo (1, 1) (by decide)).trans n11
            replace n20 := (oo (2, 0) (by decide)).trans n20
            replace n21 := (oo (2, 1) (by decide)).trans n21
            replace n30 := (oo (3, 0) (by decide)).trans n30
            replace n31 := (oo (3, 1) (by decide)).trans n31
            replace n91 := (oo (9, 1) (by decide)).trans n91
            clear n90
            have n90 := mm
            have bW8 := Below.all4 (g := gb9) bW7 lt.1 (.int .i64 0) (.slice aLa aLn aLc) (.slice aCa aCn aCc) (.slice aQa aQn aQc)
            have b28 := Below.all4 (g := gb9) b27 lgb9 (.int .i64 0) (.slice aLa aLn aLc) (.slice aCa aCn aCc) (.slice aQa aQn aQc)
            obtain ⟨W8, hW8⟩ : ∃ W' : World, (((W7.setCell ⟨gb9, 0, none⟩ (.int .i64 0)).setCell ⟨gb9, 1, none⟩ (.slice aLa aLn aLc)).setCell ⟨gb9, 2, none⟩ (.slice aCa aCn aCc)).setCell ⟨gb9, 3, none⟩ (.slice aQa aQn aQc) = W' := ⟨_, rfl⟩
            rw [hW8] at RW8 bW8 b28
            have hS8 : W8.cell? ⟨w.heap.size, 0, none⟩ = some (.int .i64 K) ∧ W8.cell? ra = some (.int .i64 v) := ⟨by rw [b28.cell hlow.1, ← b27.cell hlow.1]; exact hS7.1, by rw [b28.cell hlow.2, ← b27.cell hlow.2]; exact hS7.2⟩
            replace hW8 := Lib.hid hW8
            refine wpAnyH_ready (rs := [13]) (by kernel_rfl) (by simp) (AllReadyH.cons rfl (fun KK hK => ?_) AllReadyH.nil)
            go_simp
            rw [hW8.out]
            refine hK.out _ _ hS8 fun _ => ?_
            clear hK KK t0 t1 t2 t3 ft0 ft1 ft2 ft3 mm oo lt RW7 hW8
            obtain ⟨t0, t1, t2, t3⟩ := RW8.cells4 n91
            have ft0 := RW8.frz4 n91 0
            have ft1 := RW8.frz4 n91 1
            have ft2 := RW8.frz4 n91 2
            have ft3 := RW8.frz4 n91 3
            have lt := (RW8.low4 n91)
            obtain ⟨f9, RW9, mm, oo⟩ := RW8.all4 n91 (.int .i64 0) (.slice bLa bLn bLc) (.slice bCa bCn bCc) (.slice bQa bQn bQc)
            replace n02 := (oo (0, 2) (by decide)).trans n02
            replace n03 := (oo (0, 3) (by decide)).trans n03
            replace n10 := (oo (1, 0) (by decide)).trans n10
            replace n11 := (oo (1, 1) (by decide)).trans n11
            replace n20 := (oo (2, 0) (by decide)).trans n20
            replace n21 := (oo (2, 1) (by decide)).trans n21
            replace n30 := (oo (3, 0) (by decide)).trans n30
            replace n31 := (oo (3, 1) (by decide)).trans n31
            replace n90 := (oo (9, 0) (by decide)).trans n90
            clear n91
            have n91 := mm
            have bW9 := Below.all4 (g := gb10) bW8 lt.1 (.int .i64 0) (.slice bLa bLn bLc) (.slice bCa bCn bCc) (.slice bQa bQn bQc)
            have b29 := Below.all4 (g := gb10) b28 lgb10 (.int .i64 0) (.slice bLa bLn bLc) (.slice bCa bCn bCc) (.slice bQa bQn bQc)
            obtain ⟨W9, hW9⟩ : ∃ W' : World, (((W8.setCell ⟨gb10, 0, none⟩ (.int .i64 0)).setCell ⟨gb10, 1, none⟩ (.slice bLa bLn bLc)).setCell ⟨gb10, 2, none⟩ (.slice bCa bCn bCc)).setCell ⟨gb10, 3, none⟩ (.slice bQa bQn bQc) = W' := ⟨_, rfl⟩
            rw [hW9] at RW9 bW9 b29
            have hS9 : W9.cell? ⟨w.heap.size, 0, none⟩ = some (.int .i64 K) ∧ W9.cell? ra = some (.int .i64 v) := ⟨by rw [b29.cell hlow.1, ← b28.cell hlow.1]; exact hS8.1, by rw [b29.cell hlow.2, ← b28.cell hlow.2]; exact hS8.2⟩
            replace hW9 := Lib.hid hW9
            refine wpAnyH_ready (rs := [14]) (by kernel_rfl) (by simp) (AllReadyH.cons rfl (fun KK hK => ?_) AllReadyH.nil)
            go_simp
            rw [hW9.out]
            refine hK.out _ _ hS9 fun _ => ?_
            clear hK KK t0 t1 t2 t3 ft0 ft1 ft2 ft3 mm oo lt RW8 hW9
            refine takeD (i := 15) (v := ?_) (some 7) rfl rfl (by kernel_rfl) (by kernel_rfl) (by kernel_rfl) (fun _ _ _ h => h) (Or.inl ⟨by rfl, ?_⟩) hS9 ?_
            rotate_left
            · rintro W' ⟨s0, s1⟩; go_simp; try with_reducible rfl
            simp only [Act.put, List.setIfInBounds_toArray, List.set_cons_zero, List.set_cons_succ]
            refine wpAnyH_done (by kernel_rfl) ?_ _
            refine NoPanic.normal ?_
            replace n02 := Lib.hid n02
            replace n03 := Lib.hid n03
            replace n90 := Lib.hid n90
            replace n91 := Lib.hid n91
            replace n10 := Lib.hid n10
            replace n11 := Lib.hid n11
            replace n20 := Lib.hid n20
            replace n21 := Lib.hid n21
            replace n30 := Lib.hid n30
            replace n31 := Lib.hid n31
            replace RW9 := Lib.hid RW9
            go_wp2
            go_meet
            case rel => exact ⟨rfl, gb9, gb10, L', C', Q', _, _, _, _, _, _, f9, rfl, rfl, bW9, hwi.out, RW9.out, n02.out, n03.out, n90.out, n91.out, n10.out, n11.out, n20.out, n21.out, n30.out, n31.out⟩
      · go_simp
        obtain ⟨f10, RW10, n90, oo⟩ := RW0.box4 (9, 0) hB0 42 (.int .i64 0) (.slice none 0 0) (.slice none 0 0) (.slice none 0 0)
        replace n02 := (oo (0, 2) (by decide)).trans n02
        replace n03 := (oo (0, 3) (by decide)).trans n03
        have bb := belowAlloc W0 (.cells #[.int .i64 0, .slice none 0 0, .slice none 0 0, .slice none 0 0] 42)
        obtain ⟨gb9, hgb9⟩ : ∃ g, W0.heap.size = g := ⟨_, rfl⟩
        obtain ⟨W10, hW10⟩ : ∃ W' : World, W0.alloc (.cells #[.int .i64 0, .slice none 0 0, .slice none 0 0, .slice none 0 0] 42) = W' := ⟨_, rfl⟩
        have lgb9 : w2.heap.size ≤ gb9 := by rw [← hgb9]; exact b20.size
        have bW10 := bW0.trans (bb.mono hB0)
        have b210 := Below.step b20 bb
        rw [hW10] at RW10 bW10 b210 bb
        have hB10 := bW10.size
        have hS10 : W10.cell? ⟨w.heap.size, 0, none⟩ = some (.int .i64 K) ∧ W10.cell? ra = some (.int .i64 v) := ⟨by rw [b210.cell hlow.1, ← b20.cell hlow.1]; exact hS0.1, by rw [b210.cell hlow.2, ← b20.cell hlow.2]; exact hS0.2⟩
        rw [hW10, hgb9]
        rw [hgb9] at n90
        replace hW10 := Lib.hid hW10
        replace hgb9 := Lib.hid hgb9
        refine hK.out _ _ hS10 fun _ => ?_
        clear hK KK bb RW0 oo
        refine wpAnyH_ready (rs := [6, 12]) (by kernel_rfl) (by simp) (AllReadyH.cons rfl (fun KK hK => ?_) (AllReadyH.cons rfl (fun KK hK => ?_) (AllReadyH.nil)))
        · go_simp
          refine (hwv.out W10 (hG2.out.below b210) (hL2.out.below b210)).mono ?_
          rintro e W11 ⟨x, y, z, rfl, bb, hz, L', C', Q', aL, aC, aQ, bL, bC, bQ, hwi, rfl, rfl, fw, Rw, k10, k11, k20, k21, k30, k31⟩
          subst hz
          obtain ⟨aLa, aLn, aLc, haL⟩ := (Rw.ownI k10).at.shape
          subst haL
          obtain ⟨bLa, bLn, bLc, hbL⟩ := (Rw.ownI k11).at.shape
          subst hbL
          obtain ⟨aCa, aCn, aCc, haC⟩ := (Rw.ownI k20).at.shape
          subst haC
          obtain ⟨bCa, bCn, bCc, hbC⟩ := (Rw.ownI k21).at.shape
          subst hbC
          obtain ⟨aQa, aQn, aQc, haQ⟩ := (Rw.ownI k30).at.shape
          subst haQ
          obtain ⟨bQa, bQn, bQc, hbQ⟩ := (Rw.ownI k31).at.shape
          subst hbQ
          obtain ⟨f11, RW11, sel, oth⟩ := RW10.merge (fun i => decide (i.1 = 1 ∨ i.1 = 2 ∨ i.1 = 3)) bb Rw hB10
          replace n02 := (oth (0, 2) (by decide)).trans n02
          replace n03 := (oth (0, 3) (by decide)).trans n03
          replace n90 := (oth (9, 0) (by decide)).trans n90
          have n10 := (sel (1, 0) (by decide)).trans k10
          have n11 := (sel (1, 1) (by decide)).trans k11
          have n20 := (sel (2, 0) (by decide)).trans k20
          have n21 := (sel (2, 1) (by decide)).trans k21
          have n30 := (sel (3, 0) (by decide)).trans k30
          have n31 := (sel (3, 1) (by decide)).trans k31
          replace hwi := Lib.hid hwi
          clear sel oth k10 k11 k20 k21 k30 k31 Rw
          have bW11 := bW10.trans (bb.mono hB10)
          have b211 := Below.step b210 bb
          have hB11 := bW11.size
          have hS11 : W11.cell? ⟨w.heap.size, 0, none⟩ = some (.int .i64 K) ∧ W11.cell? ra = some (.int .i64 v) := ⟨by rw [b211.cell hlow.1, ← b210.cell hlow.1]; exact hS10.1, by rw [b211.cell hlow.2, ← b210.cell hlow.2]; exact hS10.2⟩
          refine hK.out _ _ hS11 fun _ => ?_
          clear hK KK bb RW10
          refine takeD (i := 7) (v := ?_) (some 39) rfl rfl (by kernel_rfl) (by kernel_rfl) (by kernel_rfl) (fun _ _ _ h => h) (Or.inl ⟨by rfl, ?_⟩) hS11 ?_
          rotate_left
          · rintro W' ⟨s0, s1⟩; go_simp; try with_reducible rfl
          simp only [Act.put, List.setIfInBounds_toArray, List.set_cons_zero, List.set_cons_succ]
          refine takeD (i := 8) (v := ?_) (some 47) rfl rfl (by kernel_rfl) (by kernel_rfl) (by kernel_rfl) (fun _ _ _ h => h) (Or.inl ⟨by rfl, ?_⟩) hS11 ?_
          rotate_left
          · rintro W' ⟨s0, s1⟩; go_simp; try with_reducible rfl
          simp only [Act.put, List.setIfInBounds_toArray, List.set_cons_zero, List.set_cons_succ]
          refine takeD (i := 9) (v := ?_) (some 48) rfl rfl (by kernel_rfl) (by kernel_rfl) (by kernel_rfl) (fun _ _ _ h => h) (Or.inl ⟨by rfl, ?_⟩) hS11 ?_
          rotate_left
          · rintro W' ⟨s0, s1⟩; go_simp; try with_reducible rfl
          simp only [Act.put, List.setIfInBounds_toArray, List.set_cons_zero, List.set_cons_succ]
          refine takeD (i := 10) (v := ?_) (some 49) rfl rfl (by kernel_rfl) (by kernel_rfl) (by kernel_rfl) (fun _ _ _ h => h) (Or.inl ⟨by rfl, ?_⟩) hS11 ?_
          rotate_left
          · rintro W' ⟨s0, s1⟩; go_simp; try with_reducible rfl
          simp only [Act.put, List.setIfInBounds_toArray, List.set_cons_zero, List.set_cons_succ]
          refine wpAnyH_ready (rs := [12]) (by kernel_rfl) (by simp) (AllReadyH.cons rfl (fun KK hK => ?_) (AllReadyH.nil))
          · go_simp
            obtain ⟨f12, RW12, n91, oo⟩ := RW11.box4 (9, 1) hB11 42 (.int .i64 0) (.slice none 0 0) (.slice none 0 0) (.slice none 0 0)
            replace n02 := (oo (0, 2) (by decide)).trans n02
            replace n03 := (oo (0, 3) (by decide)).trans n03
            replace n90 := (oo (9, 0) (by decide)).trans n90
            replace n10 := (oo (1, 0) (by decide)).trans n10
            replace n11 := (oo (1, 1) (by decide)).trans n11
            replace n20 := (oo (2, 0) (by decide)).trans n20
            replace n21 := (oo (2, 1) (by decide)).trans n21
            replace n30 := (oo (3, 0) (by decide)).trans n30
            replace n31 := (oo (3, 1) (by decide)).trans n31
            have bb := belowAlloc W11 (.cells #[.int .i64 0, .slice none 0 0, .slice none 0 0, .slice none 0 0] 42)
            obtain ⟨gb10, hgb10⟩ : ∃ g, W11.heap.size = g := ⟨_, rfl⟩
            obtain ⟨W12, hW12⟩ : ∃ W' : World, W11.alloc (.cells #[.int .i64 0, .slice none 0 0, .slice none 0 0, .slice none 0 0] 42) = W' := ⟨_, rfl⟩
            have lgb10 : w2.heap.size ≤ gb10 := by rw [← hgb10]; exact b211.size
            have bW12 := bW11.trans (bb.mono hB11)
            have b212 := Below.step b211 bb
            rw [hW12] at RW12 bW12 b212 bb
            have hB12 := bW12.size
            have hS12 : W12.cell? ⟨w.heap.size, 0, none⟩ = some (.int .i64 K) ∧ W12.cell? ra = some (.int .i64 v) := ⟨by rw [b212.cell hlow.1, ← b211.cell hlow.1]; exact hS11.1, by rw [b212.cell hlow.2, ← b211.cell hlow.2]; exact hS11.2⟩
            rw [hW12, hgb10]
            rw [hgb10] at n91
            replace hW12 := Lib.hid hW12
            replace hgb10 := Lib.hid hgb10
            refine hK.out _ _ hS12 fun _ => ?_
            clear hK KK bb RW11 oo
            obtain ⟨t0, t1, t2, t3⟩ := RW12.cells4 n90
            have ft0 := RW12.frz4 n90 0
            have ft1 := RW12.frz4 n90 1
            have ft2 := RW12.frz4 n90 2
            have ft3 := RW12.frz4 n90 3
            have lt := (RW12.low4 n90)
            obtain ⟨f13, RW13, mm, oo⟩ := RW12.all4 n90 (.int .i64 0) (.slice aLa aLn aLc) (.slice aCa aCn aCc) (.slice aQa aQn aQc)
            replace n02 := (oo (0, 2) (by decide)).trans n02
            replace n03 := (oo (0, 3) (by decide)).trans n03
            replace n10 := (oo (1, 0) (by decide)).trans n10
            replace n11 := (oo (1, 1) (by decide)).trans n11
            replace n20 := (oo (2, 0) (by decide)).trans n20
            replace n21 := (oo (2, 1) (by decide)).trans n21
            replace n30 := (oo (3, 0) (by decide)).trans n30
            replace n31 := (oo (3, 1) (by decide)).trans n31
            replace n91 := (oo (9, 1) (by decide)).trans n91
            clear n90
            have n90 := mm
            have bW13 := Below.all4 (g := gb9) bW12 lt.1 (.int .i64 0) (.slice aLa aLn aLc) (.slice aCa aCn aCc) (.slice aQa aQn aQc)
            have b213 := Below.all4 (g := gb9) b212 lgb9 (.int .i64 0) (.slice aLa aLn aLc) (.slice aCa aCn aCc) (.slice aQa aQn aQc)
            obtain ⟨W13, hW13⟩ : ∃ W' : World, (((W12.setCell ⟨gb9, 0, none⟩ (.int .i64 0)).setCell ⟨gb9, 1, none⟩ (.slice aLa aLn aLc)).setCell ⟨gb9, 2, none⟩ (.slice aCa aCn aCc)).setCell ⟨gb9, 3, none⟩ (.slice aQa aQn aQc) = W' := ⟨_, rfl⟩
            rw [hW13] at RW13 bW13 b213
            have hS13 : W13.cell? ⟨w.heap.size, 0, none⟩ = some (.int .i64 K) ∧ W13.cell? ra = some (.int .i64 v) := ⟨by rw [b213.cell hlow.1, ← b212.cell hlow.1]; exact hS12.1, by rw [b213.cell hlow.2, ← b212.cell hlow.2]; exact hS12.2⟩
            replace hW13 := Lib.hid hW13
            refine wpAnyH_ready (rs := [13]) (by kernel_rfl) (by simp) (AllReadyH.cons rfl (fun KK hK => ?_) AllReadyH.nil)
            go_simp
            rw [hW13.out]
            refine hK.out _ _ hS13 fun _ => ?_
            clear hK KK t0 t1 t2 t3 ft0 ft1 ft2 ft3 mm oo lt RW12 hW13
            obtain ⟨t0, t1, t2, t3⟩ := RW13.cells4 n91
            have ft0 := RW13.frz4 n91 0
            have ft1 := RW13.frz4 n91 1
            have ft2 := RW13.frz4 n91 2
            have ft3 := RW13.frz4 n91 3
            have lt := (RW13.low4 n91)
            obtain ⟨f14, RW14, mm, oo⟩ := RW13.all4 n91 (.int .i64 0) (.slice bLa bLn bLc) (.slice bCa bCn bCc) (.slice bQa bQn bQc)
            replace n02 := (oo (0, 2) (by decide)).trans n02
            replace n03 := (oo (0, 3) (by decide)).trans n03
            replace n90 := (oo (9, 0) (by decide)).trans n90
            replace n10 := (oo (1, 0) (by decide)).trans n10
            replace n11 := (oo (1, 1) (by decide)).trans n11
            replace n20 := (oo (2, 0) (by decide)).trans n20
            replace n21 := (oo (2, 1) (by decide)).trans n21
            replace n30 := (oo (3, 0) (by decide)).trans n30
            replace n31 := (oo (3, 1) (by decide)).trans n31
            clear n91
            have n91 := mm
            have bW14 := Below.all4 (g := gb10) bW13 lt.1 (.int .i64 0) (.slice bLa bLn bLc) (.slice bCa bCn bCc) (.slice bQa bQn bQc)
            have b214 := Below.all4 (g := gb10) b213 lgb10 (.int .i64 0) (.slice bLa bLn bLc) (.slice bCa bCn bCc) (.slice bQa bQn bQc)
            obtain ⟨W14, hW14⟩ : ∃ W' : World, (((W13.setCell ⟨gb10, 0, none⟩ (.int .i64 0)).setCell ⟨gb10, 1, none⟩ (.slice bLa bLn bLc)).setCell ⟨gb10, 2, none⟩ (.slice bCa bCn bCc)).setCell ⟨gb10, 3, none⟩ (.slice bQa bQn bQc) = W' := ⟨_, rfl⟩
            rw [hW14] at RW14 bW14 b214
            have hS14 : W14.cell? ⟨w.heap.size, 0, none⟩ = some (.int .i64 K) ∧ W14.cell? ra = some (.int .i64 v) := ⟨by rw [b214.cell hlow.1, ← b213.cell hlow.1]; exact hS13.1, by rw [b214.cell hlow.2, ← b213.cell hlow.2]; exact hS13.2⟩
            replace hW14 := Lib.hid hW14
            refine wpAnyH_ready (rs := [14]) (by kernel_rfl) (by simp) (AllReadyH.cons rfl (fun KK hK => ?_) AllReadyH.nil)
            go_simp
            rw [hW14.out]
            refine hK.out _ _ hS14 fun _ => ?_
            clear hK KK t0 t1 t2 t3 ft0 ft1 ft2 ft3 mm oo lt RW13 hW14
            refine takeD (i := 15) (v := ?_) (some 7) rfl rfl (by kernel_rfl) (by kernel_rfl) (by kernel_rfl) (fun _ _ _ h => h) (Or.inl ⟨by rfl, ?_⟩) hS14 ?_
            rotate_left
            · rintro W' ⟨s0, s1⟩; go_simp; try with_reducible rfl
            simp only [Act.put, List.setIfInBounds_toArray, List.set_cons_zero, List.set_cons_succ]
            refine wpAnyH_done (by kernel_rfl) ?_ _
            refine NoPanic.normal ?_
            replace n02 := Lib.hid n02
            replace n03 := Lib.hid n03
            replace n90 := Lib.hid n90
            replace n91 := Lib.hid n91
            replace n10 := Lib.hid n10
            replace n11 := Lib.hid n11
            replace n20 := Lib.hid n20
            replace n21 := Lib.hid n21
            replace n30 := Lib.hid n30
            replace n31 := Lib.hid n31
            replace RW14 := Lib.hid RW14
            go_wp2
            go_meet
            case rel => exact ⟨rfl, gb9, gb10, L', C', Q', _, _, _, _, _, _, f14, rfl, rfl, bW14, hwi.out, RW14.out, n02.out, n03.out, n90.out, n91.out, n10.out, n11.out, n20.out, n21.out, n30.out, n31.out⟩
        · go_simp
          obtain ⟨f15, RW15, n91, oo⟩ := RW10.box4 (9, 1) hB10 42 (.int .i64 0) (.slice none 0 0) (.slice none 0 0) (.slice none 0 0)
          replace n02 := (oo (0, 2) (by decide)).trans n02
          replace n03 := (oo (0, 3) (by decide)).trans n03
          replace n90 := (oo (9, 0) (by decide)).trans n90
          have bb := belowAlloc W10 (.cells #[.int .i64 0, .slice none 0 0, .slice none 0 0, .slice none 0 0] 42)
          obtain ⟨gb10, hgb10⟩ : ∃ g, W10.heap.size = g := ⟨_, rfl⟩
          obtain ⟨W15, hW15⟩ : ∃ W' : World, W10.alloc (.cells #[.int .i64 0, .slice none 0 0, .slice none 0 0, .slice none 0 0] 42) = W' := ⟨_, rfl⟩
          have lgb10 : w2.heap.size ≤ gb10 := by rw [← hgb10]; exact b210.size
          have bW15 := bW10.trans (bb.mono hB10)
          have b215 := Below.step b210 bb
          rw [hW15] at RW15 bW15 b215 bb
          have hB15 := bW15.size
          have hS15 : W15.cell? ⟨w.heap.size, 0, none⟩ = some (.int .i64 K) ∧ W15.cell? ra = some (.int .i64 v) := ⟨by rw [b215.cell hlow.1, ← b210.cell hlow.1]; exact hS10.1, by rw [b215.cell hlow.2, ← b210.cell hlow.2]; exact hS10.2⟩
          rw [hW15, hgb10]
          rw [hgb10] at n91
          replace hW15 := Lib.hid hW15
          replace hgb10 := Lib.hid hgb10
          refine hK.out _ _ hS15 fun _ => ?_
          clear hK KK bb RW10 oo
          refine wpAnyH_ready (rs := [6]) (by kernel_rfl) (by simp) (AllReadyH.cons rfl (fun KK hK => ?_) (AllReadyH.nil))
          · go_simp
            refine (hwv.out W15 (hG2.out.below b215) (hL2.out.below b215)).mono ?_
            rintro e W16 ⟨x, y, z, rfl, bb, hz, L', C', Q', aL, aC, aQ, bL, bC, bQ, hwi, rfl, rfl, fw, Rw, k10, k11, k20, k21, k30, k31⟩
            subst hz
            obtain ⟨aLa, aLn, aLc, haL⟩ := (Rw.ownI k10).at.shape
            subst haL
            obtain ⟨bLa, bLn, bLc, hbL⟩ := (Rw.ownI k11).at.shape
            subst hbL
            obtain ⟨aCa, aCn, aCc, haC⟩ := (Rw.ownI k20).at.shape
            subst haC
            obtain ⟨bCa, bCn, bCc, hbC⟩ := (Rw.ownI k21).at.shape
            subst hbC
            obtain ⟨aQa, aQn, aQc, haQ⟩ := (Rw.ownI k30).at.shape
            subst haQ
            obtain ⟨bQa, bQn, bQc, hbQ⟩ := (Rw.ownI k31).at.shape
            subst hbQ
            obtain ⟨f16, RW16, sel, oth⟩ := RW15.merge (fun i => decide (i.1 = 1 ∨ i.1 = 2 ∨ i.1 = 3)) bb Rw hB15
            replace n02 := (oth (0, 2) (by decide)).trans n02
            replace n03 := (oth (0, 3) (by decide)).trans n03
            replace n90 := (oth (9, 0) (by decide)).trans n90
            replace n91 := (oth (9, 1) (by decide)).trans n91
            have n10 := (sel (1, 0) (by decide)).trans k10
            have n11 := (sel (1, 1) (by decide)).trans k11
            have n20 := (sel (2, 0) (by decide)).trans k20
            have n21 := (sel (2, 1) (by decide)).trans k21
            have n30 := (sel (3, 0) (by decide)).trans k30
            have n31 := (sel (3, 1) (by decide)).trans k31
            replace hwi := Lib.hid hwi
            clear sel oth k10 k11 k20 k21 k30 k31 Rw
            have bW16 := bW15.trans (bb.mono hB15)
            have b216 := Below.step b215 bb
            have hB16 := bW16.size
            have hS16 : W16.cell? ⟨w.heap.size, 0, none⟩ = some (.int .i64 K) ∧ W16.cell? ra = some (.int .i64 v) := ⟨by rw [b216.cell hlow.1, ← b215.cell hlow.1]; exact hS15.1, by rw [b216.cell hlow.2, ← b215.cell hlow.2]; exact hS15.2⟩
            refine hK.out _ _ hS16 fun _ => ?_
            clear hK KK bb RW15
            refine takeD (i := 7) (v := ?_) (some 39) rfl rfl (by kernel_rfl) (by kernel_rfl) (by kernel_rfl) (fun _ _ _ h => h) (Or.inl ⟨by rfl, ?_⟩) hS16 ?_
            rotate_left
            · rintro W' ⟨s0, s1⟩; go_simp; try with_reducible rfl
            simp only [Act.put, List.setIfInBounds_toArray, List.set_cons_zero, List.set_cons_succ]
            refine takeD (i := 8) (v := ?_) (some 47) rfl rfl (by kernel_rfl) (by kernel_rfl) (by kernel_rfl) (fun _ _ _ h => h) (Or.inl ⟨by rfl, ?_⟩) hS16 ?_
            rotate_left
            · rintro W' ⟨s0, s1⟩; go_simp; try with_reducible rfl
            simp only [Act.put, List.setIfInBounds_toArray, List.set_cons_zero, List.set_cons_succ]
            refine takeD (i := 9) (v := ?_) (some 48) rfl rfl (by kernel_rfl) (by kernel_rfl) (by kernel_rfl) (fun _ _ _ h => h) (Or.inl ⟨by rfl, ?_⟩) hS16 ?_
            rotate_left
            · rintro W' ⟨s0, s1⟩; go_simp; try with_reducible rfl
            simp only [Act.put, List.setIfInBounds_toArray, List.set_cons_zero, List.set_cons_succ]
            refine takeD (i := 10) (v := ?_) (some 49) rfl rfl (by kernel_rfl) (by kernel_rfl) (by kernel_rfl) (fun _ _ _ h => h) (Or.inl ⟨by rfl, ?_⟩) hS16 ?_
            rotate_left
            · rintro W' ⟨s0, s1⟩; go_simp; try with_reducible rfl
            simp only [Act.put, List.setIfInBounds_toArray, List.set_cons_zero, List.set_cons_succ]
            obtain ⟨t0, t1, t2, t3⟩ := RW16.cells4 n90
            have ft0 := RW16.frz4 n90 0
            have ft1 := RW16.frz4 n90 1
            have ft2 := RW16.frz4 n90 2
            have ft3 := RW16.frz4 n90 3
            have lt := (RW16.low4 n90)
            obtain ⟨f17, RW17, mm, oo⟩ := RW16.all4 n90 (.int .i64 0) (.slice aLa aLn aLc) (.slice aCa aCn aCc) (.slice aQa aQn aQc)
            replace n02 := (oo (0, 2) (by decide)).trans n02
            replace n03 := (oo (0, 3) (by decide)).trans n03
            replace n91 := (oo (9, 1) (by decide)).trans n91
            replace n10 := (oo (1, 0) (by decide)).trans n10
            replace n11 := (oo (1, 1) (by decide)).trans n11
            replace n20 := (oo (2, 0) (by decide)).trans n20
            replace n21 := (oo (2, 1) (by decide)).trans n21
            replace n30 := (oo (3, 0) (by decide)).trans n30
            replace n31 := (oo (3, 1) (by decide)).trans n31
            clear n90
            have n90 := mm
            have bW17 := Below.all4 (g := gb9) bW16 lt.1 (.int .i64 0) (.slice aLa aLn aLc) (.slice aCa aCn aCc) (.slice aQa aQn aQc)
            have b217 := Below.all4 (g := gb9) b216 lgb9 (.int .i64 0) (.slice aLa aLn aLc) (.slice aCa aCn aCc) (.slice aQa aQn aQc)
            obtain ⟨W17, hW17⟩ : ∃ W' : World, (((W16.setCell ⟨gb9, 0, none⟩ (.int .i64 0)).setCell ⟨gb9, 1, none⟩ (.slice aLa aLn aLc)).setCell ⟨gb9, 2, none⟩ (.slice aCa aCn aCc)).setCell ⟨gb9, 3, none⟩ (.slice aQa aQn aQc) = W' := ⟨_, rfl⟩
            rw [hW17] at RW17 bW17 b217
            have hS17 : W17.cell? ⟨w.heap.size, 0, none⟩ = some (.int .i64 K) ∧ W17.cell? ra = some (.int .i64 v) := ⟨by rw [b217.cell hlow.1, ← b216.cell hlow.1]; exact hS16.1, by rw [b217.cell hlow.2, ← b216.cell hlow.2]; exact hS16.2⟩
            replace hW17 := Lib.hid hW17
            refine wpAnyH_ready (rs := [13]) (by kernel_rfl) (by simp) (AllReadyH.cons rfl (fun KK hK => ?_) AllReadyH.nil)
            go_simp
            rw [hW17.out]
            refine hK.out _ _ hS17 fun _ => ?_
            clear hK KK t0 t1 t2 t3 ft0 ft1 ft2 ft3 mm oo lt RW16 hW17
            obtain ⟨t0, t1, t2, t3⟩ := RW17.cells4 n91
            have ft0 := RW17.frz4 n91 0
            have ft1 := RW17.frz4 n91 1
            have ft2 := RW17.frz4 n91 2
            have ft3 := RW17.frz4 n91 3
            have lt := (RW17.low4 n91)
            obtain ⟨f18, RW18, mm, oo⟩ := RW17.all4 n91 (.int .i64 0) (.slice bLa bLn bLc) (.slice bCa bCn bCc) (.slice bQa bQn bQc)
            replace n02 := (oo (0, 2) (by decide)).trans n02
            replace n03 := (oo (0, 3) (by decide)).trans n03
            replace n90 := (oo (9, 0) (by decide)).trans n90
            replace n10 := (oo (1, 0) (by decide)).trans n10
            replace n11 := (oo (1, 1) (by decide)).trans n11
            replace n20 := (oo (2, 0) (by decide)).trans n20
            replace n21 := (oo (2, 1) (by decide)).trans n21
            replace n30 := (oo (3, 0) (by decide)).trans n30
            replace n31 := (oo (3, 1) (by decide)).trans n31
            clear n91
            have n91 := mm
            have bW18 := Below.all4 (g := gb10) bW17 lt.1 (.int .i64 0) (.slice bLa bLn bLc) (.slice bCa bCn bCc) (.slice bQa bQn bQc)
            have b218 := Below.all4 (g := gb10) b217 lgb10 (.int .i64 0) (.slice bLa bLn bLc) (.slice bCa bCn bCc) (.slice bQa bQn bQc)
            obtain ⟨W18, hW18⟩ : ∃ W' : World, (((W17.setCell ⟨gb10, 0, none⟩ (.int .i64 0)).setCell ⟨gb10, 1, none⟩ (.slice bLa bLn bLc)).setCell ⟨gb10, 2, none⟩ (.slice bCa bCn bCc)).setCell ⟨gb10, 3, none⟩ (.slice bQa bQn bQc) = W' := ⟨_, rfl⟩
            rw [hW18] at RW18 bW18 b218
            have hS18 : W18.cell? ⟨w.heap.size, 0, none⟩ = some (.int .i64 K) ∧ W18.cell? ra = some (.int .i64 v) := ⟨by rw [b218.cell hlow.1, ← b217.cell hlow.1]; exact hS17.1, by rw [b218.cell hlow.2, ← b217.cell hlow.2]; exact hS17.2⟩
            replace hW18 := Lib.hid hW18
            refine wpAnyH_ready (rs := [14]) (by kernel_rfl) (by simp) (AllReadyH.cons rfl (fun KK hK => ?_) AllReadyH.nil)
            go_simp
            rw [hW18.out]
            refine hK.out _ _ hS18 fun _ => ?_
            clear hK KK t0 t1 t2 t3 ft0 ft1 ft2 ft3 mm oo lt RW17 hW18
            refine takeD (i := 15) (v := ?_) (some 7) rfl rfl (by kernel_rfl) (by kernel_rfl) (by kernel_rfl) (fun _ _ _ h => h) (Or.inl ⟨by rfl, ?_⟩) hS18 ?_
            rotate_left
            · rintro W' ⟨s0, s1⟩; go_simp; try with_reducible rfl
            simp only [Act.put, List.setIfInBounds_toArray, List.set_cons_zero, List.set_cons_succ]
            refine wpAnyH_done (by kernel_rfl) ?_ _
            refine NoPanic.normal ?_
            replace n02 := Lib.hid n02
            replace n03 := Lib.hid n03
            replace n90 := Lib.hid n90
            replace n91 := Lib.hid n91
            replace n10 := Lib.hid n10
            replace n11 := Lib.hid n11
            replace n20 := Lib.hid n20
            replace n21 := Lib.hid n21
            replace n30 := Lib.hid n30
            replace n31 := Lib.hid n31
            replace RW18 := Lib.hid RW18
            go_wp2
            go_meet
            case rel => exact ⟨rfl, gb9, gb10, L', C', Q', _, _, _, _, _, _, f18, rfl, rfl, bW18, hwi.out, RW18.out, n02.out, n03.out, n90.out, n91.out, n10.out, n11.out, n20.out, n21.out, n30.out, n31.out⟩
      · go_simp
        obtain ⟨f19, RW19, n91, oo⟩ := RW0.box4 (9, 1) hB0 42 (.int .i64 0) (.slice none 0 0) (.slice none 0 0) (.slice none 0 0)
        replace n02 := (oo (0, 2) (by decide)).trans n02
        replace n03 := (oo (0, 3) (by decide)).trans n03
        have bb := belowAlloc W0 (.cells #[.int .i64 0, .slice none 0 0, .slice none 0 0, .slice none 0 0] 42)
        obtain ⟨gb10, hgb10⟩ : ∃ g, W0.heap.size = g := ⟨_, rfl⟩
        obtain ⟨W19, hW19⟩ : ∃ W' : World, W0.alloc (.cells #[.int .i64 0, .slice none 0 0, .slice none 0 0, .slice none 0 0] 42) = W' := ⟨_, rfl⟩
        have lgb10 : w2.heap.size ≤ gb10 := by rw [← hgb10]; exact b20.size
        have bW19 := bW0.trans (bb.mono hB0)
        have b219 := Below.step b20 bb
        rw [hW19] at RW19 bW19 b219 bb
        have hB19 := bW19.size
        have hS19 : W19.cell? ⟨w.heap.size, 0, none⟩ = some (.int .i64 K) ∧ W19.cell? ra = some (.int .i64 v) := ⟨by rw [b219.cell hlow.1, ← b20.cell hlow.1]; exact hS0.1, by rw [b219.cell hlow.2, ← b20.cell hlow.2]; exact hS0.2⟩
        rw [hW19, hgb10]
        rw [hgb10] at n91
        replace hW19 := Lib.hid hW19
        replace hgb10 := Lib.hid hgb10
        refine hK.out _ _ hS19 fun _ => ?_
        clear hK KK bb RW0 oo
        refine wpAnyH_ready (rs := [6, 11]) (by kernel_rfl) (by simp) (AllReadyH.cons rfl (fun KK hK => ?_) (AllReadyH.cons rfl (fun KK hK => ?_) (AllReadyH.nil)))
        · go_simp
          refine (hwv.out W19 (hG2.out.below b219) (hL2.out.below b219)).mono ?_
          rintro e W20 ⟨x, y, z, rfl, bb, hz, L', C', Q', aL, aC, aQ, bL, bC, bQ, hwi, rfl, rfl, fw, Rw, k10, k11, k20, k21, k30, k31⟩
          subst hz
          obtain ⟨aLa, aLn, aLc, haL⟩ := (Rw.ownI k10).at.shape
          subst haL
          obtain ⟨bLa, bLn, bLc, hbL⟩ := (Rw.ownI k11).at.shape
          subst hbL
          obtain ⟨aCa, aCn, aCc, haC⟩ := (Rw.ownI k20).at.shape
          subst haC
          obtain ⟨bCa, bCn, bCc, hbC⟩ := (Rw.ownI k21).at.shape
          subst hbC
          obtain ⟨aQa, aQn, aQc, haQ⟩ := (Rw.ownI k30).at.shape
          subst haQ
          obtain ⟨bQa, bQn, bQc, hbQ⟩ := (Rw.ownI k31).at.shape
          subst hbQ
          obtain ⟨f20, RW20, sel, oth⟩ := RW19.merge (fun i => decide (i.1 = 1 ∨ i.1 = 2 ∨ i.1 = 3)) bb Rw hB19
          replace n02 := (oth (0, 2) (by decide)).trans n02
          replace n03 := (oth (0, 3) (by decide)).trans n03
          replace n91 := (oth (9, 1) (by decide)).trans n91
          have n10 := (sel (1, 0) (by decide)).trans k10
          have n11 := (sel (1, 1) (by decide)).trans k11
          have n20 := (sel (2, 0) (by decide)).trans k20
          have n21 := (sel (2, 1) (by decide)).trans k21
          have n30 := (sel (3, 0) (by decide)).trans k30
          have n31 := (sel (3, 1) (by decide)).trans k31
          replace hwi := Lib.hid hwi
          clear sel oth k10 k11 k20 k21 k30 k31 Rw
          have bW20 := bW19.trans (bb.mono hB19)
          have b220 := Below.step b219 bb
          have hB20 := bW20.size
          have hS20 : W20.cell? ⟨w.heap.size, 0, none⟩ = some (.int .i64 K) ∧ W20.cell? ra = some (.int .i64 v) := ⟨by rw [b220.cell hlow.1, ← b219.cell hlow.1]; exact hS19.1, by rw [b220.cell hlow.2, ← b219.cell hlow.2]; exact hS19.2⟩
          refine hK.out _ _ hS20 fun _ => ?_
          clear hK KK bb RW19
          refine takeD (i := 7) (v := ?_) (some 39) rfl rfl (by kernel_rfl) (by kernel_rfl) (by kernel_rfl) (fun _ _ _ h => h) (Or.inl ⟨by rfl, ?_⟩) hS20 ?_
          rotate_left
          · rintro W' ⟨s0, s1⟩; go_simp; try with_reducible rfl
          simp only [Act.put, List.setIfInBounds_toArray, List.set_cons_zero, List.set_cons_succ]
          refine takeD (i := 8) (v := ?_) (some 47) rfl rfl (by kernel_rfl) (by kernel_rfl) (by kernel_rfl) (fun _ _ _ h => h) (Or.inl ⟨by rfl, ?_⟩) hS20 ?_
          rotate_left
          · rintro W' ⟨s0, s1⟩; go_simp; try with_reducible rfl
          simp only [Act.put, List.setIfInBounds_toArray, List.set_cons_zero, List.set_cons_succ]
          refine takeD (i := 9) (v := ?_) (some 48) rfl rfl (by kernel_rfl) (by kernel_rfl) (by kernel_rfl) (fun _ _ _ h => h) (Or.inl ⟨by rfl, ?_⟩) hS20 ?_
          rotate_left
          · rintro W' ⟨s0, s1⟩; go_simp; try with_reducible rfl
          simp only [Act.put, List.setIfInBounds_toArray, List.set_cons_zero, List.set_cons_succ]
          refine takeD (i := 10) (v := ?_) (some 49) rfl rfl (by kernel_rfl) (by kernel_rfl) (by kernel_rfl) (fun _ _ _ h => h) (Or.inl ⟨by rfl, ?_⟩) hS20 ?_
          rotate_left
          · rintro W' ⟨s0, s1⟩; go_simp; try with_reducible rfl
          simp only [Act.put, List.setIfInBounds_toArray, List.set_cons_zero, List.set_cons_succ]
          refine wpAnyH_ready (rs := [11]) (by kernel_rfl) (by simp) (AllReadyH.cons rfl (fun KK hK => ?_) (AllReadyH.nil))
          · go_simp
            obtain ⟨f21, RW21, n90, oo⟩ := RW20.box4 (9, 0) hB20 42 (.int .i64 0) (.slice none 0 0) (.slice none 0 0) (.slice none 0 0)
            replace n02 := (oo (0, 2) (by decide)).trans n02
            replace n03 := (oo (0, 3) (by decide)).trans n03
            replace n91 := (oo (9, 1) (by decide)).trans n91
            replace n10 := (oo (1, 0) (by decide)).trans n10
            replace n11 := (oo (1, 1) (by decide)).trans n11
            replace n20 := (oo (2, 0) (by decide)).trans n20
            replace n21 := (oo (2, 1) (by decide)).trans n21
            replace n30 := (oo (3, 0) (by decide)).trans n30
            replace n31 := (oo (3, 1) (by decide)).trans n31
            have bb := belowAlloc W20 (.cells #[.int .i64 0, .slice none 0 0, .slice none 0 0, .slice none 0 0] 42)
            obtain ⟨gb9, hgb9⟩ : ∃ g, W20.heap.size = g := ⟨_, rfl⟩
            obtain ⟨W21, hW21⟩ : ∃ W' : World, W20.alloc (.cells #[.int .i64 0, .slice none 0 0, .slice none 0 0, .slice none 0 0] 42) = W' := ⟨_, rfl⟩
            have lgb9 : w2.heap.size ≤ gb9 := by rw [← hgb9]; exact b220.size
            have bW21 := bW20.trans (bb.mono hB20)
            have b221 := Below.step b220 bb
            rw [hW21] at RW21 bW21 b221 bb
            have hB21 := bW21.size
            have hS21 : W21.cell? ⟨w.heap.size, 0, none⟩ = some (.int .i64 K) ∧ W21.cell? ra = some (.int .i64 v) := ⟨by rw [b221.cell hlow.1, ← b220.cell hlow.1]; exact hS20.1, by rw [b221.cell hlow.2, ← b220.cell hlow.2]; exact hS20.2⟩
            rw [hW21, hgb9]
            rw [hgb9] at n90
            replace hW21 := Lib.hid hW21
            replace hgb9 := Lib.hid hgb9
            refine hK.out _ _ hS21 fun _ => ?_
            clear hK KK bb RW20 oo
            obtain ⟨t0, t1, t2, t3⟩ := RW21.cells4 n90
            have ft0 := RW21.frz4 n90 0
            have ft1 := RW21.frz4 n90 1
            have ft2 := RW21.frz4 n90 2
            have ft3 := RW21.frz4 n90 3
            have lt := (RW21.low4 n90)
            obtain ⟨f22, RW22, mm, oo⟩ := RW21.all4 n90 (.int .i64 0) (.slice aLa aLn aLc) (.slice aCa aCn aCc) (.slice aQa aQn aQc)
            replace n02 := (oo (0, 2) (by decide)).trans n02
            replace n03 := (oo (0, 3) (by decide)).trans n03
            replace n91 := (oo (9, 1) (by decide)).trans n91
            replace n10 := (oo (1, 0) (by decide)).trans n10
            replace n11 := (oo (1, 1) (by decide)).trans n11
            replace n20 := (oo (2, 0) (by decide)).trans n20
            replace n21 := (oo (2, 1) (by decide)).trans n21
            replace n30 := (oo (3, 0) (by decide)).trans n30
            replace n31 := (oo (3, 1) (by decide)).trans n31
            clear n90
            have n90 := mm
            have bW22 := Below.all4 (g := gb9) bW21 lt.1 (.int .i64 0) (.slice aLa aLn aLc) (.slice aCa aCn aCc) (.slice aQa aQn aQc)
            have b222 := Below.all4 (g := gb9) b221 lgb9 (.int .i64 0) (.slice aLa aLn aLc) (.slice aCa aCn aCc) (.slice aQa aQn aQc)
            obtain ⟨W22, hW22⟩ : ∃ W' : World, (((W21.setCell ⟨gb9, 0, none⟩ (.int .i64 0)).setCell ⟨gb9, 1, none⟩ (.slice aLa aLn aLc)).setCell ⟨gb9, 2, none⟩ (.slice aCa aCn aCc)).setCell ⟨gb9, 3, none⟩ (.slice aQa aQn aQc) = W' := ⟨_, rfl⟩
            rw [hW22] at RW22 bW22 b222
            have hS22 : W22.cell? ⟨w.heap.size, 0, none⟩ = some (.int .i64 K) ∧ W22.cell? ra = some (.int .i64 v) := ⟨by rw [b222.cell hlow.1, ← b221.cell hlow.1]; exact hS21.1, by rw [b222.cell hlow.2, ← b221.cell hlow.2]; exact hS21.2⟩
            replace hW22 := Lib.hid hW22
            refine wpAnyH_ready (rs := [13]) (by kernel_rfl) (by simp) (AllReadyH.cons rfl (fun KK hK => ?_) AllReadyH.nil)
            go_simp
            rw [hW22.out]
            refine hK.out _ _ hS22 fun _ => ?_
            clear hK KK t0 t1 t2 t3 ft0 ft1 ft2 ft3 mm oo lt RW21 hW22
            obtain ⟨t0, t1, t2, t3⟩ := RW22.cells4 n91
            have ft0 := RW22.frz4 n91 0
            have ft1 := RW22.frz4 n91 1
            have ft2 := RW22.frz4 n91 2
            have ft3 := RW22.frz4 n91 3
            have lt := (RW22.low4 n91)
            obtain ⟨f23, RW23, mm, oo⟩ := RW22.all4 n91 (.int .i64 0) (.slice bLa bLn bLc) (.slice bCa bCn bCc) (.slice bQa bQn bQc)
            replace n02 := (oo (0, 2) (by decide)).trans n02
            replace n03 := (oo (0, 3) (by decide)).trans n03
            replace n10 := (oo (1, 0) (by decide)).trans n10
            replace n11 := (oo (1, 1) (by decide)).trans n11
            replace n20 := (oo (2, 0) (by decide)).trans n20
            replace n21 := (oo (2, 1) (by decide)).trans n21
            replace n30 := (oo (3, 0) (by decide)).trans n30
            replace n31 := (oo (3, 1) (by decide)).trans n31
            replace n90 := (oo (9, 0) (by decide)).trans n90
            clear n91
            have n91 := mm
            have bW23 := Below.all4 (g := gb10) bW22 lt.1 (.int .i64 0) (.slice bLa bLn bLc) (.slice bCa bCn bCc) (.slice bQa bQn bQc)
            have b223 := Below.all4 (g := gb10) b222 lgb10 (.int .i64 0) (.slice bLa bLn bLc) (.slice bCa bCn bCc) (.slice bQa bQn bQc)
            obtain ⟨W23, hW23⟩ : ∃ W' : World, (((W22.setCell ⟨gb10, 0, none⟩ (.int .i64 0)).setCell ⟨gb10, 1, none⟩ (.slice bLa bLn bLc)).setCell ⟨gb10, 2, none⟩ (.slice bCa bCn bCc)).setCell ⟨gb10, 3, none⟩ (.slice bQa bQn bQc) = W' := ⟨_, rfl⟩
            rw [hW23] at RW23 bW23 b223
            have hS23 : W23.cell? ⟨w.heap.size, 0, none⟩ = some (.int .i64 K) ∧ W23.cell? ra = some (.int .i64 v) := ⟨by rw [b223.cell hlow.1, ← b222.cell hlow.1]; exact hS22.1, by rw [b223.cell hlow.2, ← b222.cell hlow.2]; exact hS22.2⟩
            replace hW23 := Lib.hid hW23
            refine wpAnyH_ready (rs := [14]) (by kernel_rfl) (by simp) (AllReadyH.cons rfl (fun KK hK => ?_) AllReadyH.nil)
            go_simp
            rw [hW23.out]
            refine hK.out _ _ hS23 fun _ => ?_
            clear hK KK t0 t1 t2 t3 ft0 ft1 ft2 ft3 mm oo lt RW22 hW23
            refine takeD (i := 15) (v := ?_) (some 7) rfl rfl (by kernel_rfl) (by kernel_rfl) (by kernel_rfl) (fun _ _ _ h => h) (Or.inl ⟨by rfl, ?_⟩) hS23 ?_
            rotate_left
            · rintro W' ⟨s0, s1⟩; go_simp; try with_reducible rfl
            simp only [Act.put, List.setIfInBounds_toArray, List.set_cons_zero, List.set_cons_succ]
            refine wpAnyH_done (by kernel_rfl) ?_ _
            refine NoPanic.normal ?_
            replace n02 := Lib.hid n02
            replace n03 := Lib.hid n03
            replace n90 := Lib.hid n90
            replace n91 := Lib.hid n91
            replace n10 := Lib.hid n10
            replace n11 := Lib.hid n11
            replace n20 := Lib.hid n20
            replace n21 := Lib.hid n21
            replace n30 := Lib.hid n30
            replace n31 := Lib.hid n31
            replace RW23 := Lib.hid RW23
            go_wp2
            go_meet
            case rel => exact ⟨rfl, gb9, gb10, L', C', Q', _, _, _, _, _, _, f23, rfl, rfl, bW23, hwi.out, RW23.out, n02.out, n03.out, n90.out, n91.out, n10.out, n11.out, n20.out, n21.out, n30.out, n31.out⟩
        · go_simp
          obtain ⟨f24, RW24, n90, oo⟩ := RW19.box4 (9, 0) hB19 42 (.int .i64 0) (.slice none 0 0) (.slice none 0 0) (.slice none 0 0)
          replace n02 := (oo (0, 2) (by decide)).trans n02
          replace n03 := (oo (0, 3) (by decide)).trans n03
          replace n91 := (oo (9, 1) (by decide)).trans n91
          have bb := belowAlloc W19 (.cells #[.int .i64 0, .slice none 0 0, .slice none 0 0, .slice none 0 0] 42)
          obtain ⟨gb9, hgb9⟩ : ∃ g, W19.heap.size = g := ⟨_, rfl⟩
          obtain ⟨W24, hW24⟩ : ∃ W' : World, W19.alloc (.cells #[.int .i64 0, .slice none 0 0, .slice none 0 0, .slice none 0 0] 42) = W' := ⟨_, rfl⟩
          have lgb9 : w2.heap.size ≤ gb9 := by rw [← hgb9]; exact b219.size
          have bW24 := bW19.trans (bb.mono hB19)
          have b224 := Below.step b219 bb
          rw [hW24] at RW24 bW24 b224 bb
          have hB24 := bW24.size
          have hS24 : W24.cell? ⟨w.heap.size, 0, none⟩ = some (.int .i64 K) ∧ W24.cell? ra = some (.int .i64 v) := ⟨by rw [b224.cell hlow.1, ← b219.cell hlow.1]; exact hS19.1, by rw [b224.cell hlow.2, ← b219.cell hlow.2]; exact hS19.2⟩
          rw [hW24, hgb9]
          rw [hgb9] at n90
          replace hW24 := Lib.hid hW24
          replace hgb9 := Lib.hid hgb9
          refine hK.out _ _ hS24 fun _ => ?_
          clear hK KK bb RW19 oo
          refine wpAnyH_ready (rs := [6]) (by kernel_rfl) (by simp) (AllReadyH.cons rfl (fun KK hK => ?_) (AllReadyH.nil))
          · go_simp
            refine (hwv.out W24 (hG2.out.below b224) (hL2.out.below b224)).mono ?_
            rintro e W25 ⟨x, y, z, rfl, bb, hz, L', C', Q', aL, aC, aQ, bL, bC, bQ, hwi, rfl, rfl, fw, Rw, k10, k11, k20, k21, k30, k31⟩
            subst hz
            obtain ⟨aLa, aLn, aLc, haL⟩ := (Rw.ownI k10).at.shape
            subst haL
            obtain ⟨bLa, bLn, bLc, hbL⟩ := (Rw.ownI k11).at.shape
            subst hbL
            obtain ⟨aCa, aCn, aCc, haC⟩ := (Rw.ownI k20).at.shape
            subst haC
            obtain ⟨bCa, bCn, bCc, hbC⟩ := (Rw.ownI k21).at.shape
            subst hbC
            obtain ⟨aQa, aQn, aQc, haQ⟩ := (Rw.ownI k30).at.shape
            subst haQ
            obtain ⟨bQa, bQn, bQc, hbQ⟩ := (Rw.ownI k31).at.shape
            subst hbQ
            obtain ⟨f25, RW25, sel, oth⟩ := RW24.merge (fun i => decide (i.1 = 1 ∨ i.1 = 2 ∨ i.1 = 3)) bb Rw hB24
            replace n02 := (oth (0, 2) (by decide)).trans n02
            replace n03 := (oth (0, 3) (by decide)).trans n03
            replace n91 := (oth (9, 1) (by decide)).trans n91
            replace n90 := (oth (9, 0) (by decide)).trans n90
            have n10 := (sel (1, 0) (by decide)).trans k10
            have n11 := (sel (1, 1) (by decide)).trans k11
            have n20 := (sel (2, 0) (by decide)).trans k20
            have n21 := (sel (2, 1) (by decide)).trans k21
            have n30 := (sel (3, 0) (by decide)).trans k30
            have n31 := (sel (3, 1) (by decide)).trans k31
            replace hwi := Lib.hid hwi
            clear sel oth k10 k11 k20 k21 k30 k31 Rw
            have bW25 := bW24.trans (bb.mono hB24)
            have b225 := Below.step b224 bb
            have hB25 := bW25.size
            have hS25 : W25.cell? ⟨w.heap.size, 0, none⟩ = some (.int .i64 K) ∧ W25.cell? ra = some (.int .i64 v) := ⟨by rw [b225.cell hlow.1, ← b224.cell hlow.1]; exact hS24.1, by rw [b225.cell hlow.2, ← b224.cell hlow.2]; exact hS24.2⟩
            refine hK.out _ _ hS25 fun _ => ?_
            clear hK KK bb RW24
            refine takeD (i := 7) (v := ?_) (some 39) rfl rfl (by kernel_rfl) (by kernel_rfl) (by kernel_rfl) (fun _ _ _ h => h) (Or.inl ⟨by rfl, ?_⟩) hS25 ?_
            rotate_left
            · rintro W' ⟨s0, s1⟩; go_simp; try with_reducible rfl
            simp only [Act.put, List.setIfInBounds_toArray, List.set_cons_zero, List.set_cons_succ]
            refine takeD (i := 8) (v := ?_) (some 47) rfl rfl (by kernel_rfl) (by kernel_rfl) (by kernel_rfl) (fun _ _ _ h => h) (Or.inl ⟨by rfl, ?_⟩) hS25 ?_
            rotate_left
            · rintro W' ⟨s0, s1⟩; go_simp; try with_reducible rfl
            simp only [Act.put, List.setIfInBounds_toArray, List.set_cons_zero, List.set_cons_succ]
            refine takeD (i := 9) (v := ?_) (some 48) rfl rfl (by kernel_rfl) (by kernel_rfl) (by kernel_rfl) (fun _ _ _ h => h) (Or.inl ⟨by rfl, ?_⟩) hS25 ?_
            rotate_left
            · rintro W' ⟨s0, s1⟩; go_simp; try with_reducible rfl
            simp only [Act.put, List.setIfInBounds_toArray, List.set_cons_zero, List.set_cons_succ]
            refine takeD (i := 10) (v := ?_) (some 49) rfl rfl (by kernel_rfl) (by kernel_rfl) (by kernel_rfl) (fun _ _ _ h => h) (Or.inl ⟨by rfl, ?_⟩) hS25 ?_
            rotate_left
            · rintro W' ⟨s0, s1⟩; go_simp; try with_reducible rfl
            simp only [Act.put, List.setIfInBounds_toArray, List.set_cons_zero, List.set_cons_succ]
            obtain ⟨t0, t1, t2, t3⟩ := RW25.cells4 n90
            have ft0 := RW25.frz4 n90 0
            have ft1 := RW25.frz4 n90 1
            have ft2 := RW25.frz4 n90 2
            have ft3 := RW25.frz4 n90 3
            have lt := (RW25.low4 n90)
            obtain ⟨f26, RW26, mm, oo⟩ := RW25.all4 n90 (.int .i64 0) (.slice aLa aLn aLc) (.slice aCa aCn aCc) (.slice aQa aQn aQc)
            replace n02 := (oo (0, 2) (by decide)).trans n02
            replace n03 := (oo (0, 3) (by decide)).trans n03
            replace n91 := (oo (9, 1) (by decide)).trans n91
            replace n10 := (oo (1, 0) (by decide)).trans n10
            replace n11 := (oo (1, 1) (by decide)).trans n11
            replace n20 := (oo (2, 0) (by decide)).trans n20
            replace n21 := (oo (2, 1) (by decide)).trans n21
            replace n30 := (oo (3, 0) (by decide)).trans n30
            replace n31 := (oo (3, 1) (by decide)).trans n31
            clear n90
            have n90 := mm
            have bW26 := Below.all4 (g := gb9) bW25 lt.1 (.int .i64 0) (.slice aLa aLn aLc) (.slice aCa aCn aCc) (.slice aQa aQn aQc)
            have b226 := Below.all4 (g := gb9) b225 lgb9 (.int .i64 0) (.slice aLa aLn aLc) (.slice aCa aCn aCc) (.slice aQa aQn aQc)
            obtain ⟨W26, hW26⟩ : ∃ W' : World, (((W25.setCell ⟨gb9, 0, none⟩ (.int .i64 0)).setCell ⟨gb9, 1, none⟩ (.slice aLa aLn aLc)).setCell ⟨gb9, 2, none⟩ (.slice aCa aCn aCc)).setCell ⟨gb9, 3, none⟩ (.slice aQa aQn aQc) = W' := ⟨_, rfl⟩
            rw [hW26] at RW26 bW26 b226
            have hS26 : W26.cell? ⟨w.heap.size, 0, none⟩ = some (.int .i64 K) ∧ W26.cell? ra = some (.int .i64 v) := ⟨by rw [b226.cell hlow.1, ← b225.cell hlow.1]; exact hS25.1, by rw [b226.cell hlow.2, ← b225.cell hlow.2]; exact hS25.2⟩
            replace hW26 := Lib.hid hW26
            refine wpAnyH_ready (rs := [13]) (by kernel_rfl) (by simp) (AllReadyH.cons rfl (fun KK hK => ?_) AllReadyH.nil)
            go_simp
            rw [hW26.out]
            refine hK.out _ _ hS26 fun _ => ?_
            clear hK KK t0 t1 t2 t3 ft0 ft1 ft2 ft3 mm oo lt RW25 hW26
            obtain ⟨t0, t1, t2, t3⟩ := RW26.cells4 n91
            have ft0 := RW26.frz4 n91 0
            have ft1 := RW26.frz4 n91 1
            have ft2 := RW26.frz4 n91 2
            have ft3 := RW26.frz4 n91 3
            have lt := (RW26.low4 n91)
            obtain ⟨f27, RW27, mm, oo⟩ := RW26.all4 n91 (.int .i64 0) (.slice bLa bLn bLc) (.slice bCa bCn bCc) (.slice bQa bQn bQc)
            replace n02 := (oo (0, 2) (by decide)).trans n02
            replace n03 := (oo (0, 3) (by decide)).trans n03
            replace n90 := (oo (9, 0) (by decide)).trans n90
            replace n10 := (oo (1, 0) (by decide)).trans n10
            replace n11 := (oo (1, 1) (by decide)).trans n11
            replace n20 := (oo (2, 0) (by decide)).trans n20
            replace n21 := (oo (2, 1) (by decide)).trans n21
            replace n30 := (oo (3, 0) (by decide)).trans n30
            replace n31 := (oo (3, 1) (by decide)).trans n31
            clear n91
            have n91 := mm
            have bW27 := Below.all4 (g := gb10) bW26 lt.1 (.int .i64 0) (.slice bLa bLn bLc) (.slice bCa bCn bCc) (.slice bQa bQn bQc)
            have b227 := Below.all4 (g := gb10) b226 lgb10 (.int .i64 0) (.slice bLa bLn bLc) (.slice bCa bCn bCc) (.slice bQa bQn bQc)
            obtain ⟨W27, hW27⟩ : ∃ W' : World, (((W26.setCell ⟨gb10, 0, none⟩ (.int .i64 0)).setCell ⟨gb10, 1, none⟩ (.slice bLa bLn bLc)).setCell ⟨gb10, 2, none⟩ (.slice bCa bCn bCc)).setCell ⟨gb10, 3, none⟩ (.slice bQa bQn bQc) = W' := ⟨_, rfl⟩
            rw [hW27] at RW27 bW27 b227
            have hS27 : W27.cell? ⟨w.heap.size, 0, none⟩ = some (.int .i64 K) ∧ W27.cell? ra = some (.int .i64 v) := ⟨by rw [b227.cell hlow.1, ← b226.cell hlow.1]; exact hS26.1, by rw [b227.cell hlow.2, ← b226.cell hlow.2]; exact hS26.2⟩
            replace hW27 := Lib.hid hW27
            refine wpAnyH_ready (rs := [14]) (by kernel_rfl) (by simp) (AllReadyH.cons rfl (fun KK hK => ?_) AllReadyH.nil)
            go_simp
            rw [hW27.out]
            refine hK.out _ _ hS27 fun _ => ?_
            clear hK KK t0 t1 t2 t3 ft0 ft1 ft2 ft3 mm oo lt RW26 hW27
            refine takeD (i := 15) (v := ?_) (some 7) rfl rfl (by kernel_rfl) (by kernel_rfl) (by kernel_rfl) (fun _ _ _ h => h) (Or.inl ⟨by rfl, ?_⟩) hS27 ?_
            rotate_left
            · rintro W' ⟨s0, s1⟩; go_simp; try with_reducible rfl
            simp only [Act.put, List.setIfInBounds_toArray, List.set_cons_zero, List.set_cons_succ]
            refine wpAnyH_done (by kernel_rfl) ?_ _
            refine NoPanic.normal ?_
            replace n02 := Lib.hid n02
            replace n03 := Lib.hid n03
            replace n90 := Lib.hid n90
            replace n91 := Lib.hid n91
            replace n10 := Lib.hid n10
            replace n11 := Lib.hid n11
            replace n20 := Lib.hid n20
            replace n21 := Lib.hid n21
            replace n30 := Lib.hid n30
            replace n31 := Lib.hid n31
            replace RW27 := Lib.hid RW27
            go_wp2
            go_meet
            case rel => exact ⟨rfl, gb9, gb10, L', C', Q', _, _, _, _, _, _, f27, rfl, rfl, bW27, hwi.out, RW27.out, n02.out, n03.out, n90.out, n91.out, n10.out, n11.out, n20.out, n21.out, n30.out, n31.out⟩
    case rest =>
      obtain ⟨rfl, g9, g10, L', C', Q', aL, aC, aQ, bL, bC, bQ, f9, rfl, rfl, bc, hwi, Rc, n02, n03, n90, n91, n10, n11, n20, n21, n30, n31⟩ := hcut
      obtain ⟨aLa, aLn, aLc, haL⟩ := (Rc.ownI n10).at.shape
      subst haL
      obtain ⟨bLa, bLn, bLc, hbL⟩ := (Rc.ownI n11).at.shape
      subst hbL
      obtain ⟨aCa, aCn, aCc, haC⟩ := (Rc.ownI n20).at.shape
      subst haC
      obtain ⟨bCa, bCn, bCc, hbC⟩ := (Rc.ownI n21).at.shape
      subst hbC
      obtain ⟨aQa, aQn, aQc, haQ⟩ := (Rc.ownI n30).at.shape
      subst haQ
      obtain ⟨bQa, bQn, bQc, hbQ⟩ := (Rc.ownI n31).at.shape
      subst hbQ
      have honeR := honeL.out v m L' C' Q' hod.out hwi
      clear hwi
      replace honeR := Lib.hid honeR
      obtain ⟨V, hVd⟩ : ∃ V : World, wc.drew = V := ⟨_, rfl⟩
      have RV : Rows w.heap.size V f9 := by rw [← hVd]; exact Rc.drew
      have bV : Below w.heap.size w V := by rw [← hVd]; exact bc.drew
      replace hVd := Lib.hid hVd
      clear Rc bc
      have hS : V.cell? ⟨g9, 0, none⟩ = some (.int .i64 0) ∧ V.cell? ⟨g9, 1, none⟩ = some (.slice aLa aLn aLc) ∧ V.cell? ⟨g9, 2, none⟩ = some (.slice aCa aCn aCc) ∧ V.cell? ⟨g9, 3, none⟩ = some (.slice aQa aQn aQc) ∧ V.cell? ⟨g10, 0, none⟩ = some (.int .i64 0) ∧ V.cell? ⟨g10, 1, none⟩ = some (.slice bLa bLn bLc) ∧ V.cell? ⟨g10, 2, none⟩ = some (.slice bCa bCn bCc) ∧ V.cell? ⟨g10, 3, none⟩ = some (.slice bQa bQn bQc) := by
        obtain ⟨a0, a1, a2, a3⟩ := RV.cells4 n90
        obtain ⟨d0, d1, d2, d3⟩ := RV.cells4 n91
        exact ⟨a0, a1, a2, a3, d0, d1, d2, d3⟩
      obtain ⟨g0, g1, g2, g3⟩ := RV.cells4 n02
      have fg0 := RV.frz4 n02 0
      have fg1 := RV.frz4 n02 1
      have fg2 := RV.frz4 n02 2
      have fg3 := RV.frz4 n02 3
      have lg0 := (RV.low4 n02).1
      obtain ⟨f15, R15, m02, o15⟩ := RV.all4 n02 (.int .i64 0) (.slice aLa aLn aLc) (.slice aCa aCn aCc) (.slice aQa aQn aQc)
      replace n03 := (o15 (0, 3) (by decide)).trans n03
      replace n90 := (o15 (9, 0) (by decide)).trans n90
      replace n91 := (o15 (9, 1) (by decide)).trans n91
      replace n10 := (o15 (1, 0) (by decide)).trans n10
      replace n11 := (o15 (1, 1) (by decide)).trans n11
      replace n20 := (o15 (2, 0) (by decide)).trans n20
      replace n21 := (o15 (2, 1) (by decide)).trans n21
      replace n30 := (o15 (3, 0) (by decide)).trans n30
      replace n31 := (o15 (3, 1) (by decide)).trans n31
      have b15 := Below.all4 (g := w.heap.size + 1) bV lg0 (.int .i64 0) (.slice aLa aLn aLc) (.slice aCa aCn aCc) (.slice aQa aQn aQc)
      obtain ⟨V15, hV15⟩ : ∃ V' : World, (((V.setCell ⟨w.heap.size + 1, 0, none⟩ (.int .i64 0)).setCell ⟨w.heap.size + 1, 1, none⟩ (.slice aLa aLn aLc)).setCell ⟨w.heap.size + 1, 2, none⟩ (.slice aCa aCn aCc)).setCell ⟨w.heap.size + 1, 3, none⟩ (.slice aQa aQn aQc) = V' := ⟨_, rfl⟩
      rw [hV15] at R15 b15
      have hS15 : V15.cell? ⟨g9, 0, none⟩ = some (.int .i64 0) ∧ V15.cell? ⟨g9, 1, none⟩ = some (.slice aLa aLn aLc) ∧ V15.cell? ⟨g9, 2, none⟩ = some (.slice aCa aCn aCc) ∧ V15.cell? ⟨g9, 3, none⟩ = some (.slice aQa aQn aQc) ∧ V15.cell? ⟨g10, 0, none⟩ = some (.int .i64 0) ∧ V15.cell? ⟨g10, 1, none⟩ = some (.slice bLa bLn bLc) ∧ V15.cell? ⟨g10, 2, none⟩ = some (.slice bCa bCn bCc) ∧ V15.cell? ⟨g10, 3, none⟩ = some (.slice bQa bQn bQc) := by
        obtain ⟨a0, a1, a2, a3⟩ := R15.cells4 n90
        obtain ⟨d0, d1, d2, d3⟩ := R15.cells4 n91
        exact ⟨a0, a1, a2, a3, d0, d1, d2, d3⟩
      replace hV15 := Lib.hid hV15
      clear n02 o15 RV bV lg0
      have n02 := m02
      clear m02
      go_upto_region 8 with fail
      refine wp_region_plan (fun w' => w'.cell? ⟨g9, 0, none⟩ = some (.int .i64 0) ∧ w'.cell? ⟨g9, 1, none⟩ = some (.slice aLa aLn aLc) ∧ w'.cell? ⟨g9, 2, none⟩ = some (.slice aCa aCn aCc) ∧ w'.cell? ⟨g9, 3, none⟩ = some (.slice aQa aQn aQc) ∧ w'.cell? ⟨g10, 0, none⟩ = some (.int .i64 0) ∧ w'.cell? ⟨g10, 1, none⟩ = some (.slice bLa bLn bLc) ∧ w'.cell? ⟨g10, 2, none⟩ = some (.slice bCa bCn bCc) ∧ w'.cell? ⟨g10, 3, none⟩ = some (.slice bQa bQn bQc)) 6 [(0, true), (1, true), (2, true), (3, true), (4, false), (5, false)] (by kernel_rfl) (by kernel_rfl) ?_
      rw [hVd.out]
      refine headY (v := ?_) (some 50) rfl rfl (Or.inl ⟨by rfl, ?_⟩) hS ?_
      rotate_left
      · rintro W' ⟨s0, s1, s2, s3, s4, s5, s6, s7⟩; go_simp; try with_reducible rfl
      simp only [Act.put, List.setIfInBounds_toArray, List.set_cons_zero, List.set_cons_succ]
      refine headY (v := ?_) (some 51) rfl rfl (Or.inl ⟨by rfl, ?_⟩) hS ?_
      rotate_left
      · rintro W' ⟨s0, s1, s2, s3, s4, s5, s6, s7⟩; go_simp; try with_reducible rfl
      simp only [Act.put, List.setIfInBounds_toArray, List.set_cons_zero, List.set_cons_succ]
      refine headY (v := ?_) (some 52) rfl rfl (Or.inl ⟨by rfl, ?_⟩) hS ?_
      rotate_left
      · rintro W' ⟨s0, s1, s2, s3, s4, s5, s6, s7⟩; go_simp; try with_reducible rfl
      simp only [Act.put, List.setIfInBounds_toArray, List.set_cons_zero, List.set_cons_succ]
      refine headY (v := ?_) (some 2) rfl rfl (Or.inl ⟨by rfl, ?_⟩) hS ?_
      rotate_left
      · rintro W' ⟨s0, s1, s2, s3, s4, s5, s6, s7⟩; go_simp; try with_reducible rfl
      simp only [Act.put, List.setIfInBounds_toArray, List.set_cons_zero, List.set_cons_succ]
      refine headC rfl (fun KK hK => ?_)
      go_simp
      rw [hV15.out]
      refine hK _ _ hS15 ?_
      clear hK KK hS g0 g1 g2 g3 fg0 fg1 fg2 fg3
      obtain ⟨h0, h1, h2, h3⟩ := R15.cells4 n03
      have fh0 := R15.frz4 n03 0
      have fh1 := R15.frz4 n03 1
      have fh2 := R15.frz4 n03 2
      have fh3 := R15.frz4 n03 3
      have lh0 := (R15.low4 n03).1
      obtain ⟨f16, R16, m03, o16⟩ := R15.all4 n03 (.int .i64 0) (.slice bLa bLn bLc) (.slice bCa bCn bCc) (.slice bQa bQn bQc)
      replace n02 := (o16 (0, 2) (by decide)).trans n02
      replace n90 := (o16 (9, 0) (by decide)).trans n90
      replace n91 := (o16 (9, 1) (by decide)).trans n91
      replace n10 := (o16 (1, 0) (by decide)).trans n10
      replace n11 := (o16 (1, 1) (by decide)).trans n11
      replace n20 := (o16 (2, 0) (by decide)).trans n20
      replace n21 := (o16 (2, 1) (by decide)).trans n21
      replace n30 := (o16 (3, 0) (by decide)).trans n30
      replace n31 := (o16 (3, 1) (by decide)).trans n31
      have b16 := Below.all4 (g := w.heap.size + 2) b15 lh0 (.int .i64 0) (.slice bLa bLn bLc) (.slice bCa bCn bCc) (.slice bQa bQn bQc)
      obtain ⟨V16, hV16⟩ : ∃ V' : World, (((V15.setCell ⟨w.heap.size + 2, 0, none⟩ (.int .i64 0)).setCell ⟨w.heap.size + 2, 1, none⟩ (.slice bLa bLn bLc)).setCell ⟨w.heap.size + 2, 2, none⟩ (.slice bCa bCn bCc)).setCell ⟨w.heap.size + 2, 3, none⟩ (.slice bQa bQn bQc) = V' := ⟨_, rfl⟩
      rw [hV16] at R16 b16
      have hS16 : V16.cell? ⟨g9, 0, none⟩ = some (.int .i64 0) ∧ V16.cell? ⟨g9, 1, none⟩ = some (.slice aLa aLn aLc) ∧ V16.cell? ⟨g9, 2, none⟩ = some (.slice aCa aCn aCc) ∧ V16.cell? ⟨g9, 3, none⟩ = some (.slice aQa aQn aQc) ∧ V16.cell? ⟨g10, 0, none⟩ = some (.int .i64 0) ∧ V16.cell? ⟨g10, 1, none⟩ = some (.slice bLa bLn bLc) ∧ V16.cell? ⟨g10, 2, none⟩ = some (.slice bCa bCn bCc) ∧ V16.cell? ⟨g10, 3, none⟩ = some (.slice bQa bQn bQc) := by
        obtain ⟨a0, a1, a2, a3⟩ := R16.cells4 n90
        obtain ⟨d0, d1, d2, d3⟩ := R16.cells4 n91
        exact ⟨a0, a1, a2, a3, d0, d1, d2, d3⟩
      replace hV16 := Lib.hid hV16
      clear n03 o16 R15 b15 lh0
      have n03 := m03
      clear m03
      refine headC rfl (fun KK hK => ?_)
      go_simp
      rw [hV16.out]
      refine hK _ _ hS16 ?_
      clear hK KK hS15 h0 h1 h2 h3 fh0 fh1 fh2 fh3
      refine head0 ?_
      simp only [List.drop_succ_cons, List.drop_zero]
      clear hS16
      obtain ⟨g0, g1, g2, g3⟩ := R16.cells4 n02
      obtain ⟨h0, h1, h2, h3⟩ := R16.cells4 n03
      replace n02 := Lib.hid n02
      replace n03 := Lib.hid n03
      replace n90 := Lib.hid n90
      replace n91 := Lib.hid n91
      replace n10 := Lib.hid n10
      replace n11 := Lib.hid n11
      replace n20 := Lib.hid n20
      replace n21 := Lib.hid n21
      replace n30 := Lib.hid n30
      replace n31 := Lib.hid n31
      replace R16 := Lib.hid R16
      go_wp2
      refine NoPanic.normal ?_
      go_wp2
      (try simp only [Exit.inBlock, Exit.then])
      refine bodyPost_ret (v := .tuple #[.bool false, .agg #[.int .i64 0, .slice aLa aLn aLc, .slice aCa aCn aCc, .slice aQa aQn aQc], .agg #[.int .i64 0, .slice bLa bLn bLc, .slice bCa bCn bCc, .slice bQa bQn bQc], .nilIface]) (by simp [results, Tryz.results18, go_sem, g0, g1, g2, g3, h0, h1, h2, h3]) rfl ?_
      exact ⟨_, _, _, _, rfl, b16, rfl, .inr ⟨rfl, hno.out, L', C', Q', _, _, _, _, _, _, honeR.out, rfl, rfl, f16, R16.out, n10.out, n11.out, n20.out, n21.out, n30.out, n31.out⟩⟩

theorem WitIs.pos {G : List (List Int)} {v : Nat} {L C Q : List Nat} (h : WitIs G v L C Q) : 1 ≤ L.length ∧ 1 ≤ Q.length := by
  obtain ⟨c, d, u1, u2, I, O, _, _, hc, _, h3, _, _, _, rfl, rfl, rfl⟩ := h
  refine ⟨?_, by simp⟩
  have he := h3.way.ends
  obtain ⟨w', hw⟩ := h3.way.ne
  cases hd : u1.dropLast with
  | nil =>
    rw [hd, hw] at he
    simp at he
    omega
  | cons x l => simp
theorem OneIs.pos {K R : Nat} {T : List Int} {L C Q : List Nat} (h : OneIs K R T L C Q) : 1 ≤ L.length ∧ 1 ≤ Q.length := by
  obtain ⟨_, _, _, _, _, h3⟩ := h
  exact h3.pos
/-- The answer, and the two rows' shape. -/
theorem OnePost.ans {w w' : World} {K R : Nat} {T : List Int} {yes x y e : Value} (h : OnePost w K R T yes x y e w') : e = .nilIface ∧ ∃ Y, yes = .bool Y ∧ (Y = true ↔ ¬ NotOne K R T) ∧
    ∃ a1 n1 c1 a2 n2 c2 a3 n3 c3 a4 n4 c4 a5 n5 c5 a6 n6 c6, x = .agg #[.int .i64 0, .slice a1 n1 c1, .slice a2 n2 c2, .slice a3 n3 c3] ∧ y = .agg #[.int .i64 0, .slice a4 n4 c4, .slice a5 n5 c5, .slice a6 n6 c6] := by
  obtain ⟨rfl, ⟨rfl, rfl, rfl, hn⟩ | ⟨rfl, hn, L, C, Q, aL, aC, aQ, bL, bC, bQ, _, rfl, rfl, f, hr, h1, h2, h3, h4, h5, h6⟩⟩ := h
  · exact ⟨rfl, true, rfl, ⟨fun _ => hn, fun _ => rfl⟩, _, _, _, _, _, _, _, _, _, _, _, _, _, _, _, _, _, _, rfl, rfl⟩
  · obtain ⟨_, _, _, rfl⟩ := (hr.ownI h1).at.shape
    obtain ⟨_, _, _, rfl⟩ := (hr.ownI h2).at.shape
    obtain ⟨_, _, _, rfl⟩ := (hr.ownI h3).at.shape
    obtain ⟨_, _, _, rfl⟩ := (hr.ownI h4).at.shape
    obtain ⟨_, _, _, rfl⟩ := (hr.ownI h5).at.shape
    obtain ⟨_, _, _, rfl⟩ := (hr.ownI h6).at.shape
    exact ⟨rfl, false, rfl, ⟨fun h => (by cases h), fun h => absurd hn h⟩, _, _, _, _, _, _, _, _, _, _, _, _, _, _, _, _, _, _, rfl, rfl⟩
end Go.Proofs.YtilpckngghffoaaGreatDoor

namespace Go.Proofs.YtilpckngghffoaaGreatDoor
open Go.RowKit Go.Maps
set_option maxRecDepth 100000

theorem ringI_syms {K R : Nat} {T w : List Int} (hr : RuleOk K R T) (hw : Syms K w) (hl : 1 ≤ w.length) : Syms K (ringI K R T w) := by
  intro y hy
  obtain ⟨i, hi, rfl⟩ := List.mem_iff_getElem.1 hy
  rw [ringI_len] at hi
  have h2 := ringI_get (K := K) (R := R) (T := T) (w := w) hi
  have e : (ringI K R T w)[i]'(by rw [ringI_len]; exact hi) = (ringI K R T w).getD i 0 := by simp [List.getD, ringI_len, hi]
  rw [e, h2]
  have hs := syms_take (syms_drop (ringX_syms (R := R) hw hl) i) (2 * R + 1)
  have hb := numW_lt _ hs
  rw [show (((ringX R w).drop i).take (2 * R + 1)).length = 2 * R + 1 by rw [List.length_take, List.length_drop, ringX_len]; omega, ← hr.len] at hb
  have := hr.syms _ (List.getElem_mem hb)
  simpa [List.getD, hb] using this
theorem pw_two {K N : Nat} (hK : 2 ≤ K) (h : pw K N ≤ 4096) : N ≤ 12 := by
  apply Classical.byContradiction
  intro q
  have h1 : pw 2 13 ≤ pw K N := Nat.le_trans (Nat.pow_le_pow_left hK 13) (Nat.pow_le_pow_right (by omega) (by omega))
  have : pw 2 13 = 8192 := by decide
  omega
theorem digs_zero' (K : Nat) : ∀ n, digs K n 0 = List.replicate n 0
  | 0 => rfl
  | n + 1 => by
    have h := digs_zero' K n
    unfold digs
    rw [Nat.zero_div, h, Nat.zero_mod, List.replicate_succ']
    rfl
/-- The image of a ring by its number. -/
def imgN (K R : Nat) (T : List Int) (n x : Nat) : List Int := ringI K R T (digs K n x)
/-- What Rings leaves at a small rule and a length. -/
def RPost (r : Nat → Addr) (w : World) (K R : Nat) (T : List Int) (n : Nat) (yes x y e : Value) (w' : World) : Prop :=
  (1 < K ∧ 4096 < pw K n ∧ yes = .bool false ∧ x = .slice none 0 0 ∧ y = .slice none 0 0 ∧ ErrIs r w' (fresh sInject 1 4) e) ∨
  ((K = 1 ∨ pw K n ≤ 4096) ∧ e = .nilIface ∧ yes = .bool true ∧ x = .slice none 0 0 ∧ y = .slice none 0 0 ∧ (K = 1 ∨ NoRepeat (imgN K R T n) (pw K n))) ∨
  (1 < K ∧ pw K n ≤ 4096 ∧ e = .nilIface ∧ yes = .bool false ∧ ∃ a b, FirstIs (imgN K R T n) (pw K n) a b ∧ OwnI w.heap.size w' x (digs K n a) ∧ OwnI w.heap.size w' y (digs K n b) ∧ (x.ownBlock = none ∨ x.ownBlock ≠ y.ownBlock))

set_option maxHeartbeats 8000000 in
theorem rings_ok (r : Nat → Addr) (K R N : Nat) (va : Option Addr) (vn vc : Nat) (T : List Int) (w : World) (hg : Glob r w) (h : IntsAt w (.slice va vn vc) T) (hr : RuleOk K R T) (hl : T.length ≤ 256) (hN : 1 ≤ N) (hNb : N ≤ 9223372036854775807) :
    Calls Tryz.prog 19 #[.agg #[.int .i64 K, .int .i64 R, .slice va vn vc], .int .i64 N] w (Ret4 (RPost r w K R T N) w) := by
  have b0 := belowAlloc w (.cells #[.int .i64 K, .int .i64 R, .slice va vn vc] 24)
  have q : Box3 (w.alloc (.cells #[.int .i64 K, .int .i64 R, .slice va vn vc] 24)) w.heap.size (.int .i64 K) (.int .i64 R) (.slice va vn vc) := by simp [Box3, go_sem]
  have hk1 := hr.k1
  have hk4 := hr.k4
  have hsm : smallP K R T = none := by rw [smallP_ok hr, if_neg (by omega)]
  have d1 : decide ((N : Int) < 1) = false := decide_eq_false (by omega)
  unfold RPost
  replace hg := Lib.hid (hg.below b0)
  replace h := Lib.hid (h.below b0)
  replace hr := Lib.hid hr
  replace hsm := Lib.hid hsm
  go_enter Tryz.func19, Tryz.ntmps19
  go_wp2_with fail
  refine (small_any r K R va vn vc T _ hg.out h.out).mono ?_
  rintro e w1 ⟨x, rfl, b1, hx⟩
  rw [hsm.out] at hx
  obtain rfl := hx.none_eq
  have b01 := Below.step b0 b1
  have q1 := q.below b1
  have hg1 := hg.out.below b1
  have h1 := h.out.below b1
  replace hg1 := Lib.hid hg1
  replace h1 := Lib.hid h1
  replace q1 := Lib.hid q1
  clear q
  go_wp2_with fail
  go_loopw [9, 10] (fun cv iv wr => ∃ i : Nat, i ≤ N ∧ iv = .int .i64 i ∧ cv = .int .i64 ((pw K i : Nat) : Int) ∧ pw K i ≤ 4096 ∧ (K = 1 → i = 0) ∧ Below w1.heap.size w1 wr) (fun _ iv _ => N - (intOf iv).toNat)
  case atStart => exact ⟨0, Nat.zero_le _, rfl, rfl, by rw [pw_zero]; decide, fun _ => rfl, Below.refl _ _⟩
  case round =>
    obtain ⟨i, hi, rfl, rfl, hp, hone, bI⟩ := hrel
    obtain ⟨wo, rfl⟩ : ∃ wo : World, wo = wr := ⟨_, rfl⟩
    obtain ⟨⟨z0, z1, z2⟩, -, -, -⟩ := q1.out.below bI
    by_cases hK1 : K = 1
    · have hi0 : i = 0 := hone hK1
      have d2 : decide ((1 : Int) < (K : Int)) = false := decide_eq_false (by omega)
      have d3 : ((K : Int) == 1) = true := by rw [beq_iff_eq]; omega
      have d4 : decide ((i : Int) < (N : Int)) = true := decide_eq_true (by omega)
      have d5 : i < N := by omega
      have bE := Below.step b01 bI
      have hK1' := Lib.hid hK1
      replace hp := Lib.hid hp
      replace hone := Lib.hid hone
      obtain ⟨pi, hpi⟩ : ∃ z, pw K i = z := ⟨_, rfl⟩
      rw [hpi]
      replace hpi := Lib.hid hpi
      go_wp2
      (try simp only [Exit.inBlock, Exit.then])
      refine bodyPost_ret (results_tmp4 rfl _ _ _) rfl ?_
      exact ⟨_, _, _, _, rfl, bE, .inr (.inl ⟨.inl hK1'.out, rfl, rfl, rfl, rfl, .inl hK1'.out⟩)⟩
    · have hK2 : 2 ≤ K := by omega
      have d2 : decide ((1 : Int) < (K : Int)) = true := decide_eq_true (by omega)
      have d2' : 1 < K := by omega
      by_cases hiN : i < N
      · have d4 : decide ((i : Int) < (N : Int)) = true := decide_eq_true (by omega)
        have hsuc := pw_succ K i
        obtain ⟨c, hc⟩ : ∃ c, pw K (i + 1) = c := ⟨_, rfl⟩
        rw [hc] at hsuc
        have hcb : c ≤ 16384 := by rw [hsuc]; exact Nat.le_trans (Nat.mul_le_mul hp hk4) (by decide)
        have hmul : ((pw K i : Nat) : Int) * (K : Int) = (c : Int) := by rw [hsuc]; simp
        obtain ⟨pi, hpi⟩ : ∃ z, pw K i = z := ⟨_, rfl⟩
        rw [hpi] at hmul hp ⊢
        have hpi2 := Lib.hid hp
        clear hp
        replace hpi := Lib.hid hpi
        replace hsuc := Lib.hid hsuc
        by_cases hbig : 4096 < c
        · have d5 : decide ((4096 : Int) < (c : Int)) = true := decide_eq_true (by omega)
          have hbigN : 4096 < pw K N := Nat.lt_of_lt_of_le (by rw [hc]; exact hbig) (pw_mono hk1 (show i + 1 ≤ N by omega))
          replace hbigN := Lib.hid hbigN
          replace hc := Lib.hid hc
          replace hone := Lib.hid hone
          go_wp2_with fail
          refine (new_any r _ 1 4 wo (hg1.out.below bI) (by decide) (by decide)).mono ?_
          rintro e w2 ⟨u, rfl, b2, hu⟩
          have bE := Below.step b01 (Below.step bI b2)
          replace hu := Lib.hid hu
          go_wp2
          (try simp only [Exit.inBlock, Exit.then])
          refine bodyPost_ret (results_tmp4 rfl _ _ _) rfl ?_
          exact ⟨_, _, _, _, rfl, bE, .inl ⟨by omega, hbigN.out, rfl, rfl, rfl, hu.out⟩⟩
        · have d5 : decide ((4096 : Int) < (c : Int)) = false := decide_eq_false (by omega)
          replace hc := Lib.hid hc
          replace hone := Lib.hid hone
          go_wp2
          go_roundw
          case measure => simp [intOf]; omega
          case rel => exact ⟨i + 1, by omega, by go_num, by rw [hc.out], by rw [hc.out]; omega, fun q => absurd q hK1, bI⟩
      · obtain rfl : i = N := by omega
        have d4 : decide ((i : Int) < (i : Int)) = false := decide_eq_false (by omega)
        have d3 : ((K : Int) == 1) = false := by rw [beq_eq_false_iff_ne]; omega
        have hN12 := pw_two hK2 hp
        have hsy : ∀ x, Syms K (imgN K R T i x) := fun x => ringI_syms hr.out (digs_syms hk1 i x) (by rw [digs_length]; exact hN)
        have hln : ∀ x, (imgN K R T i x).length = i := fun x => by unfold imgN; rw [ringI_len, digs_length]
        have bm := belowAlloc wo (.map #[] 0)
        have hM0 := RingMap.made wo K i (imgN K R T i) (fun _ => .slice none 0 0)
        have mkm : (Instr.makeMap 96 none).run Tryz.prog wo = .ok (.map (some wo.heap.size)) (wo.alloc (.map #[] 0)) := rfl
        have s5 : (wo.alloc (.map #[] 0)).heap.size = wo.heap.size + 1 := by simp
        obtain ⟨W5, hW5⟩ : ∃ W : World, wo.alloc (.map #[] 0) = W := ⟨_, rfl⟩
        rw [hW5] at bm hM0 mkm s5
        obtain ⟨wv, w6, mk, ho, b6⟩ := run_makeI (i : Int) i W5 rfl (by omega)
        rw [← digs_zero' K i] at ho
        obtain ⟨f0, hR0, hf0, -⟩ := (Rows.void W5.heap.size W5).addE (7, 0) (r' := rowI wv (digs K i 0)) b6 ho (fun k hk => (ho.lt k hk).1)
        have hM6 := hM0.below b6
        have bI6 : Below wo.heap.size wo w6 := Below.step bm b6
        obtain ⟨b, hb⟩ : ∃ b, wo.heap.size = b := ⟨_, rfl⟩
        obtain ⟨M, hM⟩ : ∃ M, pw K i = M := ⟨_, rfl⟩
        rw [hb] at hM6 mkm bI6 s5
        rw [hM] at hp ⊢
        obtain ⟨wva, wvn, wvc, rfl⟩ := ho.at.shape
        have q6 := (q1.out.below bI).below (w' := w6) (by rw [hb]; exact bI6)
        have h6 := (h1.out.below bI).below (w' := w6) (by rw [hb]; exact bI6)
        have b16 : Below w1.heap.size w1 w6 := Below.step bI (by rw [hb]; exact bI6)
        have sB := b16.size
        have sb1 : w1.heap.size ≤ b := by rw [← hb]; exact bI.size
        have hMp := hM
        replace hW5 := Lib.hid hW5
        replace hb := Lib.hid hb
        replace hM := Lib.hid hM
        replace hM0 := Lib.hid hM0
        replace hM6 := Lib.hid hM6
        replace hR0 := Lib.hid hR0
        replace hf0 := Lib.hid hf0
        replace ho := Lib.hid ho
        replace q6 := Lib.hid q6
        replace h6 := Lib.hid h6
        replace hsy := Lib.hid hsy
        replace hln := Lib.hid hln
        replace hone := Lib.hid hone
        replace hMp := Lib.hid hMp
        go_wp2_with fail
        clear mk mkm z0 z1 z2
        go_loopw [12, 52] (fun wv cv wr => ∃ (j : Nat) (vals : Nat → Value) (f : Names) (wv' : Value), j ≤ M ∧ cv = .int .i64 j ∧ wv' = wv ∧ RingMap wr b j K i (imgN K R T i) vals ∧ Rows W5.heap.size wr f ∧ (∀ x, x < j → f (7, x) = some (rowI (vals x) (digs K i x))) ∧ (j < M → f (7, j) = some (rowI wv' (digs K i j))) ∧ Below b wo wr ∧ W5.heap.size ≤ wr.heap.size ∧ NoRepeat (imgN K R T i) j) (fun _ cv _ => M - (intOf cv).toNat)
        case atStart => exact ⟨0, _, f0, _, Nat.zero_le _, rfl, rfl, hM6.out, hR0.out, fun x hx => absurd hx (Nat.not_lt_zero _), fun _ => hf0.out, bI6, b6.size, fun x y hx hy => absurd hy (Nat.not_lt_zero _)⟩
        case round =>
          clear hM6 hR0 hf0 ho
          obtain ⟨j, vals, f, wv, hj, rfl, rfl, hmap, hrows, hvals, hcur, bJ, bR, hnr⟩ := hrel
          obtain ⟨wp', rfl⟩ : ∃ wo : World, wo = wr := ⟨_, rfl⟩
          have bw6 := Below.step b01 (Below.step bI (by rw [hb.out]; exact bJ))
          by_cases hjM : j < M
          · have dj : decide ((j : Int) < (M : Int)) = true := decide_eq_true (by omega)
            have oW := hrows.ownI (hcur hjM)
            obtain ⟨wva, wvn, wvc, rfl⟩ := oW.at.shape
            have hbJ : Below wo.heap.size wo wp' := by rw [hb.out]; exact bJ
            obtain ⟨⟨z0, z1, z2⟩, -, -, -⟩ := (q1.out.below bI).below hbJ
            have hT := (h1.out.below bI).below hbJ
            have hds := digs_syms (K := K) hk1 i j
            have hdl : (digs K i j).length = i := digs_length K i j
            have sR := bR
            have hcur' := hcur hjM
            replace hT := Lib.hid hT
            replace oW := Lib.hid oW
            replace hmap := Lib.hid hmap
            replace hrows := Lib.hid hrows
            replace hvals := Lib.hid hvals
            replace hcur := Lib.hid hcur
            replace hcur' := Lib.hid hcur'
            replace hnr := Lib.hid hnr
            replace hds := Lib.hid hds
            replace hdl := Lib.hid hdl
            replace hbJ := Lib.hid hbJ
            go_wp2_with fail
            refine (ring_step K R va vn vc T _ (digs K i j) wp' hT.out hr.out oW.out.at hds.out (by rw [hdl.out]; exact hN) (by rw [hdl.out]; omega)).mono ?_
            rintro e w7 ⟨yv, _, rfl, b7, rfl, hy⟩
            obtain ⟨yva, yvn, yvc, rfl⟩ := hy.at.shape
            obtain ⟨⟨v0, v1, v2⟩, -, -, -⟩ := ((q1.out.below bI).below hbJ.out).below b7
            replace hy := Lib.hid hy
            clear z0 z1 z2
            go_wp2_with fail
            refine (word_text K _ (ringI K R T (digs K i j)) w7 hy.out.at hk1 hk4 (hsy.out j) (by rw [show (ringI K R T (digs K i j)).length = i from hln.out j]; exact hN) (by rw [show (ringI K R T (digs K i j)).length = i from hln.out j]; omega)).mono ?_
            rintro e w8 ⟨kv, _, rfl, b8, rfl, rfl⟩
            have b78 := Below.step b7 b8
            have hm8 := hmap.out.below b78
            have hr8 := hrows.out.below b78
            obtain ⟨⟨z0, z1, z2⟩, -, -, -⟩ := (((q1.out.below bI).below hbJ.out).below b7).below b8
            clear v0 v1 v2
            by_cases hhit : ∃ x, x < j ∧ imgN K R T i x = imgN K R T i j
            · obtain ⟨x, hx, hxe⟩ := hhit
              have hl1 := hm8.hit hx (hsy.out x) (hln.out x) (by omega)
              rw [hxe] at hl1
              have oX := hr8.ownI (hvals.out x hx)
              have oV := hr8.ownI hcur'.out
              have hdis := hr8.2 (7, x) (7, j) _ _ (hvals.out x hx) hcur'.out (by intro e; injection e with _ e; omega)
              obtain ⟨vx, hvx⟩ : ∃ v, vals x = v := ⟨_, rfl⟩
              rw [hvx] at hl1 oX hdis
              obtain ⟨vxa, vxn, vxc, rfl⟩ := oX.at.shape
              have hfi : FirstIs (imgN K R T i) M x j := ⟨hx, hjM, hxe, hnr.out⟩
              have sbase : w.heap.size ≤ W5.heap.size := by have := b01.size; omega
              have oX' := oX.mono sbase
              have oV' := oV.mono sbase
              have bE := Below.step bw6 b78
              have hl2 : (Instr.lookup 96 (.map (some b)) (.string (txtW (ringI K R T (digs K i j)))) true).run Tryz.prog w8 = .ok (.tuple #[.slice vxa vxn vxc, .bool true]) w8 := hl1
              replace oX := Lib.hid oX
              replace oV := Lib.hid oV
              replace oX' := Lib.hid oX'
              replace oV' := Lib.hid oV'
              replace hdis := Lib.hid hdis
              replace hfi := Lib.hid hfi
              replace hm8 := Lib.hid hm8
              replace hr8 := Lib.hid hr8
              replace hxe := Lib.hid hxe
              replace hvx := Lib.hid hvx
              clear hl1
              go_wp2
              (try simp only [Exit.inBlock, Exit.then])
              refine bodyPost_ret (results_tmp4 rfl _ _ _) rfl ?_
              exact ⟨_, _, _, _, rfl, bE,   .inr (.inr ⟨by omega, by rw [hM.out]; exact hp, rfl, rfl, x, j, by rw [hM.out]; exact hfi.out, oX'.out, oV'.out, hdis.out⟩)⟩
            · have hno : ∀ x, x < j → imgN K R T i x ≠ imgN K R T i j := fun x hx e => hhit ⟨x, hx, e⟩
              obtain ⟨uv, hl1⟩ := hm8.miss (hsy.out j) (hln.out j) (by omega) hno
              obtain ⟨w9, hst, hm9, hg9⟩ := hm8.store hk4 (fun x _ => hsy.out x) (fun x _ => hln.out x) (by omega) hno (.slice wva wvn wvc) (by omega)
              have hr9 := hr8.map hm8.blk.choose_spec.choose_spec hg9
              have c8 : Below b wo w8 := bJ.trans (b78.mono (by rw [← hb.out]; exact bJ.size))
              have c9 : Below b wo w9 := c8.grown hg9 (by rw [← hb.out]; exact c8.size) (fun k hk => by cases hk; exact Nat.le_refl _)
              have hr9o := hr9.ownI hcur'.out
              have hl2 : (Instr.lookup 96 (.map (some b)) (.string (txtW (ringI K R T (digs K i j)))) true).run Tryz.prog w8 = .ok (.tuple #[uv, .bool false]) w8 := hl1
              have hst2 : (Instr.mapUpdate 96 (.map (some b)) (.string (txtW (ringI K R T (digs K i j)))) (.slice wva wvn wvc)).run Tryz.prog w8 = .ok () w9 := hst
              have cz : Below wo.heap.size wo w9 := by rw [hb.out]; exact c9
              obtain ⟨⟨v0, v1, v2⟩, -, -, -⟩ := (q1.out.below bI).below cz
              have hnr2 : NoRepeat (imgN K R T i) (j + 1) := hnr.out.succ hno
              replace hm8 := Lib.hid hm8
              replace hm9 := Lib.hid hm9
              replace hr8 := Lib.hid hr8
              replace hr9 := Lib.hid hr9
              replace hr9o := Lib.hid hr9o
              replace hno := Lib.hid hno
              replace hhit := Lib.hid hhit
              replace hnr2 := Lib.hid hnr2
              replace cz := Lib.hid cz
              clear hl1 hst z0 z1 z2
              go_wp2_with fail
              refine (word_next_digs K i j _ w9 hr9o.out.at hk1 hk4 (by omega) (by rw [hM.out]; exact hjM)).mono ?_
              rintro e w10 ⟨ov, _, rfl, b10, rfl, zs, hov, hzs⟩
              obtain ⟨f2, hr10, hf2, hf2o⟩ := hr9.out.addE (7, j + 1) (r' := rowI ov zs) b10 (hov.mono (Nat.le_trans sR (Nat.le_trans b78.size hg9.size))) (fun k hk => (hov.lt k hk).1)
              obtain ⟨ova, ovn, ovc, rfl⟩ := hov.at.shape
              have hm10 := hm9.out.below b10
              have c10 : Below b wo w10 := c9.trans (b10.mono (by rw [← hb.out]; exact c9.size))
              have d10 : W5.heap.size ≤ w10.heap.size := Nat.le_trans sR (Nat.le_trans b78.size (Nat.le_trans hg9.size b10.size))
              replace hov := Lib.hid hov
              replace hzs := Lib.hid hzs
              replace hm10 := Lib.hid hm10
              replace hr10 := Lib.hid hr10
              replace hf2 := Lib.hid hf2
              replace hf2o := Lib.hid hf2o
              clear v0 v1 v2
              go_wp2
              go_roundw
              case measure => simp [intOf]; omega
              case rel =>
                refine ⟨j + 1, _, f2, _, by omega, by go_num, rfl, hm10.out, hr10.out, fun x hx => ?_, fun hlt => ?_, c10, d10, hnr2.out⟩
                · rw [hf2o.out (7, x) (by intro e; injection e with _ e; omega)]
                  by_cases e : x = j
                  · subst e
                    show f (7, x) = some (rowI (if x = x then _ else _) _)
                    rw [if_pos rfl]; exact hcur'.out
                  · show f (7, x) = some (rowI (if x = j then _ else _) _)
                    rw [if_neg e]; exact hvals.out x (by omega)
                · have := hzs.out (by rw [hM.out]; exact hlt)
                  rw [hf2.out, this]
          · have dj : decide ((j : Int) < (M : Int)) = false := decide_eq_false (by omega)
            obtain rfl : j = M := by omega
            replace hmap := Lib.hid hmap
            replace hrows := Lib.hid hrows
            replace hvals := Lib.hid hvals
            replace hcur := Lib.hid hcur
            replace hnr := Lib.hid hnr
            go_wp2
            (try simp only [Exit.inBlock, Exit.then])
            refine bodyPost_ret (results_tmp4 rfl _ _ _) rfl ?_
            exact ⟨_, _, _, _, rfl, bw6, .inr (.inl ⟨.inr (by rw [hM.out]; exact hp), rfl, rfl, rfl, rfl, .inr (by rw [hM.out]; exact hnr.out)⟩)⟩
end Go.Proofs.YtilpckngghffoaaGreatDoor

namespace Go.Proofs.YtilpckngghffoaaGreatDoor
open Go.RowKit
set_option maxRecDepth 100000

/-- Apart, called with a literal list of lists in any order. -/
theorem apart_litQ (vs : List Value) (xs : List (List Int)) (lo : Nat) (w : World) (h : Kin w lo vs xs) (hlo : lo ≤ w.heap.size) (hn : vs.length ≤ 1000) (hx : ∀ x ∈ xs, x.length ≤ 1099511627776) (cs : Array Value) (hcs : cs.toList = vs) (n : Nat) (hnn : n = vs.length) :
    Calls Tryz.prog 22 #[.slice (some ⟨w.heap.size, 0, none⟩) n n] (w.alloc (.cells cs 22)) fun e w' => e = .returned (.bool true) ∧ Below lo (w.alloc (.cells cs 22)) w' := by
  subst hnn
  have hs : cs.size = vs.length * 1 := by rw [← Array.length_toList, hcs]; simp
  have hm : vs.length ≤ maxLen := by unfold maxLen; omega
  have hv : ValsAt (w.alloc (.cells cs 22)) (.slice (some ⟨w.heap.size, 0, none⟩) vs.length vs.length) vs := by
    have := World.ownsRow_lit (base := 0) (e := 22) (size := 1) w cs vs.length (Nat.zero_le _) hm hs
    rw [hcs] at this
    exact OwnV.at (E := 22) (B := 0) this
  refine apart_kin _ vs xs lo _ (h.of_kept fun t ht ho => ho.alloc _) hv hn hx (by simp; omega) (fun i t hi ht e => ?_)
  rw [valAt_row] at e
  have := ((h.own t ht).lt _ e).2
  simp at this

theorem apart_symQ {x y : Option Nat} (h : x = none ∨ x ≠ y) : y = none ∨ y ≠ x := by
  rcases h with h | h
  · cases y with
    | none => exact .inl rfl
    | some y => rw [h]; exact .inr (by simp)
  · exact .inr fun e => h e.symm
/-- Two groups: the first made before the second. -/
theorem Kin.append {w1 w : World} {lo mid : Nat} {vs us : List Value} {xs ys : List (List Int)} (h : Kin w1 lo vs xs) (hb : Below w1.heap.size w1 w) (hm : w1.heap.size ≤ mid) (k : Kin w mid us ys) (hlm : lo ≤ mid) : Kin w lo (vs ++ us) (xs ++ ys) := by
  have hl := h.len
  have L : ∀ t, t < vs.length → vAt (vs ++ us) t = vAt vs t ∧ (xs ++ ys).getD t [] = xs.getD t [] := fun t ht => by
    constructor
    · simp [vAt, List.getD, List.getElem?_append_left ht]
    · simp [List.getD, List.getElem?_append_left (show t < xs.length by omega)]
  have Q : ∀ t, ¬ t < vs.length → vAt (vs ++ us) t = vAt us (t - vs.length) ∧ (xs ++ ys).getD t [] = ys.getD (t - vs.length) [] := fun t ht => by
    constructor
    · simp [vAt, List.getD, List.getElem?_append_right (show vs.length ≤ t by omega)]
    · simp [List.getD, List.getElem?_append_right (show xs.length ≤ t by omega), hl]
  have far : ∀ s t, s < vs.length → t < us.length → (vAt vs s).ownBlock = none ∨ (vAt vs s).ownBlock ≠ (vAt us t).ownBlock := fun s t hs ht => by
    cases e : (vAt vs s).ownBlock with
    | none => exact .inl rfl
    | some m =>
      refine .inr fun e2 => ?_
      have h1 := ((h.own s hs).lt m e).2
      have h2 := ((k.own t ht).lt m e2.symm).1
      omega
  refine ⟨by simp [h.len, k.len], fun t ht => ?_, fun s t hs ht hne => ?_⟩
  · by_cases e : t < vs.length
    · rw [(L t e).1, (L t e).2]
      exact (h.own t e).below hb
    · rw [(Q t e).1, (Q t e).2]
      exact (k.own _ (by simp at ht; omega)).mono hlm
  · by_cases e : s < vs.length
    · rw [(L s e).1]
      by_cases e' : t < vs.length
      · rw [(L t e').1]; exact h.two s t e e' hne
      · rw [(Q t e').1]; exact far _ _ e (by simp at ht; omega)
    · rw [(Q s e).1]
      by_cases e' : t < vs.length
      · rw [(L t e').1]; exact apart_symQ (far _ _ e' (by simp at hs; omega))
      · rw [(Q t e').1]; exact k.two _ _ (by simp at hs; omega) (by simp at ht; omega) (by omega)
theorem Kin.below {w w' : World} {lo : Nat} {vs : List Value} {xs : List (List Int)} (h : Kin w lo vs xs) (hb : Below w.heap.size w w') : Kin w' lo vs xs :=
  h.of_kept fun _ _ ho => ho.below hb
theorem Kin.pair {w : World} {lo : Nat} {a b : Value} {p q : List Int} (hA : OwnI lo w a p) (hB : OwnI lo w b q) (d : a.ownBlock = none ∨ a.ownBlock ≠ b.ownBlock) : Kin w lo [a, b] [p, q] := by
  refine ⟨rfl, fun t ht => ?_, fun s t hs ht hne => ?_⟩
  · have : t = 0 ∨ t = 1 := by simp at ht; omega
    rcases this with rfl | rfl
    · exact hA
    · exact hB
  · have h1 : s = 0 ∨ s = 1 := by simp at hs; omega
    have h2 : t = 0 ∨ t = 1 := by simp at ht; omega
    rcases h1 with rfl | rfl <;> rcases h2 with rfl | rfl
    · exact absurd rfl hne
    · exact d
    · exact apart_symQ d
    · exact absurd rfl hne
/-- Six rows under names. -/
theorem Rows.six {B : Nat} {w : World} {f : Names} (h : Rows B w f) {a b c d e g : Value} {x y z p q r : List Int} (h0 : f (1, 0) = some (rowI a x)) (h1 : f (2, 0) = some (rowI b y)) (h2 : f (3, 0) = some (rowI c z)) (h3 : f (1, 1) = some (rowI d p)) (h4 : f (2, 1) = some (rowI e q)) (h5 : f (3, 1) = some (rowI g r)) :
    Kin w B [a, b, c, d, e, g] [x, y, z, p, q, r] := by
  have hn : ∀ t, t < 6 → f (1 + t % 3, t / 3) = some (rowI (vAt [a, b, c, d, e, g] t) ([x, y, z, p, q, r].getD t [])) := fun t ht => by
    have : t = 0 ∨ t = 1 ∨ t = 2 ∨ t = 3 ∨ t = 4 ∨ t = 5 := by omega
    rcases this with rfl | rfl | rfl | rfl | rfl | rfl
    · exact h0
    · exact h1
    · exact h2
    · exact h3
    · exact h4
    · exact h5
  refine ⟨rfl, fun t ht => h.ownI (hn t ht), fun s t hs ht hne => h.2 _ _ _ _ (hn s hs) (hn t ht) fun e => ?_⟩
  have e1 := (Prod.mk.inj e).1
  have e2 := (Prod.mk.inj e).2
  simp at hs ht
  omega

set_option maxHeartbeats 2000000 in
theorem raw_rows (p : Int) (la : Option Addr) (ln lc : Nat) (ca : Option Addr) (cn cc : Nat) (qa : Option Addr) (qn qc : Nat) (la' : Option Addr) (ln' lc' : Nat) (ca' : Option Addr) (cn' cc' : Nat) (qa' : Option Addr) (qn' qc' : Nat) (L C Q : List Int) (w : World)
    (hL : IntsAt w (.slice la ln lc) L) (hC : IntsAt w (.slice ca cn cc) C) (hQ : IntsAt w (.slice qa qn qc) Q) (hL' : IntsAt w (.slice la' ln' lc') L) (hC' : IntsAt w (.slice ca' cn' cc') C) (hQ' : IntsAt w (.slice qa' qn' qc') Q) :
    Calls Tryz.prog 20 #[.agg #[.int .i64 p, .slice la ln lc, .slice ca cn cc, .slice qa qn qc], .agg #[.int .i64 p, .slice la' ln' lc', .slice ca' cn' cc', .slice qa' qn' qc']] w (Ret1 (fun x _ => x = .bool true) w) := by
  have b0 := Below.step (belowAlloc w (.cells #[.int .i64 p, .slice la ln lc, .slice ca cn cc, .slice qa qn qc] 42)) (belowAlloc _ (.cells #[.int .i64 p, .slice la' ln' lc', .slice ca' cn' cc', .slice qa' qn' qc'] 42))
  have y : Cells4 ((w.alloc (.cells #[.int .i64 p, .slice la ln lc, .slice ca cn cc, .slice qa qn qc] 42)).alloc (.cells #[.int .i64 p, .slice la' ln' lc', .slice ca' cn' cc', .slice qa' qn' qc'] 42)) w.heap.size (.int .i64 p) (.slice la ln lc) (.slice ca cn cc) (.slice qa qn qc) := by
    refine ⟨?_, ?_, ?_, ?_⟩ <;> simp [go_sem]
  have z : Cells4 ((w.alloc (.cells #[.int .i64 p, .slice la ln lc, .slice ca cn cc, .slice qa qn qc] 42)).alloc (.cells #[.int .i64 p, .slice la' ln' lc', .slice ca' cn' cc', .slice qa' qn' qc'] 42)) (w.heap.size + 1) (.int .i64 p) (.slice la' ln' lc') (.slice ca' cn' cc') (.slice qa' qn' qc') := by
    refine ⟨?_, ?_, ?_, ?_⟩ <;> simp [go_sem]
  obtain ⟨w0, hw0⟩ : ∃ W : World, (w.alloc (.cells #[.int .i64 p, .slice la ln lc, .slice ca cn cc, .slice qa qn qc] 42)).alloc (.cells #[.int .i64 p, .slice la' ln' lc', .slice ca' cn' cc', .slice qa' qn' qc'] 42) = W := ⟨_, rfl⟩
  rw [hw0] at b0 y z
  replace hL := Lib.hid (hL.below b0)
  replace hC := Lib.hid (hC.below b0)
  replace hQ := Lib.hid (hQ.below b0)
  replace hL' := Lib.hid (hL'.below b0)
  replace hC' := Lib.hid (hC'.below b0)
  replace hQ' := Lib.hid (hQ'.below b0)
  replace hw0 := Lib.hid hw0
  have y' := y
  have z' := z
  obtain ⟨y0, y1, y2, y3⟩ := y'
  obtain ⟨z0, z1, z2, z3⟩ := z'
  go_enter Tryz.func20, Tryz.ntmps20
  go_upto_region 1 with fail
  rw [hw0.out]
  go_wp2_with fail
  refine (ints_any _ _ L L w0 hL.out hL'.out).mono ?_
  rintro e w1 h1
  obtain ⟨rfl, b1⟩ := h1.below
  clear h1
  rw [show decide (L = L) = true from decide_eq_true rfl]
  clear y0 y1 y2 y3 z0 z1 z2 z3
  obtain ⟨y0, y1, y2, y3⟩ := y.below b1
  obtain ⟨z0, z1, z2, z3⟩ := z.below b1
  go_wp2_with fail
  refine (ints_any _ _ C C w1 (hC.out.below b1) (hC'.out.below b1)).mono ?_
  rintro e w2 h2
  obtain ⟨rfl, b2⟩ := h2.below
  clear h2
  rw [show decide (C = C) = true from decide_eq_true rfl]
  have c2 := Below.step b1 b2
  clear y0 y1 y2 y3 z0 z1 z2 z3
  obtain ⟨y0, y1, y2, y3⟩ := y.below c2
  obtain ⟨z0, z1, z2, z3⟩ := z.below c2
  go_wp2_with fail
  refine (ints_any _ _ Q Q w2 (hQ.out.below c2) (hQ'.out.below c2)).mono ?_
  rintro e w3 h3
  obtain ⟨rfl, b3⟩ := h3.below
  clear h3
  rw [show decide (Q = Q) = true from decide_eq_true rfl]
  have bE := Below.step b0 (Below.step c2 b3)
  go_wp2
  go_ret
  exact ⟨_, rfl, bE, rfl⟩
end Go.Proofs.YtilpckngghffoaaGreatDoor

namespace Go.Proofs.YtilpckngghffoaaGreatDoor

theorem Way.fst {adj : Nat → List Nat} {x y : Nat} {w : List Nat} (h : Way adj x y w) : w.getD 0 0 = x := by
  obtain ⟨w', rfl⟩ := h.ne; rfl
theorem Way.lst {adj : Nat → List Nat} {x y : Nat} {w : List Nat} (h : Way adj x y w) : w.getD (w.length - 1) 0 = y := by
  induction h with
  | one x => rfl
  | @cons x t y w ht h ih =>
    have := h.pos
    rw [List.length_cons, Nat.add_sub_cancel, show w.length = w.length - 1 + 1 by omega, List.getD_cons_succ]
    exact ih
theorem Way.stp {adj : Nat → List Nat} {x y : Nat} {w : List Nat} (h : Way adj x y w) : ∀ j, j + 1 < w.length → w.getD (j + 1) 0 ∈ adj (w.getD j 0) := by
  induction h with
  | one x => intro j hj; simp at hj
  | @cons x t y w ht h ih =>
    intro j hj
    cases j with
    | zero =>
      rw [List.getD_cons_succ, h.fst]; exact ht
    | succ j =>
      rw [List.getD_cons_succ, List.getD_cons_succ]
      exact ih j (by simpa using hj)
theorem getD_app (I O : List Nat) (j : Nat) : (I ++ O.drop 1).getD j 0 = if j < I.length then I.getD j 0 else O.getD (j - I.length + 1) 0 := by
  split
  · rename_i h
    rw [List.getD_eq_getElem?_getD, List.getElem?_append_left h, ← List.getD_eq_getElem?_getD]
  · rename_i h
    rw [List.getD_eq_getElem?_getD, List.getElem?_append_right (by omega), List.getElem?_drop, ← List.getD_eq_getElem?_getD, Nat.add_comm 1]
theorem getD_dl {W : List Nat} {j : Nat} (h : j + 1 < W.length) : W.dropLast.getD j 0 = W.getD j 0 := by
  rw [List.getD_eq_getElem?_getD, List.getElem?_dropLast, if_pos (by omega), ← List.getD_eq_getElem?_getD]
theorem getD_d1 (W : List Nat) (j : Nat) : (W.drop 1).getD j 0 = W.getD (j + 1) 0 := by
  rw [List.getD_eq_getElem?_getD, List.getElem?_drop, ← List.getD_eq_getElem?_getD, Nat.add_comm]
theorem Bi.of_ways {adj : Nat → List Nat} {c v d : Nat} {W I O U : List Nat} (hW : Way adj c c W) (lW : 2 ≤ W.length) (hI : Way adj c v I) (hO : Way adj v d O) (hU : Way adj d d U) (lU : 2 ≤ U.length) : Bi adj W.dropLast (I ++ O.drop 1) (U.drop 1) := by
  have pI := hI.pos
  have pO := hO.pos
  have lC : (I ++ O.drop 1).length = I.length + (O.length - 1) := by simp
  have last : (I ++ O.drop 1).getD ((I ++ O.drop 1).length - 1) 0 = d := by
    rw [lC, getD_app]
    by_cases e : O.length = 1
    · rw [if_pos (by omega), show I.length + (O.length - 1) - 1 = I.length - 1 by omega, hI.lst, ← hO.lst, e, ← hO.fst]
    · rw [if_neg (by omega), show I.length + (O.length - 1) - 1 - I.length + 1 = O.length - 1 by omega]; exact hO.lst
  refine ⟨by simp; omega, by omega, by simp; omega, fun j hj => ?_, ?_, ?_, fun j hj => ?_, ?_, fun j hj => ?_, ?_⟩
  · rw [List.length_dropLast] at hj
    rw [getD_dl (by omega), getD_dl (by omega)]; exact hW.stp j (by omega)
  · rw [List.length_dropLast, getD_dl (by omega), getD_dl (by omega), hW.fst]
    have := hW.stp (W.length - 1 - 1) (by omega)
    rw [show W.length - 1 - 1 + 1 = W.length - 1 by omega, hW.lst] at this
    exact this
  · rw [getD_app, if_pos pI, hI.fst, getD_dl (by omega), hW.fst]
  · rw [lC] at hj
    rw [getD_app, getD_app]
    by_cases h1 : j + 1 < I.length
    · rw [if_pos h1, if_pos (by omega)]; exact hI.stp j h1
    · rw [if_neg h1]
      by_cases h2 : j < I.length
      · rw [if_pos h2, show j = I.length - 1 by omega, hI.lst, show I.length - 1 + 1 - I.length + 1 = 0 + 1 by omega]
        have := hO.stp 0 (by omega)
        rw [hO.fst] at this
        exact this
      · rw [if_neg h2, show j + 1 - I.length + 1 = j - I.length + 1 + 1 by omega]
        exact hO.stp _ (by omega)
  · rw [last, getD_d1]
    have := hU.stp 0 (by omega)
    rw [hU.fst] at this
    exact this
  · rw [List.length_drop] at hj
    rw [getD_d1, getD_d1]; exact hU.stp _ (by omega)
  · rw [last, getD_d1, List.length_drop, show U.length - 1 - 1 + 1 = U.length - 1 by omega]; exact hU.lst
end Go.Proofs.YtilpckngghffoaaGreatDoor

namespace Go.Proofs.YtilpckngghffoaaGreatDoor

def sRow : ByteArray := ⟨#[114, 111, 119]⟩
/-- The fault of a row. -/
def rowP (k p : Int) (L C Q : List Int) : PErr :=
  if k < 1 ∨ 4 < k then fresh sRow 0 3
  else if p < -4096 ∨ 4096 < p then fresh sRow 1 3
  else if L.length = 0 then fresh sRow 2 3
  else if Q.length = 0 then fresh sRow 3 3
  else if 8192 < L.length then fresh sRow 2 4
  else if 8192 < Q.length then fresh sRow 3 4
  else if 16384 < C.length then fresh sRow 4 4
  else if 0 ≤ idxOf (odd1 k) (L ++ C ++ Q) then fresh sRow (idxOf (odd1 k) (L ++ C ++ Q)) 2
  else none
structure RowOk (K : Nat) (p : Int) (L C Q : List Int) : Prop where
  k1 : 1 ≤ K
  k4 : K ≤ 4
  p1 : -4096 ≤ p
  p2 : p ≤ 4096
  l1 : 1 ≤ L.length
  l2 : L.length ≤ 8192
  q1 : 1 ≤ Q.length
  q2 : Q.length ≤ 8192
  c2 : C.length ≤ 16384
  sL : Syms K L
  sC : Syms K C
  sQ : Syms K Q
theorem syms_odd {k : Int} {x : List Int} : Syms k x ↔ ∀ y ∈ x, odd1 k y = false := by
  refine ⟨fun h y hy => ?_, fun h y hy => ?_⟩
  · have := h y hy
    unfold odd1
    simp only [Bool.or_eq_false_iff, decide_eq_false_iff_not]
    omega
  · have := h y hy
    unfold odd1 at this
    simp only [Bool.or_eq_false_iff, decide_eq_false_iff_not] at this
    omega
theorem idxOf_syms {k : Int} {x : List Int} : ¬ 0 ≤ idxOf (odd1 k) x ↔ Syms k x := by
  rw [syms_odd]
  rcases idxOf_cases (odd1 k) x with ⟨h1, h2⟩ | ⟨m, h1, h2, h3, _⟩
  · rw [h1]; exact ⟨fun _ => h2, fun _ => by omega⟩
  · rw [h1]
    refine ⟨fun h => by omega, fun h => ?_⟩
    have := h _ (List.getElem_mem h2)
    rw [h3] at this; cases this
theorem RowOk.none {K : Nat} {p : Int} {L C Q : List Int} (h : RowOk K p L C Q) : rowP K p L C Q = Option.none := by
  have hs : Syms K (L ++ C ++ Q) := fun x hx => by
    rcases List.mem_append.1 hx with hx | hx
    · rcases List.mem_append.1 hx with hx | hx
      · exact h.sL x hx
      · exact h.sC x hx
    · exact h.sQ x hx
  have h1 := h.k1
  have h2 := h.k4
  have h3 := h.p1
  have h4 := h.p2
  have h5 := h.l1
  have h6 := h.l2
  have h7 := h.q1
  have h8 := h.q2
  have h9 := h.c2
  unfold rowP
  rw [if_neg (by omega), if_neg (by omega), if_neg (by omega), if_neg (by omega), if_neg (by omega), if_neg (by omega), if_neg (by omega), if_neg (idxOf_syms.2 hs)]

/-- What twins.Check tells of two words, the rule being small. -/
def twinsP (op : ByteArray) (k : Int) (R : Nat) (img : List Int → List Int) (a b : List Int) : PErr :=
  if 16384 < a.length ∨ 16384 < b.length then fresh op 1 4
  else if 0 ≤ idxOf (odd1 k) a then fresh op (idxOf (odd1 k) a) 2
  else if 0 ≤ idxOf (odd1 k) b then fresh op (a.length + idxOf (odd1 k) b) 2
  else if a.length ≠ b.length ∨ a = b then fresh op 1 3
  else if a.length < 2 * R ∨ a.take (2 * R) ≠ b.take (2 * R) ∨ a.drop (a.length - 2 * R) ≠ b.drop (b.length - 2 * R) then fresh op 2 3
  else if img a ≠ img b then fresh op 3 3
  else none
theorem IsTwins.p {op : ByteArray} {K R : Nat} {T a b : List Int} (h : IsTwins K R T a b) (hl : a.length ≤ 16384) : twinsP op K R (imgP K R T) a b = none := by
  have e := h.len
  have e2 := h.low
  unfold twinsP
  rw [if_neg (by omega), if_neg (idxOf_syms.2 h.sa), if_neg (idxOf_syms.2 h.sb), if_neg (fun q => q.elim (fun q => q e) h.ne), if_neg, if_neg (fun q => q h.img)]
  rintro (q | q | q)
  · omega
  · exact q h.front
  · exact q h.back
end Go.Proofs.YtilpckngghffoaaGreatDoor

namespace Go.Proofs.YtilpckngghffoaaGreatDoor

theorem way_pairL {K N : Nat} {T : List Int} (hN : 0 < N) {x y : Nat} {w : List Nat} (h : Way (adjOf (pairG K N T)) x y w) (hx : x < N * N) : Way (pairL K N T) x y w := by
  induction h with
  | one x => exact .one x
  | @cons x t y w ht h ih =>
    rw [pairG_adj hx] at ht
    exact .cons ht (ih (((mem_pairL hN).1 ht).lt hN))
theorem oneIs_bi {K R : Nat} {T : List Int} {L C Q : List Nat} (hr : RuleOk K R T) (hl : T.length ≤ 256) (h : OneIs K R T L C Q) :
    Bi (pairL K (pw K (2 * wkR R)) (wkT K R T)) L C Q ∧ L.length ≤ 8192 ∧ C.length ≤ 16384 ∧ Q.length ≤ 8192 ∧ ∃ s, s < C.length ∧ ¬ Diag (pw K (2 * wkR R)) (C.getD s 0) := by
  have hN := pw_pos (K := K) (2 * wkR R) hr.k1
  have hN81 := nodes_le (wk_ok hr) (wk_pos R) (wk_small hr hl)
  have hM6 : pw K (2 * wkR R) * pw K (2 * wkR R) ≤ 6561 := Nat.mul_le_mul hN81 hN81
  obtain ⟨l, v, m, hlive, hodd, c, d, u1, u2, I, O, -, -, hc, hd, h1, h2, h3, h4, rfl, rfl, rfl⟩ := h
  have hok := pairG_ok (K := K) (N := pw K (2 * wkR R)) (T := wkT K R T) (by omega)
  have hv1 : v ∈ oddL K R l := by rw [hodd]; exact List.mem_cons_self
  obtain ⟨hv2, hv3⟩ := List.mem_filter.1 hv1
  obtain ⟨hvM, -⟩ := (hlive.mem v).1 hv2
  have hvD : ¬ Diag (pw K (2 * wkR R)) v := by simpa using hv3
  obtain ⟨a1, a2, a3⟩ := wide_bound hok hc h1
  obtain ⟨b1, b2, b3⟩ := wide_bound hok hd h2
  have W1 := wide_back hok h1.way rfl hc
  have W2 := wide_back hok h2.way rfl hd
  have f3 := (first_bound hok h3 hc).1
  have f4 := (first_bound hok h4 (by rw [pairG_len]; exact hvM)).1
  rw [pairG_len] at hc hd a2 b2 f3 f4
  have V1 := way_pairL (by omega) W1 hc
  have V2 := way_pairL (by omega) W2 hd
  have V3 := way_pairL (by omega) h3.way hc
  have V4 := way_pairL (by omega) h4.way hvM
  have hb := Bi.of_ways V1 (by simp; omega) V3 V4 V2 (by simp; omega)
  have e1 : (u1.dropLast ++ [c]).dropLast = u1.dropLast := by simp
  have e2 : (u2.dropLast ++ [d]).drop 1 = u2.dropLast.drop 1 ++ [d] := by
    rw [List.drop_append_of_le_length (by simp; omega)]
  rw [e1, e2] at hb
  have p3 := V3.pos
  refine ⟨hb, by simp; omega, by simp; omega, by simp; omega, I.length - 1, by simp; omega, ?_⟩
  rw [getD_app, if_pos (by omega), V3.lst]
  exact hvD
end Go.Proofs.YtilpckngghffoaaGreatDoor

namespace Go.Proofs.YtilpckngghffoaaGreatDoor
open Go.RowKit
set_option maxRecDepth 100000

end Go.Proofs.YtilpckngghffoaaGreatDoor

namespace Go.Proofs.YtilpckngghffoaaGreatDoor
open Go.RowKit
set_option maxRecDepth 100000

/-- Each cell as it is. -/
def iT : List Int := [0, 0, 1, 1, 0, 0, 1, 1]
theorem iT_ok : RuleOk 2 1 iT := ⟨by decide, by decide, by decide, by decide, fun x hx => by simp [iT] at hx; omega⟩
theorem iT_one : ¬ NotOne 2 1 iT := by
  intro h
  obtain ⟨x, y, sx, sy, lx, ly, hne, e⟩ := h 1
  match x, lx with
  | [a, b, c], _ =>
    match y, ly with
    | [a', b', c'], _ =>
      have h1 := sx a (by simp)
      have h2 := sx b (by simp)
      have h3 := sx c (by simp)
      have k1 := sy a' (by simp)
      have k2 := sy b' (by simp)
      have k3 := sy c' (by simp)
      have hb : ∀ a b c : Int, 0 ≤ a → a < 2 → 0 ≤ b → b < 2 → 0 ≤ c → c < 2 → imgP 2 1 iT [a, b, c] = [b] := fun a b c p1 p2 p3 p4 p5 p6 => by
        have ha : a = 0 ∨ a = 1 := by omega
        have hb : b = 0 ∨ b = 1 := by omega
        have hc : c = 0 ∨ c = 1 := by omega
        rcases ha with rfl | rfl <;> rcases hb with rfl | rfl <;> rcases hc with rfl | rfl <;> decide
      rw [hb a b c h1.1 h1.2 h2.1 h2.2 h3.1 h3.2, hb a' b' c' k1.1 k1.2 k2.1 k2.2 k3.1 k3.2] at e
      injection e with e _
      exact hne e
/-- The sum of both neighbours. -/
def nT : List Int := [0, 1, 0, 1, 1, 0, 1, 0]
theorem nT_ok : RuleOk 2 1 nT := ⟨by decide, by decide, by decide, by decide, fun x hx => by simp [nT] at hx; omega⟩
theorem img_same {z : Int} (hz : z = 0 ∨ z = 1) (n : Nat) : imgP 2 1 nT (List.replicate n z) = List.replicate (n - 2) 0 := by
  refine List.ext_getElem (by simp [imgP_length]) fun i h1 h2 => ?_
  simp only [imgP_length, List.length_replicate] at h1
  simp only [imgP, List.getElem_map, List.getElem_range, List.getElem_replicate, List.drop_replicate, List.take_replicate]
  rw [show min (2 * 1 + 1) (n - i) = 3 by omega]
  rcases hz with rfl | rfl <;> decide
theorem nT_not : NotOne 2 1 nT := fun n =>
  ⟨List.replicate (2 * n + 1) 0, List.replicate (2 * n + 1) 1, fun x hx => by rw [List.eq_of_mem_replicate hx]; decide, fun x hx => by rw [List.eq_of_mem_replicate hx]; decide, by simp, by simp,
    by simp [List.getD, show n < 2 * n + 1 by omega], by rw [img_same (.inl rfl), img_same (.inr rfl)]⟩

set_option maxHeartbeats 2000000 in
theorem awake14 (r : Nat → Addr) (w : World) (hg : Glob r w) : Calls Tryz.prog 17 #[] w (Ret1 (fun x _ => x = .bool true) w) := by
  have bl := belowAlloc w (.cells #[.int .i64 0, .int .i64 0, .int .i64 1, .int .i64 1, .int .i64 0, .int .i64 0, .int .i64 1, .int .i64 1] 3)
  have hlit := lit_ints w [0, 0, 1, 1, 0, 0, 1, 1] #[.int .i64 0, .int .i64 0, .int .i64 1, .int .i64 1, .int .i64 0, .int .i64 0, .int .i64 1, .int .i64 1] rfl (by decide)
  replace hlit := Lib.hid hlit
  replace hg := Lib.hid hg
  go_enter Tryz.func17, Tryz.ntmps17
  go_wp2_with fail
  refine (one_ok r 2 1 _ _ _ iT _ (hg.out.below bl) hlit.out iT_ok (by decide)).mono ?_
  rintro e w2 ⟨y, a, b, z, rfl, b2, hp⟩
  obtain ⟨rfl, Y, rfl, hY, a1, n1, c1, a2, n2, c2, a3, n3, c3, a4, n4, c4, a5, n5, c5, a6, n6, c6, rfl, rfl⟩ := hp.ans
  obtain rfl : Y = true := hY.2 iT_one
  clear hp hY
  have b02 := Below.step bl b2
  have c1' := Cells4.alloc w2 42 (.int .i64 0) (.slice a1 n1 c1) (.slice a2 n2 c2) (.slice a3 n3 c3)
  have b03 := Below.step b02 (Below.step (belowAlloc w2 (.cells #[.int .i64 0, .slice a1 n1 c1, .slice a2 n2 c2, .slice a3 n3 c3] 42)) (belowAlloc _ (.cells #[.int .i64 0, .slice a4 n4 c4, .slice a5 n5 c5, .slice a6 n6 c6] 42)))
  have bl2 := belowAlloc ((w2.alloc (.cells #[.int .i64 0, .slice a1 n1 c1, .slice a2 n2 c2, .slice a3 n3 c3] 42)).alloc (.cells #[.int .i64 0, .slice a4 n4 c4, .slice a5 n5 c5, .slice a6 n6 c6] 42)) (.cells #[.int .i64 0, .int .i64 1, .int .i64 0, .int .i64 1, .int .i64 1, .int .i64 0, .int .i64 1, .int .i64 0] 3)
  have hlit2 := lit_ints ((w2.alloc (.cells #[.int .i64 0, .slice a1 n1 c1, .slice a2 n2 c2, .slice a3 n3 c3] 42)).alloc (.cells #[.int .i64 0, .slice a4 n4 c4, .slice a5 n5 c5, .slice a6 n6 c6] 42)) [0, 1, 0, 1, 1, 0, 1, 0] #[.int .i64 0, .int .i64 1, .int .i64 0, .int .i64 1, .int .i64 1, .int .i64 0, .int .i64 1, .int .i64 0] rfl (by decide)
  have b04 := Below.step b03 bl2
  replace hlit2 := Lib.hid hlit2
  clear c1'
  go_wp2_with fail
  have hone := fun (s : Nat) (hs : s = ((w2.alloc (.cells #[.int .i64 0, .slice a1 n1 c1, .slice a2 n2 c2, .slice a3 n3 c3] 42)).alloc (.cells #[.int .i64 0, .slice a4 n4 c4, .slice a5 n5 c5, .slice a6 n6 c6] 42)).heap.size) => one_ok r 2 1 (some ⟨s, 0, none⟩) 8 8 nT _ (hg.out.below b04) (by subst hs; exact hlit2.out) nT_ok (by decide)
  refine (hone _ (by simp)).mono ?_
  rintro e w5 ⟨y, a, b, z, rfl, b5, hp⟩
  obtain ⟨rfl, ⟨_, _, _, hn⟩ | ⟨rfl, _, L, C, Q, aL, aC, aQ, bL, bC, bQ, hoi, rfl, rfl, f, hr, k1, k2, k3, k4, k5, k6⟩⟩ := hp
  · exact absurd nT_not hn
  obtain ⟨p1, p2⟩ := hoi.pos
  have l1 := (hr.ownI k1).at.len
  have l6 := (hr.ownI k6).at.len
  rw [sideA_len] at l1
  rw [sideB_len] at l6
  obtain ⟨d1, m1, s1, rfl⟩ := (hr.ownI k1).at.shape
  obtain ⟨d2, m2, s2, rfl⟩ := (hr.ownI k2).at.shape
  obtain ⟨d3, m3, s3, rfl⟩ := (hr.ownI k3).at.shape
  obtain ⟨d4, m4, s4, rfl⟩ := (hr.ownI k4).at.shape
  obtain ⟨d5, m5, s5, rfl⟩ := (hr.ownI k5).at.shape
  obtain ⟨d6, m6, s6, rfl⟩ := (hr.ownI k6).at.shape
  have e1 : decide ((0 : Int) < (L.length : Int)) = true := by simp; omega
  have e6 : decide ((0 : Int) < (Q.length : Int)) = true := by simp; omega
  have b06 := Below.step b04 (Below.step b5 (Below.step (belowAlloc w5 (.cells #[.int .i64 0, .slice d1 m1 s1, .slice d3 m3 s3, .slice d5 m5 s5] 42)) (belowAlloc _ (.cells #[.int .i64 0, .slice d2 m2 s2, .slice d4 m4 s4, .slice d6 m6 s6] 42))))
  replace hoi := Lib.hid hoi
  clear hr k1 k2 k3 k4 k5 k6 hone
  go_wp2
  go_ret
  exact ⟨_, rfl, b06, congrArg Value.bool (decide_eq_true (by omega))⟩
end Go.Proofs.YtilpckngghffoaaGreatDoor
