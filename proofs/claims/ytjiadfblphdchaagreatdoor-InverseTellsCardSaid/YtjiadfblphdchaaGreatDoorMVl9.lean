/-
  Walk: inject.One: whether a rule is one to one; if not, the two rows.
  Walk: forms.made at a function that has captured one variable.
  Plain mathematics: the least radius of a rule.
  Walks: forms.inner and the function that it hands to forms.made; forms.Narrow.
  Walks: inverse.find, inverse.Rule, inverse.Radius.
  Walks: inverse.Rule, inverse.Radius: their answers as data.
  Plain mathematics of layer 2: numbers as lists of limbs below 2^32, the least first.
  Numbers in memory (api.Nat: a slice of limbs); nat.norm, nat.From, the limb operations of math/bits.
-/
import Derived.Test.YtjiadfblphdchaaGreatDoorMVl8
import Derived.Laws.Bits64b
import Derived.BigQuiet
import Derived.Deep.DeepCutAuto
namespace Go.Proofs.YtjiadfblphdchaaGreatDoor
open Go.RowKit
set_option maxRecDepth 100000
def sInject : ByteArray:=⟨#[105,110,106,101,99,116]⟩
/-- The row that holds nothing. -/
abbrev zRow : Value:=.agg #[.int .i64 0,.slice none 0 0,.slice none 0 0,.slice none 0 0]
section
variable {K N : Nat} {T : List Int}
theorem goes_pairG {x y : Nat} (hN : 0 < N) (h : Goes (adjOf (pairG K N T)) x y) (hx : x < N * N) : Goes (pairL K N T) x y ∧ y < N * N:=by
 induction h with
 | refl => exact ⟨.refl _,hx⟩
 | step h hz ih =>
  rw [pairG_adj ih.2] at hz
  exact ⟨.step ih.1 hz,((mem_pairL hN).1 hz).lt hN⟩
theorem live_pairG (hN : 0 < N) {v : Nat} (hv : v < N * N) : IsLive (N * N) (adjOf (pairG K N T)) v ↔ LiveP (N * N) (pairL K N T) v:=by
 constructor
 ·rintro ⟨⟨u,hu,⟨t,ht,h1⟩,h2⟩,⟨u',hu',⟨t',ht',h1'⟩,h2'⟩⟩
  rw [pairG_adj hu] at ht
  rw [pairG_adj hu'] at ht'
  exact ⟨⟨u,hu,⟨t,ht,(goes_pairG hN h1 (((mem_pairL hN).1 ht).lt hN)).1⟩,(goes_pairG hN h2 hu).1⟩,⟨u',hu',⟨t',ht',(goes_pairG hN h1' (((mem_pairL hN).1 ht').lt hN)).1⟩,(goes_pairG hN h2' hv).1⟩⟩
 ·rintro ⟨⟨u,hu,⟨t,ht,h1⟩,h2⟩,⟨u',hu',⟨t',ht',h1'⟩,h2'⟩⟩
  exact ⟨⟨u,hu,⟨t,by rw [pairG_adj hu]; exact ht,(pairG_goes hN h1 (((mem_pairL hN).1 ht).lt hN)).1⟩,(pairG_goes hN h2 hu).1⟩,⟨u',hu',⟨t',by rw [pairG_adj hu']; exact ht',(pairG_goes hN h1' (((mem_pairL hN).1 ht').lt hN)).1⟩,(pairG_goes hN h2' hv).1⟩⟩
end
theorem wk_notOne {K R : Nat} {T : List Int} (hK : 1 ≤ K) : NotOne K (wkR R) (wkT K R T) ↔ NotOne K R T:=by
 unfold wkR wkT
 by_cases e : R = 0
 ·subst e; rw [if_pos rfl,if_pos rfl]; exact notOne_wide (R:=0) (d:=1) hK
 ·rw [if_neg e,if_neg e]
/-- The live pairs that are apart. -/
def oddL (K R : Nat) (L : List Nat) : List Nat:=L.filter fun p => !decide (Diag (pw K (2 * wkR R)) p)
/-- Whether they tell that the rule is one to one. -/
theorem odd_none {K R : Nat} {T : List Int} {L : List Nat} (hr : RuleOk K R T) (h : LiveList (pw K (2 * wkR R) * pw K (2 * wkR R)) (adjOf (pairG K (pw K (2 * wkR R)) (wkT K R T))) L) : oddL K R L = [] ↔ ¬ NotOne K R T:=by
 have hN:=pw_pos (K:=K) (2 * wkR R) hr.k1
 rw [← wk_notOne hr.k1]
 constructor
 ·intro he hno
  obtain ⟨q,h1,h2,h3⟩:=live_of_notOne (wk_ok hr) (wk_pos R) hno
  have : q ∈ oddL K R L:=List.mem_filter.2 ⟨(h.mem q).2 ⟨h1,(live_pairG (by omega) h1).2 h2⟩,by simp [h3]⟩
  rw [he] at this; cases this
 ·intro hno
  apply Classical.byContradiction
  intro he
  obtain ⟨q,hq⟩:=List.exists_mem_of_ne_nil _ he
  obtain ⟨h1,h2⟩:=List.mem_filter.1 hq
  obtain ⟨h3,h4⟩:=(h.mem q).1 h1
  exact hno (notOne_of_live (wk_ok hr) (wk_pos R) ((live_pairG (by omega) h3).1 h4) (by simpa using h2))
/-- The witness: the first of them. -/
def OneIs (K R : Nat) (T : List Int) (L C Q : List Nat) : Prop :=
 ∃ l v m,LiveList (pw K (2 * wkR R) * pw K (2 * wkR R)) (adjOf (pairG K (pw K (2 * wkR R)) (wkT K R T))) l ∧ oddL K R l = v :: m ∧ WitIs (pairG K (pw K (2 * wkR R)) (wkT K R T)) v L C Q
/-- What One leaves at a small rule. -/
def OnePost (w : World) (K R : Nat) (T : List Int) (yes x y e : Value) (w' : World) : Prop :=
 e = .nilIface ∧ ((yes = .bool true ∧ x = zRow ∧ y = zRow ∧ ¬ NotOne K R T) ∨ (yes = .bool false ∧ NotOne K R T ∧ ∃ L C Q aL aC aQ bL bC bQ,OneIs K R T L C Q ∧ x = .agg #[.int .i64 0,aL,aC,aQ] ∧ y = .agg #[.int .i64 0,bL,bC,bQ] ∧ ∃ f,Rows w.heap.size w' f ∧
  f (1,0) = some (rowI aL (sideA K (pw K (2 * wkR R)) L)) ∧ f (1,1) = some (rowI bL (sideB K (pw K (2 * wkR R)) L)) ∧ f (2,0) = some (rowI aC (sideA K (pw K (2 * wkR R)) C)) ∧ f (2,1) = some (rowI bC (sideB K (pw K (2 * wkR R)) C)) ∧ f (3,0) = some (rowI aQ (sideA K (pw K (2 * wkR R)) Q)) ∧ f (3,1) = some (rowI bQ (sideB K (pw K (2 * wkR R)) Q))))
set_option maxHeartbeats 1000000 in
theorem one_bad (r : Nat → Addr) (k R : Int) (va : Option Addr) (vn vc : Nat) (T : List Int) (t : Int × List (ByteArray × Int)) (w : World) (hg : Glob r w) (h : IntsAt w (.slice va vn vc) T) (hc : smallP k R T = some t) :
 Calls Tryz.prog 19 #[.agg #[.int .i64 k,.int .i64 R,.slice va vn vc]] w (Ret4 (fun x y z u w' => x = .bool false ∧ y = zRow ∧ z = zRow ∧ ErrIs r w' (under sInject 0 (under sPairs 0 (some t))) u) w):=by
 have bb:=belowAlloc w (.cells #[.int .i64 k,.int .i64 R,.slice va vn vc] 24)
 have q : Box3 (w.alloc (.cells #[.int .i64 k,.int .i64 R,.slice va vn vc] 24)) w.heap.size (.int .i64 k) (.int .i64 R) (.slice va vn vc):=by simp [Box3,go_sem]
 obtain ⟨f0,R0,n02,o02⟩:=((Rows.void w.heap.size w).below bb).box4 (0,2) (by simp) 45 (.int .i64 0) (.slice none 0 0) (.slice none 0 0) (.slice none 0 0)
 obtain ⟨f1,R1,n03,o03⟩:=R0.box4 (0,3) (by simp; omega) 45 (.int .i64 0) (.slice none 0 0) (.slice none 0 0) (.slice none 0 0)
 replace n02:=(o03 (0,2) (by decide)).trans n02
 simp only [World.size_alloc] at n02 n03
 have b0 : Below w.heap.size w (((w.alloc (.cells #[.int .i64 k,.int .i64 R,.slice va vn vc] 24)).alloc (.cells #[.int .i64 0,.slice none 0 0,.slice none 0 0,.slice none 0 0] 45)).alloc (.cells #[.int .i64 0,.slice none 0 0,.slice none 0 0,.slice none 0 0] 45)):=Below.step bb (Below.step (belowAlloc _ _) (belowAlloc _ _))
 replace q:=q.below (Below.step (belowAlloc _ (.cells #[.int .i64 0,.slice none 0 0,.slice none 0 0,.slice none 0 0] 45)) (belowAlloc _ (.cells #[.int .i64 0,.slice none 0 0,.slice none 0 0,.slice none 0 0] 45)))
 clear o02 o03 R0 bb
 replace hg:=Lib.hid (hg.below b0)
 replace h:=Lib.hid (h.below b0)
 replace hc:=Lib.hid hc
 obtain ⟨⟨z0,z1,z2⟩,-,-,-⟩:=q
 replace R1:=Lib.hid R1
 replace n02:=Lib.hid n02
 replace n03:=Lib.hid n03
 go_enter Tryz.func19,Tryz.ntmps19
 go_wp2_with fail
 refine (pgraph_bad r k R va vn vc T t _ hg.out h.out hc.out).mono ?_
 rintro e w1 ⟨x,y,rfl,b1,rfl,hy⟩
 obtain ⟨T2,a2,rfl⟩ : ∃ T a,y = .iface T (.pointer (some a)):=by
  unfold under at hy
  exact ErrIs.some_shape hy
 replace hy:=Lib.hid hy
 clear z0 z1 z2
 go_wp2_with fail
 refine (under_any r sInject 0 _ _ w1 hy.out).mono ?_
 rintro e w2 ⟨u,rfl,b2,hu⟩
 have hu':=hu
 obtain ⟨T3,a3,rfl⟩ : ∃ T a,u = .iface T (.pointer (some a)):=by
  unfold under at hu'
  exact ErrIs.some_shape hu'
 clear hu'
 have R2:=(R1.out.below b1).below b2
 replace n02:=n02.out
 replace n03:=n03.out
 have bw:=Below.step b0 (Below.step b1 b2)
 obtain ⟨g0,g1,g2,g3⟩:=R2.cells4 n02
 obtain ⟨h0,h1,h2,h3⟩:=R2.cells4 n03
 have fg0:=R2.frz4 n02 0
 have fh0:=R2.frz4 n03 0
 have fg1:=R2.frz4 n02 1
 have fh1:=R2.frz4 n03 1
 have fg2:=R2.frz4 n02 2
 have fh2:=R2.frz4 n03 2
 have fg3:=R2.frz4 n02 3
 have fh3:=R2.frz4 n03 3
 have c2:=R2.cells4 n02
 have c3:=R2.cells4 n03
 have lg0:=(R2.low4 n02).1
 have lh0:=(R2.low4 n03).1
 obtain ⟨f3,R3,m02,o3⟩:=R2.all4 n02 (.int .i64 0) (.slice none 0 0) (.slice none 0 0) (.slice none 0 0)
 have n03':=(o3 (0,3) (by decide)).trans n03
 have hu2:=hu.all4 c2 (.slice none 0 0) (.slice none 0 0) (.slice none 0 0)
 have hu3:=hu2.all4 (R3.cells4 n03') (.slice none 0 0) (.slice none 0 0) (.slice none 0 0)
 have b15:=Below.all4 (g:=w.heap.size + 1) bw lg0 (.int .i64 0) (.slice none 0 0) (.slice none 0 0) (.slice none 0 0)
 have b16:=Below.all4 (g:=w.heap.size + 2) b15 lh0 (.int .i64 0) (.slice none 0 0) (.slice none 0 0) (.slice none 0 0)
 replace hu:=Lib.hid hu
 replace hu2:=Lib.hid hu2
 replace hu3:=Lib.hid hu3
 replace R2:=Lib.hid R2
 replace R3:=Lib.hid R3
 replace n02:=Lib.hid n02
 replace n03:=Lib.hid n03
 replace n03':=Lib.hid n03'
 replace m02:=Lib.hid m02
 clear o3 c2 c3
 go_wp2
 (try simp only [Exit.inBlock,Exit.then])
 refine bodyPost_ret (v:=.tuple #[.bool false,zRow,zRow,.iface T3 (.pointer (some a3))]) (by simp [results,Tryz.results19,go_sem,g0,g1,g2,g3,h0,h1,h2,h3]) rfl ?_
 exact ⟨_,_,_,_,rfl,b16,rfl,rfl,rfl,hu3.out⟩
set_option maxHeartbeats 4000000 in
theorem one_ok (r : Nat → Addr) (K R : Nat) (va : Option Addr) (vn vc : Nat) (T : List Int) (w : World) (hg : Glob r w) (h : IntsAt w (.slice va vn vc) T) (hr : RuleOk K R T) (hl : T.length ≤ 256) :
 Calls Tryz.prog 19 #[.agg #[.int .i64 K,.int .i64 R,.slice va vn vc]] w (Ret4 (OnePost w K R T) w):=by
 have bb:=belowAlloc w (.cells #[.int .i64 K,.int .i64 R,.slice va vn vc] 24)
 have q : Box3 (w.alloc (.cells #[.int .i64 K,.int .i64 R,.slice va vn vc] 24)) w.heap.size (.int .i64 K) (.int .i64 R) (.slice va vn vc):=by simp [Box3,go_sem]
 obtain ⟨f0,R0,n02,o02⟩:=((Rows.void w.heap.size w).below bb).box4 (0,2) (by simp) 45 (.int .i64 0) (.slice none 0 0) (.slice none 0 0) (.slice none 0 0)
 obtain ⟨f1,R1,n03,o03⟩:=R0.box4 (0,3) (by simp; omega) 45 (.int .i64 0) (.slice none 0 0) (.slice none 0 0) (.slice none 0 0)
 replace n02:=(o03 (0,2) (by decide)).trans n02
 simp only [World.size_alloc] at n02 n03
 have b0 : Below w.heap.size w (((w.alloc (.cells #[.int .i64 K,.int .i64 R,.slice va vn vc] 24)).alloc (.cells #[.int .i64 0,.slice none 0 0,.slice none 0 0,.slice none 0 0] 45)).alloc (.cells #[.int .i64 0,.slice none 0 0,.slice none 0 0,.slice none 0 0] 45)):=Below.step bb (Below.step (belowAlloc _ _) (belowAlloc _ _))
 replace q:=q.below (Below.step (belowAlloc _ (.cells #[.int .i64 0,.slice none 0 0,.slice none 0 0,.slice none 0 0] 45)) (belowAlloc _ (.cells #[.int .i64 0,.slice none 0 0,.slice none 0 0,.slice none 0 0] 45)))
 clear o02 o03 R0 bb
 have hk1:=hr.k1
 have hokW:=wk_ok hr
 have hlW:=wk_small hr hl
 have hRW:=wk_pos R
 have hN81:=nodes_le hokW hRW hlW
 have hN1:=pw_pos (K:=K) (2 * wkR R) hk1
 obtain ⟨hdiv,hlen⟩:=hokW.half
 have hNK : pw K (2 * wkR R) * K ≤ 256:=by rw [← hlen]; exact hlW
 have hck:=pairG_check (K:=K) (N:=pw K (2 * wkR R)) (T:=wkT K R T) (by omega) hN81 hNK
 have hokG : GraphOk (pairG K (pw K (2 * wkR R)) (wkT K R T)):=pairG_ok (by omega)
 have hsz : ∀ k,k < (pairG K (pw K (2 * wkR R)) (wkT K R T)).length → ((pairG K (pw K (2 * wkR R)) (wkT K R T)).getD k []).length ≤ 17592186044416:=fun k hk => by
  rw [pairG_len] at hk
  rw [pairG_row hk,castI_len]
  have:=pairL_len K (pw K (2 * wkR R)) (wkT K R T) k
  have h4:=hr.k4
  have:=Nat.mul_le_mul h4 h4
  omega
 have hgraph:=fun (w' : World) (hgl : Glob r w') (hT : IntsAt w' (.slice va vn vc) T) => pgraph_ok r K R va vn vc T w' hgl hT hr hl
 have hapart:=fun (w' : World) (hgl : Glob r w') (hT : IntsAt w' (.slice va vn vc) T) => papart_ok r K R va vn vc T w' hgl hT hr hl
 have hlenG:=pairG_len (K:=K) (N:=pw K (2 * wkR R)) (T:=wkT K R T)
 have hodd:=fun (L : List Nat) (hL : LiveList (pw K (2 * wkR R) * pw K (2 * wkR R)) (adjOf (pairG K (pw K (2 * wkR R)) (wkT K R T))) L) => odd_none hr hL
 have hone : ∀ (l : List Nat) (v : Nat) (m L C Q : List Nat),LiveList (pw K (2 * wkR R) * pw K (2 * wkR R)) (adjOf (pairG K (pw K (2 * wkR R)) (wkT K R T))) l → oddL K R l = v :: m → WitIs (pairG K (pw K (2 * wkR R)) (wkT K R T)) v L C Q → OneIs K R T L C Q:=fun l v m L C Q h1 h2 h3 => ⟨l,v,m,h1,h2,h3⟩
 have hsub : ∀ (L : List Nat) (v : Nat) (m : List Nat),oddL K R L = v :: m → v ∈ L:=fun L v m e => (List.mem_filter.1 (show v ∈ oddL K R L by rw [e]; exact List.mem_cons_self)).1
 have hwit:=fun (ga : Option Addr) (gc v : Nat) (w' : World) (hgl : Glob r w') (hT : ListsAt w' (.slice ga (pairG K (pw K (2 * wkR R)) (wkT K R T)).length gc) (pairG K (pw K (2 * wkR R)) (wkT K R T))) (hv : v < (pairG K (pw K (2 * wkR R)) (wkT K R T)).length) (hli : IsLive (pairG K (pw K (2 * wkR R)) (wkT K R T)).length (adjOf (pairG K (pw K (2 * wkR R)) (wkT K R T))) v) => witness_ok r K (pw K (2 * wkR R)) ga gc _ v w' hgl hT hsz hck hokG hlenG hN1 hN81 hk1 hv hli
 replace hgraph:=Lib.hid hgraph
 replace hapart:=Lib.hid hapart
 replace hodd:=Lib.hid hodd
 replace hone:=Lib.hid hone
 replace hsub:=Lib.hid hsub
 replace hwit:=Lib.hid hwit
 replace hlenG:=Lib.hid hlenG
 clear hdiv hlen hNK hck hokG hsz hokW hlW hRW hN81 hl
 replace hg:=Lib.hid (hg.below b0)
 replace h:=Lib.hid (h.below b0)
 replace hr:=Lib.hid hr
 obtain ⟨⟨z0,z1,z2⟩,-,-,-⟩:=q
 have q0:=z0
 replace R1:=Lib.hid R1
 replace n02:=Lib.hid n02
 replace n03:=Lib.hid n03
 replace b0:=Lib.hid b0
 go_enter Tryz.func19,Tryz.ntmps19
 go_wp2_with fail
 refine (hgraph.out _ hg.out h.out).mono ?_
 rintro e w1 ⟨gv,y,rfl,b1,rfl,fg,vals,hrows,hwn⟩
 have hL : ListsAt w1 gv (pairG K (pw K (2 * wkR R)) (wkT K R T)):=hwn.lists hrows
 obtain ⟨ga,gc,rfl⟩:=hL.shape
 have c0 : w1.cell? ⟨w.heap.size,0,none⟩ = some (.int .i64 K):=by rw [b1.cell (World.block_lt_of_cell? _ _ z0)]; exact z0
 have c1 : w1.cell? ⟨w.heap.size,1,none⟩ = some (.int .i64 R):=by rw [b1.cell (World.block_lt_of_cell? _ _ z1)]; exact z1
 have c2 : w1.cell? ⟨w.heap.size,2,none⟩ = some (.slice va vn vc):=by rw [b1.cell (World.block_lt_of_cell? _ _ z2)]; exact z2
 have b01:=Below.step b0.out b1
 replace hL:=Lib.hid hL
 clear hrows hwn z0 z1 z2
 rw [hlenG.out]
 generalize hM : pw K (2 * wkR R) * pw K (2 * wkR R) = M at *
 replace hM:=Lib.hid hM
 go_wp2_with fail
 refine (hapart.out w1 (hg.out.below b1) (h.out.below b1)).mono ?_
 rintro e w2 ⟨av,y,rfl,b2,rfl,L,hLL,how⟩
 have how2 : OwnI w1.heap.size w2 av (castI (oddL K R L)):=how
 clear how
 have hnone:=hodd.out L hLL
 have b12:=Below.step b1 b2
 have b02:=Below.step b01 b2
 have R2:=R1.out.below b12
 have k0 : w2.cell? ⟨w.heap.size,0,none⟩ = some (.int .i64 K):=by rw [b2.cell (World.block_lt_of_cell? _ _ c0)]; exact c0
 have lA:=how2.at.len
 rw [castI_len] at lA
 have hsubL:=hsub.out L
 have honeL:=fun v m L' C' Q' e k => hone.out L v m L' C' Q' hLL e k
 have hmemL:=hLL.mem
 replace hLL:=Lib.hid hLL
 replace hsubL:=Lib.hid hsubL
 replace honeL:=Lib.hid honeL
 replace hmemL:=Lib.hid hmemL
 clear c0 c1 c2
 cases hod : oddL K R L with
 | nil =>
  rw [hod] at hnone how2 lA
  have hno:=hnone.1 rfl
  obtain ⟨aa,an,ac,rfl⟩:=how2.at.shape
  replace n02:=n02.out
  replace n03:=n03.out
  obtain ⟨g0,g1,g2,g3⟩:=R2.cells4 n02
  obtain ⟨h0,h1,h2,h3⟩:=R2.cells4 n03
  have fg0:=R2.frz4 n02 0
  have fh0:=R2.frz4 n03 0
  have fg1:=R2.frz4 n02 1
  have fh1:=R2.frz4 n03 1
  have fg2:=R2.frz4 n02 2
  have fh2:=R2.frz4 n03 2
  have fg3:=R2.frz4 n02 3
  have fh3:=R2.frz4 n03 3
  have c2:=R2.cells4 n02
  have c3:=R2.cells4 n03
  have lg0:=(R2.low4 n02).1
  have lh0:=(R2.low4 n03).1
  obtain ⟨f3,R3,m02,o3⟩:=R2.all4 n02 (.int .i64 0) (.slice none 0 0) (.slice none 0 0) (.slice none 0 0)
  have b15:=Below.all4 (g:=w.heap.size + 1) b02 lg0 (.int .i64 0) (.slice none 0 0) (.slice none 0 0) (.slice none 0 0)
  have b16:=Below.all4 (g:=w.heap.size + 2) b15 lh0 (.int .i64 0) (.slice none 0 0) (.slice none 0 0) (.slice none 0 0)
  replace hno:=Lib.hid hno
  replace hod:=Lib.hid hod
  replace how2:=Lib.hid how2
  replace R2:=Lib.hid R2
  replace R3:=Lib.hid R3
  replace n02:=Lib.hid n02
  replace n03:=Lib.hid n03
  replace m02:=Lib.hid m02
  clear o3 c2 c3 hnone
  go_wp2
  (try simp only [Exit.inBlock,Exit.then])
  refine bodyPost_ret (v:=.tuple #[.bool true,zRow,zRow,.nilIface]) (by simp [results,Tryz.results19,go_sem,g0,g1,g2,g3,h0,h1,h2,h3]) rfl ?_
  exact ⟨_,_,_,_,rfl,b16,rfl,.inl ⟨rfl,rfl,rfl,hno.out⟩⟩
 | cons v m =>
  rw [hod] at hnone how2 lA
  have hno : NotOne K R T:=Classical.byContradiction fun q => by have:=hnone.2 q; cases this
  obtain ⟨aa,an,ac,rfl⟩:=how2.at.shape
  have hvL:=hsubL.out v m hod
  obtain ⟨hvM,hvl⟩:=(hmemL.out v).1 hvL
  have iA : ∀ w',(Instr.indexAt 22 (.slice aa an ac) (.int .i64 0)).run Tryz.prog w' = .ok (.pointer (some (valAt (.slice aa an ac) 0))) w':=fun w' => how2.at.idx 0 (by simp [castI]) w'
  have cA:=how2.at.cellD 0 (by simp [castI])
  rw [show (castI (v :: m)).getD 0 0 = (v : Int) from rfl] at cA
  have e0 : (((v :: m).length : Nat) : Int) = (m.length : Int) + 1:=by simp
  rw [e0] at lA
  have e1 : ((m.length : Int) + 1 == 0) = false:=by rw [beq_eq_false_iff_ne]; omega
  have hwv:=fun (w' : World) (hgl : Glob r w') (hT : ListsAt w' (.slice ga M gc) (pairG K (pw K (2 * wkR R)) (wkT K R T))) => hwit.out ga gc v w' hgl (by rw [hlenG.out]; exact hT) (by rw [hlenG.out]; exact hvM) (by rw [hlenG.out]; exact hvl)
  rw [hlenG.out] at hwv
  have hG2:=hg.out.below b12
  have hL2 : ListsAt w2 (.slice ga M gc) (pairG K (pw K (2 * wkR R)) (wkT K R T)):=by
   have:=hL.out.below b2
   rwa [hlenG.out] at this
  replace hwv:=Lib.hid hwv
  replace hG2:=Lib.hid hG2
  replace hL2:=Lib.hid hL2
  replace hno:=Lib.hid hno
  replace hvL:=Lib.hid hvL
  replace hvl:=Lib.hid hvl
  replace how2:=Lib.hid how2
  replace R2:=Lib.hid R2
  clear hnone e0
  generalize valAt (.slice aa an ac) 0 = ra at *
  replace hod:=Lib.hid hod
  go_upto_region 7 with fail
  go_cut [7,9,10] from 39 (fun s7 s9 s10 wx => s7 = .nilIface ∧ ∃ (g9 g10 : Nat) (L C Q : List Nat) (aL aC aQ bL bC bQ : Value) (f : Names),s9 = .pointer (some ⟨g9,0,none⟩) ∧ s10 = .pointer (some ⟨g10,0,none⟩) ∧ Below w.heap.size w wx ∧ WitIs (pairG K (pw K (2 * wkR R)) (wkT K R T)) v L C Q ∧ Rows w.heap.size wx f ∧ f (0,2) = some (box4 45 (w.heap.size + 1) [.int .i64 0,.slice none 0 0,.slice none 0 0,.slice none 0 0]) ∧ f (0,3) = some (box4 45 (w.heap.size + 2) [.int .i64 0,.slice none 0 0,.slice none 0 0,.slice none 0 0]) ∧ f (9,0) = some (box4 45 g9 [.int .i64 0,aL,aC,aQ]) ∧ f (9,1) = some (box4 45 g10 [.int .i64 0,bL,bC,bQ]) ∧ f (1,0) = some (rowI aL (sideA K (pw K (2 * wkR R)) L)) ∧ f (1,1) = some (rowI bL (sideB K (pw K (2 * wkR R)) L)) ∧ f (2,0) = some (rowI aC (sideA K (pw K (2 * wkR R)) C)) ∧ f (2,1) = some (rowI bC (sideB K (pw K (2 * wkR R)) C)) ∧ f (3,0) = some (rowI aQ (sideA K (pw K (2 * wkR R)) Q)) ∧ f (3,1) = some (rowI bQ (sideB K (pw K (2 * wkR R)) Q)))
  case first =>
   obtain ⟨W0,hW0⟩ : ∃ W0 : World,W0 = w2.drew:=⟨_,rfl⟩
   have b20 : Below w2.heap.size w2 W0:=by rw [hW0]; exact (Below.refl _ _).drew
   have bW0 : Below w.heap.size w W0:=by rw [hW0]; exact b02.drew
   have RW0 : Rows w.heap.size W0 f1:=by rw [hW0]; exact R2.out.drew
   have hB0:=bW0.size
   have hS0 : W0.cell? ⟨w.heap.size,0,none⟩ = some (.int .i64 K) ∧ W0.cell? ra = some (.int .i64 v):=by rw [hW0]; exact ⟨k0,cA⟩
   have hlow : w.heap.size < w2.heap.size ∧ ra.block < w2.heap.size:=⟨World.block_lt_of_cell? _ _ k0,World.block_lt_of_cell? _ _ cA⟩
   replace n02:=n02.out
   replace n03:=n03.out
   refine wp_region_noPanic ?_
   refine wp_region_any (by kernel_rfl) ?_
   change wpAny _ _ _ _ _ _ _ (World.drew _)
   rw [← hW0]
   clear hW0 k0 cA b02 R2
   refine wpAny_of_held (S:=fun w' => w'.cell? ⟨w.heap.size,0,none⟩ = some (.int .i64 K) ∧ w'.cell? ra = some (.int .i64 v)) _ _ _ _ ?_
   refine pqD 0 40 hS0 ?_
   refine pqD 1 41 hS0 ?_
   refine pqD 2 42 hS0 ?_
   refine pqD 3 43 hS0 ?_
   refine pqD 4 44 hS0 ?_
   refine pqD 5 45 hS0 ?_
   refine wpAnyH_ready (rs:=[6,11,12]) (by kernel_rfl) (by simp) (AllReadyH.cons rfl (fun KK hK => ?_) (AllReadyH.cons rfl (fun KK hK => ?_) (AllReadyH.cons rfl (fun KK hK => ?_) (AllReadyH.nil))))
   ·go_simp
    refine (hwv.out W0 (hG2.out.below b20) (hL2.out.below b20)).mono ?_
    rintro e W1 ⟨x,y,z,rfl,bb,hz,L',C',Q',aL,aC,aQ,bL,bC,bQ,hwi,rfl,rfl,fw,Rw,k10,k11,k20,k21,k30,k31⟩
    subst hz
    obtain ⟨aLa,aLn,aLc,haL⟩:=(Rw.ownI k10).at.shape
    subst haL
    obtain ⟨bLa,bLn,bLc,hbL⟩:=(Rw.ownI k11).at.shape
    subst hbL
    obtain ⟨aCa,aCn,aCc,haC⟩:=(Rw.ownI k20).at.shape
    subst haC
    obtain ⟨bCa,bCn,bCc,hbC⟩:=(Rw.ownI k21).at.shape
    subst hbC
    obtain ⟨aQa,aQn,aQc,haQ⟩:=(Rw.ownI k30).at.shape
    subst haQ
    obtain ⟨bQa,bQn,bQc,hbQ⟩:=(Rw.ownI k31).at.shape
    subst hbQ
    obtain ⟨f1,RW1,sel,oth⟩:=RW0.merge (fun i => decide (i.1 = 1 ∨ i.1 = 2 ∨ i.1 = 3)) bb Rw hB0
    replace n02:=(oth (0,2) (by decide)).trans n02
    replace n03:=(oth (0,3) (by decide)).trans n03
    have n10:=(sel (1,0) (by decide)).trans k10
    have n11:=(sel (1,1) (by decide)).trans k11
    have n20:=(sel (2,0) (by decide)).trans k20
    have n21:=(sel (2,1) (by decide)).trans k21
    have n30:=(sel (3,0) (by decide)).trans k30
    have n31:=(sel (3,1) (by decide)).trans k31
    replace hwi:=Lib.hid hwi
    clear sel oth k10 k11 k20 k21 k30 k31 Rw
    have bW1:=bW0.trans (bb.mono hB0)
    have b21:=Below.step b20 bb
    have hB1:=bW1.size
    have hS1 : W1.cell? ⟨w.heap.size,0,none⟩ = some (.int .i64 K) ∧ W1.cell? ra = some (.int .i64 v):=⟨by rw [b21.cell hlow.1,← b20.cell hlow.1]; exact hS0.1,by rw [b21.cell hlow.2,← b20.cell hlow.2]; exact hS0.2⟩
    refine hK.out _ _ hS1 fun _ => ?_
    clear hK KK bb RW0
    refine pqD 7 39 hS1 ?_
    refine pqD 8 47 hS1 ?_
    refine pqD 9 48 hS1 ?_
    refine pqD 10 49 hS1 ?_
    refine wpAnyH_ready (rs:=[11,12]) (by kernel_rfl) (by simp) (AllReadyH.cons rfl (fun KK hK => ?_) (AllReadyH.cons rfl (fun KK hK => ?_) (AllReadyH.nil)))
    ·go_simp
     obtain ⟨f2,RW2,n90,oo⟩:=RW1.box4 (9,0) hB1 45 (.int .i64 0) (.slice none 0 0) (.slice none 0 0) (.slice none 0 0)
     replace n02:=(oo (0,2) (by decide)).trans n02
     replace n03:=(oo (0,3) (by decide)).trans n03
     replace n10:=(oo (1,0) (by decide)).trans n10
     replace n11:=(oo (1,1) (by decide)).trans n11
     replace n20:=(oo (2,0) (by decide)).trans n20
     replace n21:=(oo (2,1) (by decide)).trans n21
     replace n30:=(oo (3,0) (by decide)).trans n30
     replace n31:=(oo (3,1) (by decide)).trans n31
     have bb:=belowAlloc W1 (.cells #[.int .i64 0,.slice none 0 0,.slice none 0 0,.slice none 0 0] 45)
     obtain ⟨gb9,hgb9⟩ : ∃ g,W1.heap.size = g:=⟨_,rfl⟩
     obtain ⟨W2,hW2⟩ : ∃ W' : World,W1.alloc (.cells #[.int .i64 0,.slice none 0 0,.slice none 0 0,.slice none 0 0] 45) = W':=⟨_,rfl⟩
     have lgb9 : w2.heap.size ≤ gb9:=by rw [← hgb9]; exact b21.size
     have bW2:=bW1.trans (bb.mono hB1)
     have b22:=Below.step b21 bb
     rw [hW2] at RW2 bW2 b22 bb
     have hB2:=bW2.size
     have hS2 : W2.cell? ⟨w.heap.size,0,none⟩ = some (.int .i64 K) ∧ W2.cell? ra = some (.int .i64 v):=⟨by rw [b22.cell hlow.1,← b21.cell hlow.1]; exact hS1.1,by rw [b22.cell hlow.2,← b21.cell hlow.2]; exact hS1.2⟩
     rw [hW2,hgb9]
     rw [hgb9] at n90
     replace hW2:=Lib.hid hW2
     replace hgb9:=Lib.hid hgb9
     refine hK.out _ _ hS2 fun _ => ?_
     clear hK KK bb RW1 oo
     refine wpAnyH_ready (rs:=[12]) (by kernel_rfl) (by simp) (AllReadyH.cons rfl (fun KK hK => ?_) (AllReadyH.nil))
     ·go_simp
      obtain ⟨f3,RW3,n91,oo⟩:=RW2.box4 (9,1) hB2 45 (.int .i64 0) (.slice none 0 0) (.slice none 0 0) (.slice none 0 0)
      replace n02:=(oo (0,2) (by decide)).trans n02
      replace n03:=(oo (0,3) (by decide)).trans n03
      replace n10:=(oo (1,0) (by decide)).trans n10
      replace n11:=(oo (1,1) (by decide)).trans n11
      replace n20:=(oo (2,0) (by decide)).trans n20
      replace n21:=(oo (2,1) (by decide)).trans n21
      replace n30:=(oo (3,0) (by decide)).trans n30
      replace n31:=(oo (3,1) (by decide)).trans n31
      replace n90:=(oo (9,0) (by decide)).trans n90
      have bb:=belowAlloc W2 (.cells #[.int .i64 0,.slice none 0 0,.slice none 0 0,.slice none 0 0] 45)
      obtain ⟨gb10,hgb10⟩ : ∃ g,W2.heap.size = g:=⟨_,rfl⟩
      obtain ⟨W3,hW3⟩ : ∃ W' : World,W2.alloc (.cells #[.int .i64 0,.slice none 0 0,.slice none 0 0,.slice none 0 0] 45) = W':=⟨_,rfl⟩
      have lgb10 : w2.heap.size ≤ gb10:=by rw [← hgb10]; exact b22.size
      have bW3:=bW2.trans (bb.mono hB2)
      have b23:=Below.step b22 bb
      rw [hW3] at RW3 bW3 b23 bb
      have hB3:=bW3.size
      have hS3 : W3.cell? ⟨w.heap.size,0,none⟩ = some (.int .i64 K) ∧ W3.cell? ra = some (.int .i64 v):=⟨by rw [b23.cell hlow.1,← b22.cell hlow.1]; exact hS2.1,by rw [b23.cell hlow.2,← b22.cell hlow.2]; exact hS2.2⟩
      rw [hW3,hgb10]
      rw [hgb10] at n91
      replace hW3:=Lib.hid hW3
      replace hgb10:=Lib.hid hgb10
      refine hK.out _ _ hS3 fun _ => ?_
      clear hK KK bb RW2 oo
      obtain ⟨t0,t1,t2,t3⟩:=RW3.cells4 n90
      have ft0:=RW3.frz4 n90 0
      have ft1:=RW3.frz4 n90 1
      have ft2:=RW3.frz4 n90 2
      have ft3:=RW3.frz4 n90 3
      have lt:=(RW3.low4 n90)
      obtain ⟨f4,RW4,mm,oo⟩:=RW3.all4 n90 (.int .i64 0) (.slice aLa aLn aLc) (.slice aCa aCn aCc) (.slice aQa aQn aQc)
      replace n02:=(oo (0,2) (by decide)).trans n02
      replace n03:=(oo (0,3) (by decide)).trans n03
      replace n10:=(oo (1,0) (by decide)).trans n10
      replace n11:=(oo (1,1) (by decide)).trans n11
      replace n20:=(oo (2,0) (by decide)).trans n20
      replace n21:=(oo (2,1) (by decide)).trans n21
      replace n30:=(oo (3,0) (by decide)).trans n30
      replace n31:=(oo (3,1) (by decide)).trans n31
      replace n91:=(oo (9,1) (by decide)).trans n91
      clear n90
      have n90:=mm
      have bW4:=Below.all4 (g:=gb9) bW3 lt.1 (.int .i64 0) (.slice aLa aLn aLc) (.slice aCa aCn aCc) (.slice aQa aQn aQc)
      have b24:=Below.all4 (g:=gb9) b23 lgb9 (.int .i64 0) (.slice aLa aLn aLc) (.slice aCa aCn aCc) (.slice aQa aQn aQc)
      obtain ⟨W4,hW4⟩ : ∃ W' : World,(((W3.setCell ⟨gb9,0,none⟩ (.int .i64 0)).setCell ⟨gb9,1,none⟩ (.slice aLa aLn aLc)).setCell ⟨gb9,2,none⟩ (.slice aCa aCn aCc)).setCell ⟨gb9,3,none⟩ (.slice aQa aQn aQc) = W':=⟨_,rfl⟩
      rw [hW4] at RW4 bW4 b24
      have hS4 : W4.cell? ⟨w.heap.size,0,none⟩ = some (.int .i64 K) ∧ W4.cell? ra = some (.int .i64 v):=⟨by rw [b24.cell hlow.1,← b23.cell hlow.1]; exact hS3.1,by rw [b24.cell hlow.2,← b23.cell hlow.2]; exact hS3.2⟩
      replace hW4:=Lib.hid hW4
      refine wpAnyH_ready (rs:=[13]) (by kernel_rfl) (by simp) (AllReadyH.cons rfl (fun KK hK => ?_) AllReadyH.nil)
      go_simp
      rw [hW4.out]
      refine hK.out _ _ hS4 fun _ => ?_
      clear hK KK t0 t1 t2 t3 ft0 ft1 ft2 ft3 mm oo lt RW3 hW4
      obtain ⟨t0,t1,t2,t3⟩:=RW4.cells4 n91
      have ft0:=RW4.frz4 n91 0
      have ft1:=RW4.frz4 n91 1
      have ft2:=RW4.frz4 n91 2
      have ft3:=RW4.frz4 n91 3
      have lt:=(RW4.low4 n91)
      obtain ⟨f5,RW5,mm,oo⟩:=RW4.all4 n91 (.int .i64 0) (.slice bLa bLn bLc) (.slice bCa bCn bCc) (.slice bQa bQn bQc)
      replace n02:=(oo (0,2) (by decide)).trans n02
      replace n03:=(oo (0,3) (by decide)).trans n03
      replace n10:=(oo (1,0) (by decide)).trans n10
      replace n11:=(oo (1,1) (by decide)).trans n11
      replace n20:=(oo (2,0) (by decide)).trans n20
      replace n21:=(oo (2,1) (by decide)).trans n21
      replace n30:=(oo (3,0) (by decide)).trans n30
      replace n31:=(oo (3,1) (by decide)).trans n31
      replace n90:=(oo (9,0) (by decide)).trans n90
      clear n91
      have n91:=mm
      have bW5:=Below.all4 (g:=gb10) bW4 lt.1 (.int .i64 0) (.slice bLa bLn bLc) (.slice bCa bCn bCc) (.slice bQa bQn bQc)
      have b25:=Below.all4 (g:=gb10) b24 lgb10 (.int .i64 0) (.slice bLa bLn bLc) (.slice bCa bCn bCc) (.slice bQa bQn bQc)
      obtain ⟨W5,hW5⟩ : ∃ W' : World,(((W4.setCell ⟨gb10,0,none⟩ (.int .i64 0)).setCell ⟨gb10,1,none⟩ (.slice bLa bLn bLc)).setCell ⟨gb10,2,none⟩ (.slice bCa bCn bCc)).setCell ⟨gb10,3,none⟩ (.slice bQa bQn bQc) = W':=⟨_,rfl⟩
      rw [hW5] at RW5 bW5 b25
      have hS5 : W5.cell? ⟨w.heap.size,0,none⟩ = some (.int .i64 K) ∧ W5.cell? ra = some (.int .i64 v):=⟨by rw [b25.cell hlow.1,← b24.cell hlow.1]; exact hS4.1,by rw [b25.cell hlow.2,← b24.cell hlow.2]; exact hS4.2⟩
      replace hW5:=Lib.hid hW5
      refine wpAnyH_ready (rs:=[14]) (by kernel_rfl) (by simp) (AllReadyH.cons rfl (fun KK hK => ?_) AllReadyH.nil)
      go_simp
      rw [hW5.out]
      refine hK.out _ _ hS5 fun _ => ?_
      clear hK KK t0 t1 t2 t3 ft0 ft1 ft2 ft3 mm oo lt RW4 hW5
      refine pqD 15 7 hS5 ?_
      refine wpAnyH_done (by kernel_rfl) ?_ _
      refine NoPanic.normal ?_
      replace n02:=Lib.hid n02
      replace n03:=Lib.hid n03
      replace n90:=Lib.hid n90
      replace n91:=Lib.hid n91
      replace n10:=Lib.hid n10
      replace n11:=Lib.hid n11
      replace n20:=Lib.hid n20
      replace n21:=Lib.hid n21
      replace n30:=Lib.hid n30
      replace n31:=Lib.hid n31
      replace RW5:=Lib.hid RW5
      go_wp2
      go_meet
      case rel => exact ⟨rfl,gb9,gb10,L',C',Q',_,_,_,_,_,_,f5,rfl,rfl,bW5,hwi.out,RW5.out,n02.out,n03.out,n90.out,n91.out,n10.out,n11.out,n20.out,n21.out,n30.out,n31.out⟩
    ·go_simp
     obtain ⟨f6,RW6,n91,oo⟩:=RW1.box4 (9,1) hB1 45 (.int .i64 0) (.slice none 0 0) (.slice none 0 0) (.slice none 0 0)
     replace n02:=(oo (0,2) (by decide)).trans n02
     replace n03:=(oo (0,3) (by decide)).trans n03
     replace n10:=(oo (1,0) (by decide)).trans n10
     replace n11:=(oo (1,1) (by decide)).trans n11
     replace n20:=(oo (2,0) (by decide)).trans n20
     replace n21:=(oo (2,1) (by decide)).trans n21
     replace n30:=(oo (3,0) (by decide)).trans n30
     replace n31:=(oo (3,1) (by decide)).trans n31
     have bb:=belowAlloc W1 (.cells #[.int .i64 0,.slice none 0 0,.slice none 0 0,.slice none 0 0] 45)
     obtain ⟨gb10,hgb10⟩ : ∃ g,W1.heap.size = g:=⟨_,rfl⟩
     obtain ⟨W6,hW6⟩ : ∃ W' : World,W1.alloc (.cells #[.int .i64 0,.slice none 0 0,.slice none 0 0,.slice none 0 0] 45) = W':=⟨_,rfl⟩
     have lgb10 : w2.heap.size ≤ gb10:=by rw [← hgb10]; exact b21.size
     have bW6:=bW1.trans (bb.mono hB1)
     have b26:=Below.step b21 bb
     rw [hW6] at RW6 bW6 b26 bb
     have hB6:=bW6.size
     have hS6 : W6.cell? ⟨w.heap.size,0,none⟩ = some (.int .i64 K) ∧ W6.cell? ra = some (.int .i64 v):=⟨by rw [b26.cell hlow.1,← b21.cell hlow.1]; exact hS1.1,by rw [b26.cell hlow.2,← b21.cell hlow.2]; exact hS1.2⟩
     rw [hW6,hgb10]
     rw [hgb10] at n91
     replace hW6:=Lib.hid hW6
     replace hgb10:=Lib.hid hgb10
     refine hK.out _ _ hS6 fun _ => ?_
     clear hK KK bb RW1 oo
     refine wpAnyH_ready (rs:=[11]) (by kernel_rfl) (by simp) (AllReadyH.cons rfl (fun KK hK => ?_) (AllReadyH.nil))
     ·go_simp
      obtain ⟨f7,RW7,n90,oo⟩:=RW6.box4 (9,0) hB6 45 (.int .i64 0) (.slice none 0 0) (.slice none 0 0) (.slice none 0 0)
      replace n02:=(oo (0,2) (by decide)).trans n02
      replace n03:=(oo (0,3) (by decide)).trans n03
      replace n10:=(oo (1,0) (by decide)).trans n10
      replace n11:=(oo (1,1) (by decide)).trans n11
      replace n20:=(oo (2,0) (by decide)).trans n20
      replace n21:=(oo (2,1) (by decide)).trans n21
      replace n30:=(oo (3,0) (by decide)).trans n30
      replace n31:=(oo (3,1) (by decide)).trans n31
      replace n91:=(oo (9,1) (by decide)).trans n91
      have bb:=belowAlloc W6 (.cells #[.int .i64 0,.slice none 0 0,.slice none 0 0,.slice none 0 0] 45)
      obtain ⟨gb9,hgb9⟩ : ∃ g,W6.heap.size = g:=⟨_,rfl⟩
      obtain ⟨W7,hW7⟩ : ∃ W' : World,W6.alloc (.cells #[.int .i64 0,.slice none 0 0,.slice none 0 0,.slice none 0 0] 45) = W':=⟨_,rfl⟩
      have lgb9 : w2.heap.size ≤ gb9:=by rw [← hgb9]; exact b26.size
      have bW7:=bW6.trans (bb.mono hB6)
      have b27:=Below.step b26 bb
      rw [hW7] at RW7 bW7 b27 bb
      have hB7:=bW7.size
      have hS7 : W7.cell? ⟨w.heap.size,0,none⟩ = some (.int .i64 K) ∧ W7.cell? ra = some (.int .i64 v):=⟨by rw [b27.cell hlow.1,← b26.cell hlow.1]; exact hS6.1,by rw [b27.cell hlow.2,← b26.cell hlow.2]; exact hS6.2⟩
      rw [hW7,hgb9]
      rw [hgb9] at n90
      replace hW7:=Lib.hid hW7
      replace hgb9:=Lib.hid hgb9
      refine hK.out _ _ hS7 fun _ => ?_
      clear hK KK bb RW6 oo
      obtain ⟨t0,t1,t2,t3⟩:=RW7.cells4 n90
      have ft0:=RW7.frz4 n90 0
      have ft1:=RW7.frz4 n90 1
      have ft2:=RW7.frz4 n90 2
      have ft3:=RW7.frz4 n90 3
      have lt:=(RW7.low4 n90)
      obtain ⟨f8,RW8,mm,oo⟩:=RW7.all4 n90 (.int .i64 0) (.slice aLa aLn aLc) (.slice aCa aCn aCc) (.slice aQa aQn aQc)
      replace n02:=(oo (0,2) (by decide)).trans n02
      replace n03:=(oo (0,3) (by decide)).trans n03
      replace n10:=(oo (1,0) (by decide)).trans n10
      replace n11:=(oo (1,1) (by decide)).trans n11
      replace n20:=(oo (2,0) (by decide)).trans n20
      replace n21:=(oo (2,1) (by decide)).trans n21
      replace n30:=(oo (3,0) (by decide)).trans n30
      replace n31:=(oo (3,1) (by decide)).trans n31
      replace n91:=(oo (9,1) (by decide)).trans n91
      clear n90
      have n90:=mm
      have bW8:=Below.all4 (g:=gb9) bW7 lt.1 (.int .i64 0) (.slice aLa aLn aLc) (.slice aCa aCn aCc) (.slice aQa aQn aQc)
      have b28:=Below.all4 (g:=gb9) b27 lgb9 (.int .i64 0) (.slice aLa aLn aLc) (.slice aCa aCn aCc) (.slice aQa aQn aQc)
      obtain ⟨W8,hW8⟩ : ∃ W' : World,(((W7.setCell ⟨gb9,0,none⟩ (.int .i64 0)).setCell ⟨gb9,1,none⟩ (.slice aLa aLn aLc)).setCell ⟨gb9,2,none⟩ (.slice aCa aCn aCc)).setCell ⟨gb9,3,none⟩ (.slice aQa aQn aQc) = W':=⟨_,rfl⟩
      rw [hW8] at RW8 bW8 b28
      have hS8 : W8.cell? ⟨w.heap.size,0,none⟩ = some (.int .i64 K) ∧ W8.cell? ra = some (.int .i64 v):=⟨by rw [b28.cell hlow.1,← b27.cell hlow.1]; exact hS7.1,by rw [b28.cell hlow.2,← b27.cell hlow.2]; exact hS7.2⟩
      replace hW8:=Lib.hid hW8
      refine wpAnyH_ready (rs:=[13]) (by kernel_rfl) (by simp) (AllReadyH.cons rfl (fun KK hK => ?_) AllReadyH.nil)
      go_simp
      rw [hW8.out]
      refine hK.out _ _ hS8 fun _ => ?_
      clear hK KK t0 t1 t2 t3 ft0 ft1 ft2 ft3 mm oo lt RW7 hW8
      obtain ⟨t0,t1,t2,t3⟩:=RW8.cells4 n91
      have ft0:=RW8.frz4 n91 0
      have ft1:=RW8.frz4 n91 1
      have ft2:=RW8.frz4 n91 2
      have ft3:=RW8.frz4 n91 3
      have lt:=(RW8.low4 n91)
      obtain ⟨f9,RW9,mm,oo⟩:=RW8.all4 n91 (.int .i64 0) (.slice bLa bLn bLc) (.slice bCa bCn bCc) (.slice bQa bQn bQc)
      replace n02:=(oo (0,2) (by decide)).trans n02
      replace n03:=(oo (0,3) (by decide)).trans n03
      replace n10:=(oo (1,0) (by decide)).trans n10
      replace n11:=(oo (1,1) (by decide)).trans n11
      replace n20:=(oo (2,0) (by decide)).trans n20
      replace n21:=(oo (2,1) (by decide)).trans n21
      replace n30:=(oo (3,0) (by decide)).trans n30
      replace n31:=(oo (3,1) (by decide)).trans n31
      replace n90:=(oo (9,0) (by decide)).trans n90
      clear n91
      have n91:=mm
      have bW9:=Below.all4 (g:=gb10) bW8 lt.1 (.int .i64 0) (.slice bLa bLn bLc) (.slice bCa bCn bCc) (.slice bQa bQn bQc)
      have b29:=Below.all4 (g:=gb10) b28 lgb10 (.int .i64 0) (.slice bLa bLn bLc) (.slice bCa bCn bCc) (.slice bQa bQn bQc)
      obtain ⟨W9,hW9⟩ : ∃ W' : World,(((W8.setCell ⟨gb10,0,none⟩ (.int .i64 0)).setCell ⟨gb10,1,none⟩ (.slice bLa bLn bLc)).setCell ⟨gb10,2,none⟩ (.slice bCa bCn bCc)).setCell ⟨gb10,3,none⟩ (.slice bQa bQn bQc) = W':=⟨_,rfl⟩
      rw [hW9] at RW9 bW9 b29
      have hS9 : W9.cell? ⟨w.heap.size,0,none⟩ = some (.int .i64 K) ∧ W9.cell? ra = some (.int .i64 v):=⟨by rw [b29.cell hlow.1,← b28.cell hlow.1]; exact hS8.1,by rw [b29.cell hlow.2,← b28.cell hlow.2]; exact hS8.2⟩
      replace hW9:=Lib.hid hW9
      refine wpAnyH_ready (rs:=[14]) (by kernel_rfl) (by simp) (AllReadyH.cons rfl (fun KK hK => ?_) AllReadyH.nil)
      go_simp
      rw [hW9.out]
      refine hK.out _ _ hS9 fun _ => ?_
      clear hK KK t0 t1 t2 t3 ft0 ft1 ft2 ft3 mm oo lt RW8 hW9
      refine pqD 15 7 hS9 ?_
      refine wpAnyH_done (by kernel_rfl) ?_ _
      refine NoPanic.normal ?_
      replace n02:=Lib.hid n02
      replace n03:=Lib.hid n03
      replace n90:=Lib.hid n90
      replace n91:=Lib.hid n91
      replace n10:=Lib.hid n10
      replace n11:=Lib.hid n11
      replace n20:=Lib.hid n20
      replace n21:=Lib.hid n21
      replace n30:=Lib.hid n30
      replace n31:=Lib.hid n31
      replace RW9:=Lib.hid RW9
      go_wp2
      go_meet
      case rel => exact ⟨rfl,gb9,gb10,L',C',Q',_,_,_,_,_,_,f9,rfl,rfl,bW9,hwi.out,RW9.out,n02.out,n03.out,n90.out,n91.out,n10.out,n11.out,n20.out,n21.out,n30.out,n31.out⟩
   ·go_simp
    obtain ⟨f10,RW10,n90,oo⟩:=RW0.box4 (9,0) hB0 45 (.int .i64 0) (.slice none 0 0) (.slice none 0 0) (.slice none 0 0)
    replace n02:=(oo (0,2) (by decide)).trans n02
    replace n03:=(oo (0,3) (by decide)).trans n03
    have bb:=belowAlloc W0 (.cells #[.int .i64 0,.slice none 0 0,.slice none 0 0,.slice none 0 0] 45)
    obtain ⟨gb9,hgb9⟩ : ∃ g,W0.heap.size = g:=⟨_,rfl⟩
    obtain ⟨W10,hW10⟩ : ∃ W' : World,W0.alloc (.cells #[.int .i64 0,.slice none 0 0,.slice none 0 0,.slice none 0 0] 45) = W':=⟨_,rfl⟩
    have lgb9 : w2.heap.size ≤ gb9:=by rw [← hgb9]; exact b20.size
    have bW10:=bW0.trans (bb.mono hB0)
    have b210:=Below.step b20 bb
    rw [hW10] at RW10 bW10 b210 bb
    have hB10:=bW10.size
    have hS10 : W10.cell? ⟨w.heap.size,0,none⟩ = some (.int .i64 K) ∧ W10.cell? ra = some (.int .i64 v):=⟨by rw [b210.cell hlow.1,← b20.cell hlow.1]; exact hS0.1,by rw [b210.cell hlow.2,← b20.cell hlow.2]; exact hS0.2⟩
    rw [hW10,hgb9]
    rw [hgb9] at n90
    replace hW10:=Lib.hid hW10
    replace hgb9:=Lib.hid hgb9
    refine hK.out _ _ hS10 fun _ => ?_
    clear hK KK bb RW0 oo
    refine wpAnyH_ready (rs:=[6,12]) (by kernel_rfl) (by simp) (AllReadyH.cons rfl (fun KK hK => ?_) (AllReadyH.cons rfl (fun KK hK => ?_) (AllReadyH.nil)))
    ·go_simp
     refine (hwv.out W10 (hG2.out.below b210) (hL2.out.below b210)).mono ?_
     rintro e W11 ⟨x,y,z,rfl,bb,hz,L',C',Q',aL,aC,aQ,bL,bC,bQ,hwi,rfl,rfl,fw,Rw,k10,k11,k20,k21,k30,k31⟩
     subst hz
     obtain ⟨aLa,aLn,aLc,haL⟩:=(Rw.ownI k10).at.shape
     subst haL
     obtain ⟨bLa,bLn,bLc,hbL⟩:=(Rw.ownI k11).at.shape
     subst hbL
     obtain ⟨aCa,aCn,aCc,haC⟩:=(Rw.ownI k20).at.shape
     subst haC
     obtain ⟨bCa,bCn,bCc,hbC⟩:=(Rw.ownI k21).at.shape
     subst hbC
     obtain ⟨aQa,aQn,aQc,haQ⟩:=(Rw.ownI k30).at.shape
     subst haQ
     obtain ⟨bQa,bQn,bQc,hbQ⟩:=(Rw.ownI k31).at.shape
     subst hbQ
     obtain ⟨f11,RW11,sel,oth⟩:=RW10.merge (fun i => decide (i.1 = 1 ∨ i.1 = 2 ∨ i.1 = 3)) bb Rw hB10
     replace n02:=(oth (0,2) (by decide)).trans n02
     replace n03:=(oth (0,3) (by decide)).trans n03
     replace n90:=(oth (9,0) (by decide)).trans n90
     have n10:=(sel (1,0) (by decide)).trans k10
     have n11:=(sel (1,1) (by decide)).trans k11
     have n20:=(sel (2,0) (by decide)).trans k20
     have n21:=(sel (2,1) (by decide)).trans k21
     have n30:=(sel (3,0) (by decide)).trans k30
     have n31:=(sel (3,1) (by decide)).trans k31
     replace hwi:=Lib.hid hwi
     clear sel oth k10 k11 k20 k21 k30 k31 Rw
     have bW11:=bW10.trans (bb.mono hB10)
     have b211:=Below.step b210 bb
     have hB11:=bW11.size
     have hS11 : W11.cell? ⟨w.heap.size,0,none⟩ = some (.int .i64 K) ∧ W11.cell? ra = some (.int .i64 v):=⟨by rw [b211.cell hlow.1,← b210.cell hlow.1]; exact hS10.1,by rw [b211.cell hlow.2,← b210.cell hlow.2]; exact hS10.2⟩
     refine hK.out _ _ hS11 fun _ => ?_
     clear hK KK bb RW10
     refine pqD 7 39 hS11 ?_
     refine pqD 8 47 hS11 ?_
     refine pqD 9 48 hS11 ?_
     refine pqD 10 49 hS11 ?_
     refine wpAnyH_ready (rs:=[12]) (by kernel_rfl) (by simp) (AllReadyH.cons rfl (fun KK hK => ?_) (AllReadyH.nil))
     ·go_simp
      obtain ⟨f12,RW12,n91,oo⟩:=RW11.box4 (9,1) hB11 45 (.int .i64 0) (.slice none 0 0) (.slice none 0 0) (.slice none 0 0)
      replace n02:=(oo (0,2) (by decide)).trans n02
      replace n03:=(oo (0,3) (by decide)).trans n03
      replace n90:=(oo (9,0) (by decide)).trans n90
      replace n10:=(oo (1,0) (by decide)).trans n10
      replace n11:=(oo (1,1) (by decide)).trans n11
      replace n20:=(oo (2,0) (by decide)).trans n20
      replace n21:=(oo (2,1) (by decide)).trans n21
      replace n30:=(oo (3,0) (by decide)).trans n30
      replace n31:=(oo (3,1) (by decide)).trans n31
      have bb:=belowAlloc W11 (.cells #[.int .i64 0,.slice none 0 0,.slice none 0 0,.slice none 0 0] 45)
      obtain ⟨gb10,hgb10⟩ : ∃ g,W11.heap.size = g:=⟨_,rfl⟩
      obtain ⟨W12,hW12⟩ : ∃ W' : World,W11.alloc (.cells #[.int .i64 0,.slice none 0 0,.slice none 0 0,.slice none 0 0] 45) = W':=⟨_,rfl⟩
      have lgb10 : w2.heap.size ≤ gb10:=by rw [← hgb10]; exact b211.size
      have bW12:=bW11.trans (bb.mono hB11)
      have b212:=Below.step b211 bb
      rw [hW12] at RW12 bW12 b212 bb
      have hB12:=bW12.size
      have hS12 : W12.cell? ⟨w.heap.size,0,none⟩ = some (.int .i64 K) ∧ W12.cell? ra = some (.int .i64 v):=⟨by rw [b212.cell hlow.1,← b211.cell hlow.1]; exact hS11.1,by rw [b212.cell hlow.2,← b211.cell hlow.2]; exact hS11.2⟩
      rw [hW12,hgb10]
      rw [hgb10] at n91
      replace hW12:=Lib.hid hW12
      replace hgb10:=Lib.hid hgb10
      refine hK.out _ _ hS12 fun _ => ?_
      clear hK KK bb RW11 oo
      obtain ⟨t0,t1,t2,t3⟩:=RW12.cells4 n90
      have ft0:=RW12.frz4 n90 0
      have ft1:=RW12.frz4 n90 1
      have ft2:=RW12.frz4 n90 2
      have ft3:=RW12.frz4 n90 3
      have lt:=(RW12.low4 n90)
      obtain ⟨f13,RW13,mm,oo⟩:=RW12.all4 n90 (.int .i64 0) (.slice aLa aLn aLc) (.slice aCa aCn aCc) (.slice aQa aQn aQc)
      replace n02:=(oo (0,2) (by decide)).trans n02
      replace n03:=(oo (0,3) (by decide)).trans n03
      replace n10:=(oo (1,0) (by decide)).trans n10
      replace n11:=(oo (1,1) (by decide)).trans n11
      replace n20:=(oo (2,0) (by decide)).trans n20
      replace n21:=(oo (2,1) (by decide)).trans n21
      replace n30:=(oo (3,0) (by decide)).trans n30
      replace n31:=(oo (3,1) (by decide)).trans n31
      replace n91:=(oo (9,1) (by decide)).trans n91
      clear n90
      have n90:=mm
      have bW13:=Below.all4 (g:=gb9) bW12 lt.1 (.int .i64 0) (.slice aLa aLn aLc) (.slice aCa aCn aCc) (.slice aQa aQn aQc)
      have b213:=Below.all4 (g:=gb9) b212 lgb9 (.int .i64 0) (.slice aLa aLn aLc) (.slice aCa aCn aCc) (.slice aQa aQn aQc)
      obtain ⟨W13,hW13⟩ : ∃ W' : World,(((W12.setCell ⟨gb9,0,none⟩ (.int .i64 0)).setCell ⟨gb9,1,none⟩ (.slice aLa aLn aLc)).setCell ⟨gb9,2,none⟩ (.slice aCa aCn aCc)).setCell ⟨gb9,3,none⟩ (.slice aQa aQn aQc) = W':=⟨_,rfl⟩
      rw [hW13] at RW13 bW13 b213
      have hS13 : W13.cell? ⟨w.heap.size,0,none⟩ = some (.int .i64 K) ∧ W13.cell? ra = some (.int .i64 v):=⟨by rw [b213.cell hlow.1,← b212.cell hlow.1]; exact hS12.1,by rw [b213.cell hlow.2,← b212.cell hlow.2]; exact hS12.2⟩
      replace hW13:=Lib.hid hW13
      refine wpAnyH_ready (rs:=[13]) (by kernel_rfl) (by simp) (AllReadyH.cons rfl (fun KK hK => ?_) AllReadyH.nil)
      go_simp
      rw [hW13.out]
      refine hK.out _ _ hS13 fun _ => ?_
      clear hK KK t0 t1 t2 t3 ft0 ft1 ft2 ft3 mm oo lt RW12 hW13
      obtain ⟨t0,t1,t2,t3⟩:=RW13.cells4 n91
      have ft0:=RW13.frz4 n91 0
      have ft1:=RW13.frz4 n91 1
      have ft2:=RW13.frz4 n91 2
      have ft3:=RW13.frz4 n91 3
      have lt:=(RW13.low4 n91)
      obtain ⟨f14,RW14,mm,oo⟩:=RW13.all4 n91 (.int .i64 0) (.slice bLa bLn bLc) (.slice bCa bCn bCc) (.slice bQa bQn bQc)
      replace n02:=(oo (0,2) (by decide)).trans n02
      replace n03:=(oo (0,3) (by decide)).trans n03
      replace n90:=(oo (9,0) (by decide)).trans n90
      replace n10:=(oo (1,0) (by decide)).trans n10
      replace n11:=(oo (1,1) (by decide)).trans n11
      replace n20:=(oo (2,0) (by decide)).trans n20
      replace n21:=(oo (2,1) (by decide)).trans n21
      replace n30:=(oo (3,0) (by decide)).trans n30
      replace n31:=(oo (3,1) (by decide)).trans n31
      clear n91
      have n91:=mm
      have bW14:=Below.all4 (g:=gb10) bW13 lt.1 (.int .i64 0) (.slice bLa bLn bLc) (.slice bCa bCn bCc) (.slice bQa bQn bQc)
      have b214:=Below.all4 (g:=gb10) b213 lgb10 (.int .i64 0) (.slice bLa bLn bLc) (.slice bCa bCn bCc) (.slice bQa bQn bQc)
      obtain ⟨W14,hW14⟩ : ∃ W' : World,(((W13.setCell ⟨gb10,0,none⟩ (.int .i64 0)).setCell ⟨gb10,1,none⟩ (.slice bLa bLn bLc)).setCell ⟨gb10,2,none⟩ (.slice bCa bCn bCc)).setCell ⟨gb10,3,none⟩ (.slice bQa bQn bQc) = W':=⟨_,rfl⟩
      rw [hW14] at RW14 bW14 b214
      have hS14 : W14.cell? ⟨w.heap.size,0,none⟩ = some (.int .i64 K) ∧ W14.cell? ra = some (.int .i64 v):=⟨by rw [b214.cell hlow.1,← b213.cell hlow.1]; exact hS13.1,by rw [b214.cell hlow.2,← b213.cell hlow.2]; exact hS13.2⟩
      replace hW14:=Lib.hid hW14
      refine wpAnyH_ready (rs:=[14]) (by kernel_rfl) (by simp) (AllReadyH.cons rfl (fun KK hK => ?_) AllReadyH.nil)
      go_simp
      rw [hW14.out]
      refine hK.out _ _ hS14 fun _ => ?_
      clear hK KK t0 t1 t2 t3 ft0 ft1 ft2 ft3 mm oo lt RW13 hW14
      refine pqD 15 7 hS14 ?_
      refine wpAnyH_done (by kernel_rfl) ?_ _
      refine NoPanic.normal ?_
      replace n02:=Lib.hid n02
      replace n03:=Lib.hid n03
      replace n90:=Lib.hid n90
      replace n91:=Lib.hid n91
      replace n10:=Lib.hid n10
      replace n11:=Lib.hid n11
      replace n20:=Lib.hid n20
      replace n21:=Lib.hid n21
      replace n30:=Lib.hid n30
      replace n31:=Lib.hid n31
      replace RW14:=Lib.hid RW14
      go_wp2
      go_meet
      case rel => exact ⟨rfl,gb9,gb10,L',C',Q',_,_,_,_,_,_,f14,rfl,rfl,bW14,hwi.out,RW14.out,n02.out,n03.out,n90.out,n91.out,n10.out,n11.out,n20.out,n21.out,n30.out,n31.out⟩
    ·go_simp
     obtain ⟨f15,RW15,n91,oo⟩:=RW10.box4 (9,1) hB10 45 (.int .i64 0) (.slice none 0 0) (.slice none 0 0) (.slice none 0 0)
     replace n02:=(oo (0,2) (by decide)).trans n02
     replace n03:=(oo (0,3) (by decide)).trans n03
     replace n90:=(oo (9,0) (by decide)).trans n90
     have bb:=belowAlloc W10 (.cells #[.int .i64 0,.slice none 0 0,.slice none 0 0,.slice none 0 0] 45)
     obtain ⟨gb10,hgb10⟩ : ∃ g,W10.heap.size = g:=⟨_,rfl⟩
     obtain ⟨W15,hW15⟩ : ∃ W' : World,W10.alloc (.cells #[.int .i64 0,.slice none 0 0,.slice none 0 0,.slice none 0 0] 45) = W':=⟨_,rfl⟩
     have lgb10 : w2.heap.size ≤ gb10:=by rw [← hgb10]; exact b210.size
     have bW15:=bW10.trans (bb.mono hB10)
     have b215:=Below.step b210 bb
     rw [hW15] at RW15 bW15 b215 bb
     have hB15:=bW15.size
     have hS15 : W15.cell? ⟨w.heap.size,0,none⟩ = some (.int .i64 K) ∧ W15.cell? ra = some (.int .i64 v):=⟨by rw [b215.cell hlow.1,← b210.cell hlow.1]; exact hS10.1,by rw [b215.cell hlow.2,← b210.cell hlow.2]; exact hS10.2⟩
     rw [hW15,hgb10]
     rw [hgb10] at n91
     replace hW15:=Lib.hid hW15
     replace hgb10:=Lib.hid hgb10
     refine hK.out _ _ hS15 fun _ => ?_
     clear hK KK bb RW10 oo
     refine wpAnyH_ready (rs:=[6]) (by kernel_rfl) (by simp) (AllReadyH.cons rfl (fun KK hK => ?_) (AllReadyH.nil))
     ·go_simp
      refine (hwv.out W15 (hG2.out.below b215) (hL2.out.below b215)).mono ?_
      rintro e W16 ⟨x,y,z,rfl,bb,hz,L',C',Q',aL,aC,aQ,bL,bC,bQ,hwi,rfl,rfl,fw,Rw,k10,k11,k20,k21,k30,k31⟩
      subst hz
      obtain ⟨aLa,aLn,aLc,haL⟩:=(Rw.ownI k10).at.shape
      subst haL
      obtain ⟨bLa,bLn,bLc,hbL⟩:=(Rw.ownI k11).at.shape
      subst hbL
      obtain ⟨aCa,aCn,aCc,haC⟩:=(Rw.ownI k20).at.shape
      subst haC
      obtain ⟨bCa,bCn,bCc,hbC⟩:=(Rw.ownI k21).at.shape
      subst hbC
      obtain ⟨aQa,aQn,aQc,haQ⟩:=(Rw.ownI k30).at.shape
      subst haQ
      obtain ⟨bQa,bQn,bQc,hbQ⟩:=(Rw.ownI k31).at.shape
      subst hbQ
      obtain ⟨f16,RW16,sel,oth⟩:=RW15.merge (fun i => decide (i.1 = 1 ∨ i.1 = 2 ∨ i.1 = 3)) bb Rw hB15
      replace n02:=(oth (0,2) (by decide)).trans n02
      replace n03:=(oth (0,3) (by decide)).trans n03
      replace n90:=(oth (9,0) (by decide)).trans n90
      replace n91:=(oth (9,1) (by decide)).trans n91
      have n10:=(sel (1,0) (by decide)).trans k10
      have n11:=(sel (1,1) (by decide)).trans k11
      have n20:=(sel (2,0) (by decide)).trans k20
      have n21:=(sel (2,1) (by decide)).trans k21
      have n30:=(sel (3,0) (by decide)).trans k30
      have n31:=(sel (3,1) (by decide)).trans k31
      replace hwi:=Lib.hid hwi
      clear sel oth k10 k11 k20 k21 k30 k31 Rw
      have bW16:=bW15.trans (bb.mono hB15)
      have b216:=Below.step b215 bb
      have hB16:=bW16.size
      have hS16 : W16.cell? ⟨w.heap.size,0,none⟩ = some (.int .i64 K) ∧ W16.cell? ra = some (.int .i64 v):=⟨by rw [b216.cell hlow.1,← b215.cell hlow.1]; exact hS15.1,by rw [b216.cell hlow.2,← b215.cell hlow.2]; exact hS15.2⟩
      refine hK.out _ _ hS16 fun _ => ?_
      clear hK KK bb RW15
      refine pqD 7 39 hS16 ?_
      refine pqD 8 47 hS16 ?_
      refine pqD 9 48 hS16 ?_
      refine pqD 10 49 hS16 ?_
      obtain ⟨t0,t1,t2,t3⟩:=RW16.cells4 n90
      have ft0:=RW16.frz4 n90 0
      have ft1:=RW16.frz4 n90 1
      have ft2:=RW16.frz4 n90 2
      have ft3:=RW16.frz4 n90 3
      have lt:=(RW16.low4 n90)
      obtain ⟨f17,RW17,mm,oo⟩:=RW16.all4 n90 (.int .i64 0) (.slice aLa aLn aLc) (.slice aCa aCn aCc) (.slice aQa aQn aQc)
      replace n02:=(oo (0,2) (by decide)).trans n02
      replace n03:=(oo (0,3) (by decide)).trans n03
      replace n91:=(oo (9,1) (by decide)).trans n91
      replace n10:=(oo (1,0) (by decide)).trans n10
      replace n11:=(oo (1,1) (by decide)).trans n11
      replace n20:=(oo (2,0) (by decide)).trans n20
      replace n21:=(oo (2,1) (by decide)).trans n21
      replace n30:=(oo (3,0) (by decide)).trans n30
      replace n31:=(oo (3,1) (by decide)).trans n31
      clear n90
      have n90:=mm
      have bW17:=Below.all4 (g:=gb9) bW16 lt.1 (.int .i64 0) (.slice aLa aLn aLc) (.slice aCa aCn aCc) (.slice aQa aQn aQc)
      have b217:=Below.all4 (g:=gb9) b216 lgb9 (.int .i64 0) (.slice aLa aLn aLc) (.slice aCa aCn aCc) (.slice aQa aQn aQc)
      obtain ⟨W17,hW17⟩ : ∃ W' : World,(((W16.setCell ⟨gb9,0,none⟩ (.int .i64 0)).setCell ⟨gb9,1,none⟩ (.slice aLa aLn aLc)).setCell ⟨gb9,2,none⟩ (.slice aCa aCn aCc)).setCell ⟨gb9,3,none⟩ (.slice aQa aQn aQc) = W':=⟨_,rfl⟩
      rw [hW17] at RW17 bW17 b217
      have hS17 : W17.cell? ⟨w.heap.size,0,none⟩ = some (.int .i64 K) ∧ W17.cell? ra = some (.int .i64 v):=⟨by rw [b217.cell hlow.1,← b216.cell hlow.1]; exact hS16.1,by rw [b217.cell hlow.2,← b216.cell hlow.2]; exact hS16.2⟩
      replace hW17:=Lib.hid hW17
      refine wpAnyH_ready (rs:=[13]) (by kernel_rfl) (by simp) (AllReadyH.cons rfl (fun KK hK => ?_) AllReadyH.nil)
      go_simp
      rw [hW17.out]
      refine hK.out _ _ hS17 fun _ => ?_
      clear hK KK t0 t1 t2 t3 ft0 ft1 ft2 ft3 mm oo lt RW16 hW17
      obtain ⟨t0,t1,t2,t3⟩:=RW17.cells4 n91
      have ft0:=RW17.frz4 n91 0
      have ft1:=RW17.frz4 n91 1
      have ft2:=RW17.frz4 n91 2
      have ft3:=RW17.frz4 n91 3
      have lt:=(RW17.low4 n91)
      obtain ⟨f18,RW18,mm,oo⟩:=RW17.all4 n91 (.int .i64 0) (.slice bLa bLn bLc) (.slice bCa bCn bCc) (.slice bQa bQn bQc)
      replace n02:=(oo (0,2) (by decide)).trans n02
      replace n03:=(oo (0,3) (by decide)).trans n03
      replace n90:=(oo (9,0) (by decide)).trans n90
      replace n10:=(oo (1,0) (by decide)).trans n10
      replace n11:=(oo (1,1) (by decide)).trans n11
      replace n20:=(oo (2,0) (by decide)).trans n20
      replace n21:=(oo (2,1) (by decide)).trans n21
      replace n30:=(oo (3,0) (by decide)).trans n30
      replace n31:=(oo (3,1) (by decide)).trans n31
      clear n91
      have n91:=mm
      have bW18:=Below.all4 (g:=gb10) bW17 lt.1 (.int .i64 0) (.slice bLa bLn bLc) (.slice bCa bCn bCc) (.slice bQa bQn bQc)
      have b218:=Below.all4 (g:=gb10) b217 lgb10 (.int .i64 0) (.slice bLa bLn bLc) (.slice bCa bCn bCc) (.slice bQa bQn bQc)
      obtain ⟨W18,hW18⟩ : ∃ W' : World,(((W17.setCell ⟨gb10,0,none⟩ (.int .i64 0)).setCell ⟨gb10,1,none⟩ (.slice bLa bLn bLc)).setCell ⟨gb10,2,none⟩ (.slice bCa bCn bCc)).setCell ⟨gb10,3,none⟩ (.slice bQa bQn bQc) = W':=⟨_,rfl⟩
      rw [hW18] at RW18 bW18 b218
      have hS18 : W18.cell? ⟨w.heap.size,0,none⟩ = some (.int .i64 K) ∧ W18.cell? ra = some (.int .i64 v):=⟨by rw [b218.cell hlow.1,← b217.cell hlow.1]; exact hS17.1,by rw [b218.cell hlow.2,← b217.cell hlow.2]; exact hS17.2⟩
      replace hW18:=Lib.hid hW18
      refine wpAnyH_ready (rs:=[14]) (by kernel_rfl) (by simp) (AllReadyH.cons rfl (fun KK hK => ?_) AllReadyH.nil)
      go_simp
      rw [hW18.out]
      refine hK.out _ _ hS18 fun _ => ?_
      clear hK KK t0 t1 t2 t3 ft0 ft1 ft2 ft3 mm oo lt RW17 hW18
      refine pqD 15 7 hS18 ?_
      refine wpAnyH_done (by kernel_rfl) ?_ _
      refine NoPanic.normal ?_
      replace n02:=Lib.hid n02
      replace n03:=Lib.hid n03
      replace n90:=Lib.hid n90
      replace n91:=Lib.hid n91
      replace n10:=Lib.hid n10
      replace n11:=Lib.hid n11
      replace n20:=Lib.hid n20
      replace n21:=Lib.hid n21
      replace n30:=Lib.hid n30
      replace n31:=Lib.hid n31
      replace RW18:=Lib.hid RW18
      go_wp2
      go_meet
      case rel => exact ⟨rfl,gb9,gb10,L',C',Q',_,_,_,_,_,_,f18,rfl,rfl,bW18,hwi.out,RW18.out,n02.out,n03.out,n90.out,n91.out,n10.out,n11.out,n20.out,n21.out,n30.out,n31.out⟩
   ·go_simp
    obtain ⟨f19,RW19,n91,oo⟩:=RW0.box4 (9,1) hB0 45 (.int .i64 0) (.slice none 0 0) (.slice none 0 0) (.slice none 0 0)
    replace n02:=(oo (0,2) (by decide)).trans n02
    replace n03:=(oo (0,3) (by decide)).trans n03
    have bb:=belowAlloc W0 (.cells #[.int .i64 0,.slice none 0 0,.slice none 0 0,.slice none 0 0] 45)
    obtain ⟨gb10,hgb10⟩ : ∃ g,W0.heap.size = g:=⟨_,rfl⟩
    obtain ⟨W19,hW19⟩ : ∃ W' : World,W0.alloc (.cells #[.int .i64 0,.slice none 0 0,.slice none 0 0,.slice none 0 0] 45) = W':=⟨_,rfl⟩
    have lgb10 : w2.heap.size ≤ gb10:=by rw [← hgb10]; exact b20.size
    have bW19:=bW0.trans (bb.mono hB0)
    have b219:=Below.step b20 bb
    rw [hW19] at RW19 bW19 b219 bb
    have hB19:=bW19.size
    have hS19 : W19.cell? ⟨w.heap.size,0,none⟩ = some (.int .i64 K) ∧ W19.cell? ra = some (.int .i64 v):=⟨by rw [b219.cell hlow.1,← b20.cell hlow.1]; exact hS0.1,by rw [b219.cell hlow.2,← b20.cell hlow.2]; exact hS0.2⟩
    rw [hW19,hgb10]
    rw [hgb10] at n91
    replace hW19:=Lib.hid hW19
    replace hgb10:=Lib.hid hgb10
    refine hK.out _ _ hS19 fun _ => ?_
    clear hK KK bb RW0 oo
    refine wpAnyH_ready (rs:=[6,11]) (by kernel_rfl) (by simp) (AllReadyH.cons rfl (fun KK hK => ?_) (AllReadyH.cons rfl (fun KK hK => ?_) (AllReadyH.nil)))
    ·go_simp
     refine (hwv.out W19 (hG2.out.below b219) (hL2.out.below b219)).mono ?_
     rintro e W20 ⟨x,y,z,rfl,bb,hz,L',C',Q',aL,aC,aQ,bL,bC,bQ,hwi,rfl,rfl,fw,Rw,k10,k11,k20,k21,k30,k31⟩
     subst hz
     obtain ⟨aLa,aLn,aLc,haL⟩:=(Rw.ownI k10).at.shape
     subst haL
     obtain ⟨bLa,bLn,bLc,hbL⟩:=(Rw.ownI k11).at.shape
     subst hbL
     obtain ⟨aCa,aCn,aCc,haC⟩:=(Rw.ownI k20).at.shape
     subst haC
     obtain ⟨bCa,bCn,bCc,hbC⟩:=(Rw.ownI k21).at.shape
     subst hbC
     obtain ⟨aQa,aQn,aQc,haQ⟩:=(Rw.ownI k30).at.shape
     subst haQ
     obtain ⟨bQa,bQn,bQc,hbQ⟩:=(Rw.ownI k31).at.shape
     subst hbQ
     obtain ⟨f20,RW20,sel,oth⟩:=RW19.merge (fun i => decide (i.1 = 1 ∨ i.1 = 2 ∨ i.1 = 3)) bb Rw hB19
     replace n02:=(oth (0,2) (by decide)).trans n02
     replace n03:=(oth (0,3) (by decide)).trans n03
     replace n91:=(oth (9,1) (by decide)).trans n91
     have n10:=(sel (1,0) (by decide)).trans k10
     have n11:=(sel (1,1) (by decide)).trans k11
     have n20:=(sel (2,0) (by decide)).trans k20
     have n21:=(sel (2,1) (by decide)).trans k21
     have n30:=(sel (3,0) (by decide)).trans k30
     have n31:=(sel (3,1) (by decide)).trans k31
     replace hwi:=Lib.hid hwi
     clear sel oth k10 k11 k20 k21 k30 k31 Rw
     have bW20:=bW19.trans (bb.mono hB19)
     have b220:=Below.step b219 bb
     have hB20:=bW20.size
     have hS20 : W20.cell? ⟨w.heap.size,0,none⟩ = some (.int .i64 K) ∧ W20.cell? ra = some (.int .i64 v):=⟨by rw [b220.cell hlow.1,← b219.cell hlow.1]; exact hS19.1,by rw [b220.cell hlow.2,← b219.cell hlow.2]; exact hS19.2⟩
     refine hK.out _ _ hS20 fun _ => ?_
     clear hK KK bb RW19
     refine pqD 7 39 hS20 ?_
     refine pqD 8 47 hS20 ?_
     refine pqD 9 48 hS20 ?_
     refine pqD 10 49 hS20 ?_
     refine wpAnyH_ready (rs:=[11]) (by kernel_rfl) (by simp) (AllReadyH.cons rfl (fun KK hK => ?_) (AllReadyH.nil))
     ·go_simp
      obtain ⟨f21,RW21,n90,oo⟩:=RW20.box4 (9,0) hB20 45 (.int .i64 0) (.slice none 0 0) (.slice none 0 0) (.slice none 0 0)
      replace n02:=(oo (0,2) (by decide)).trans n02
      replace n03:=(oo (0,3) (by decide)).trans n03
      replace n91:=(oo (9,1) (by decide)).trans n91
      replace n10:=(oo (1,0) (by decide)).trans n10
      replace n11:=(oo (1,1) (by decide)).trans n11
      replace n20:=(oo (2,0) (by decide)).trans n20
      replace n21:=(oo (2,1) (by decide)).trans n21
      replace n30:=(oo (3,0) (by decide)).trans n30
      replace n31:=(oo (3,1) (by decide)).trans n31
      have bb:=belowAlloc W20 (.cells #[.int .i64 0,.slice none 0 0,.slice none 0 0,.slice none 0 0] 45)
      obtain ⟨gb9,hgb9⟩ : ∃ g,W20.heap.size = g:=⟨_,rfl⟩
      obtain ⟨W21,hW21⟩ : ∃ W' : World,W20.alloc (.cells #[.int .i64 0,.slice none 0 0,.slice none 0 0,.slice none 0 0] 45) = W':=⟨_,rfl⟩
      have lgb9 : w2.heap.size ≤ gb9:=by rw [← hgb9]; exact b220.size
      have bW21:=bW20.trans (bb.mono hB20)
      have b221:=Below.step b220 bb
      rw [hW21] at RW21 bW21 b221 bb
      have hB21:=bW21.size
      have hS21 : W21.cell? ⟨w.heap.size,0,none⟩ = some (.int .i64 K) ∧ W21.cell? ra = some (.int .i64 v):=⟨by rw [b221.cell hlow.1,← b220.cell hlow.1]; exact hS20.1,by rw [b221.cell hlow.2,← b220.cell hlow.2]; exact hS20.2⟩
      rw [hW21,hgb9]
      rw [hgb9] at n90
      replace hW21:=Lib.hid hW21
      replace hgb9:=Lib.hid hgb9
      refine hK.out _ _ hS21 fun _ => ?_
      clear hK KK bb RW20 oo
      obtain ⟨t0,t1,t2,t3⟩:=RW21.cells4 n90
      have ft0:=RW21.frz4 n90 0
      have ft1:=RW21.frz4 n90 1
      have ft2:=RW21.frz4 n90 2
      have ft3:=RW21.frz4 n90 3
      have lt:=(RW21.low4 n90)
      obtain ⟨f22,RW22,mm,oo⟩:=RW21.all4 n90 (.int .i64 0) (.slice aLa aLn aLc) (.slice aCa aCn aCc) (.slice aQa aQn aQc)
      replace n02:=(oo (0,2) (by decide)).trans n02
      replace n03:=(oo (0,3) (by decide)).trans n03
      replace n91:=(oo (9,1) (by decide)).trans n91
      replace n10:=(oo (1,0) (by decide)).trans n10
      replace n11:=(oo (1,1) (by decide)).trans n11
      replace n20:=(oo (2,0) (by decide)).trans n20
      replace n21:=(oo (2,1) (by decide)).trans n21
      replace n30:=(oo (3,0) (by decide)).trans n30
      replace n31:=(oo (3,1) (by decide)).trans n31
      clear n90
      have n90:=mm
      have bW22:=Below.all4 (g:=gb9) bW21 lt.1 (.int .i64 0) (.slice aLa aLn aLc) (.slice aCa aCn aCc) (.slice aQa aQn aQc)
      have b222:=Below.all4 (g:=gb9) b221 lgb9 (.int .i64 0) (.slice aLa aLn aLc) (.slice aCa aCn aCc) (.slice aQa aQn aQc)
      obtain ⟨W22,hW22⟩ : ∃ W' : World,(((W21.setCell ⟨gb9,0,none⟩ (.int .i64 0)).setCell ⟨gb9,1,none⟩ (.slice aLa aLn aLc)).setCell ⟨gb9,2,none⟩ (.slice aCa aCn aCc)).setCell ⟨gb9,3,none⟩ (.slice aQa aQn aQc) = W':=⟨_,rfl⟩
      rw [hW22] at RW22 bW22 b222
      have hS22 : W22.cell? ⟨w.heap.size,0,none⟩ = some (.int .i64 K) ∧ W22.cell? ra = some (.int .i64 v):=⟨by rw [b222.cell hlow.1,← b221.cell hlow.1]; exact hS21.1,by rw [b222.cell hlow.2,← b221.cell hlow.2]; exact hS21.2⟩
      replace hW22:=Lib.hid hW22
      refine wpAnyH_ready (rs:=[13]) (by kernel_rfl) (by simp) (AllReadyH.cons rfl (fun KK hK => ?_) AllReadyH.nil)
      go_simp
      rw [hW22.out]
      refine hK.out _ _ hS22 fun _ => ?_
      clear hK KK t0 t1 t2 t3 ft0 ft1 ft2 ft3 mm oo lt RW21 hW22
      obtain ⟨t0,t1,t2,t3⟩:=RW22.cells4 n91
      have ft0:=RW22.frz4 n91 0
      have ft1:=RW22.frz4 n91 1
      have ft2:=RW22.frz4 n91 2
      have ft3:=RW22.frz4 n91 3
      have lt:=(RW22.low4 n91)
      obtain ⟨f23,RW23,mm,oo⟩:=RW22.all4 n91 (.int .i64 0) (.slice bLa bLn bLc) (.slice bCa bCn bCc) (.slice bQa bQn bQc)
      replace n02:=(oo (0,2) (by decide)).trans n02
      replace n03:=(oo (0,3) (by decide)).trans n03
      replace n10:=(oo (1,0) (by decide)).trans n10
      replace n11:=(oo (1,1) (by decide)).trans n11
      replace n20:=(oo (2,0) (by decide)).trans n20
      replace n21:=(oo (2,1) (by decide)).trans n21
      replace n30:=(oo (3,0) (by decide)).trans n30
      replace n31:=(oo (3,1) (by decide)).trans n31
      replace n90:=(oo (9,0) (by decide)).trans n90
      clear n91
      have n91:=mm
      have bW23:=Below.all4 (g:=gb10) bW22 lt.1 (.int .i64 0) (.slice bLa bLn bLc) (.slice bCa bCn bCc) (.slice bQa bQn bQc)
      have b223:=Below.all4 (g:=gb10) b222 lgb10 (.int .i64 0) (.slice bLa bLn bLc) (.slice bCa bCn bCc) (.slice bQa bQn bQc)
      obtain ⟨W23,hW23⟩ : ∃ W' : World,(((W22.setCell ⟨gb10,0,none⟩ (.int .i64 0)).setCell ⟨gb10,1,none⟩ (.slice bLa bLn bLc)).setCell ⟨gb10,2,none⟩ (.slice bCa bCn bCc)).setCell ⟨gb10,3,none⟩ (.slice bQa bQn bQc) = W':=⟨_,rfl⟩
      rw [hW23] at RW23 bW23 b223
      have hS23 : W23.cell? ⟨w.heap.size,0,none⟩ = some (.int .i64 K) ∧ W23.cell? ra = some (.int .i64 v):=⟨by rw [b223.cell hlow.1,← b222.cell hlow.1]; exact hS22.1,by rw [b223.cell hlow.2,← b222.cell hlow.2]; exact hS22.2⟩
      replace hW23:=Lib.hid hW23
      refine wpAnyH_ready (rs:=[14]) (by kernel_rfl) (by simp) (AllReadyH.cons rfl (fun KK hK => ?_) AllReadyH.nil)
      go_simp
      rw [hW23.out]
      refine hK.out _ _ hS23 fun _ => ?_
      clear hK KK t0 t1 t2 t3 ft0 ft1 ft2 ft3 mm oo lt RW22 hW23
      refine pqD 15 7 hS23 ?_
      refine wpAnyH_done (by kernel_rfl) ?_ _
      refine NoPanic.normal ?_
      replace n02:=Lib.hid n02
      replace n03:=Lib.hid n03
      replace n90:=Lib.hid n90
      replace n91:=Lib.hid n91
      replace n10:=Lib.hid n10
      replace n11:=Lib.hid n11
      replace n20:=Lib.hid n20
      replace n21:=Lib.hid n21
      replace n30:=Lib.hid n30
      replace n31:=Lib.hid n31
      replace RW23:=Lib.hid RW23
      go_wp2
      go_meet
      case rel => exact ⟨rfl,gb9,gb10,L',C',Q',_,_,_,_,_,_,f23,rfl,rfl,bW23,hwi.out,RW23.out,n02.out,n03.out,n90.out,n91.out,n10.out,n11.out,n20.out,n21.out,n30.out,n31.out⟩
    ·go_simp
     obtain ⟨f24,RW24,n90,oo⟩:=RW19.box4 (9,0) hB19 45 (.int .i64 0) (.slice none 0 0) (.slice none 0 0) (.slice none 0 0)
     replace n02:=(oo (0,2) (by decide)).trans n02
     replace n03:=(oo (0,3) (by decide)).trans n03
     replace n91:=(oo (9,1) (by decide)).trans n91
     have bb:=belowAlloc W19 (.cells #[.int .i64 0,.slice none 0 0,.slice none 0 0,.slice none 0 0] 45)
     obtain ⟨gb9,hgb9⟩ : ∃ g,W19.heap.size = g:=⟨_,rfl⟩
     obtain ⟨W24,hW24⟩ : ∃ W' : World,W19.alloc (.cells #[.int .i64 0,.slice none 0 0,.slice none 0 0,.slice none 0 0] 45) = W':=⟨_,rfl⟩
     have lgb9 : w2.heap.size ≤ gb9:=by rw [← hgb9]; exact b219.size
     have bW24:=bW19.trans (bb.mono hB19)
     have b224:=Below.step b219 bb
     rw [hW24] at RW24 bW24 b224 bb
     have hB24:=bW24.size
     have hS24 : W24.cell? ⟨w.heap.size,0,none⟩ = some (.int .i64 K) ∧ W24.cell? ra = some (.int .i64 v):=⟨by rw [b224.cell hlow.1,← b219.cell hlow.1]; exact hS19.1,by rw [b224.cell hlow.2,← b219.cell hlow.2]; exact hS19.2⟩
     rw [hW24,hgb9]
     rw [hgb9] at n90
     replace hW24:=Lib.hid hW24
     replace hgb9:=Lib.hid hgb9
     refine hK.out _ _ hS24 fun _ => ?_
     clear hK KK bb RW19 oo
     refine wpAnyH_ready (rs:=[6]) (by kernel_rfl) (by simp) (AllReadyH.cons rfl (fun KK hK => ?_) (AllReadyH.nil))
     ·go_simp
      refine (hwv.out W24 (hG2.out.below b224) (hL2.out.below b224)).mono ?_
      rintro e W25 ⟨x,y,z,rfl,bb,hz,L',C',Q',aL,aC,aQ,bL,bC,bQ,hwi,rfl,rfl,fw,Rw,k10,k11,k20,k21,k30,k31⟩
      subst hz
      obtain ⟨aLa,aLn,aLc,haL⟩:=(Rw.ownI k10).at.shape
      subst haL
      obtain ⟨bLa,bLn,bLc,hbL⟩:=(Rw.ownI k11).at.shape
      subst hbL
      obtain ⟨aCa,aCn,aCc,haC⟩:=(Rw.ownI k20).at.shape
      subst haC
      obtain ⟨bCa,bCn,bCc,hbC⟩:=(Rw.ownI k21).at.shape
      subst hbC
      obtain ⟨aQa,aQn,aQc,haQ⟩:=(Rw.ownI k30).at.shape
      subst haQ
      obtain ⟨bQa,bQn,bQc,hbQ⟩:=(Rw.ownI k31).at.shape
      subst hbQ
      obtain ⟨f25,RW25,sel,oth⟩:=RW24.merge (fun i => decide (i.1 = 1 ∨ i.1 = 2 ∨ i.1 = 3)) bb Rw hB24
      replace n02:=(oth (0,2) (by decide)).trans n02
      replace n03:=(oth (0,3) (by decide)).trans n03
      replace n91:=(oth (9,1) (by decide)).trans n91
      replace n90:=(oth (9,0) (by decide)).trans n90
      have n10:=(sel (1,0) (by decide)).trans k10
      have n11:=(sel (1,1) (by decide)).trans k11
      have n20:=(sel (2,0) (by decide)).trans k20
      have n21:=(sel (2,1) (by decide)).trans k21
      have n30:=(sel (3,0) (by decide)).trans k30
      have n31:=(sel (3,1) (by decide)).trans k31
      replace hwi:=Lib.hid hwi
      clear sel oth k10 k11 k20 k21 k30 k31 Rw
      have bW25:=bW24.trans (bb.mono hB24)
      have b225:=Below.step b224 bb
      have hB25:=bW25.size
      have hS25 : W25.cell? ⟨w.heap.size,0,none⟩ = some (.int .i64 K) ∧ W25.cell? ra = some (.int .i64 v):=⟨by rw [b225.cell hlow.1,← b224.cell hlow.1]; exact hS24.1,by rw [b225.cell hlow.2,← b224.cell hlow.2]; exact hS24.2⟩
      refine hK.out _ _ hS25 fun _ => ?_
      clear hK KK bb RW24
      refine pqD 7 39 hS25 ?_
      refine pqD 8 47 hS25 ?_
      refine pqD 9 48 hS25 ?_
      refine pqD 10 49 hS25 ?_
      obtain ⟨t0,t1,t2,t3⟩:=RW25.cells4 n90
      have ft0:=RW25.frz4 n90 0
      have ft1:=RW25.frz4 n90 1
      have ft2:=RW25.frz4 n90 2
      have ft3:=RW25.frz4 n90 3
      have lt:=(RW25.low4 n90)
      obtain ⟨f26,RW26,mm,oo⟩:=RW25.all4 n90 (.int .i64 0) (.slice aLa aLn aLc) (.slice aCa aCn aCc) (.slice aQa aQn aQc)
      replace n02:=(oo (0,2) (by decide)).trans n02
      replace n03:=(oo (0,3) (by decide)).trans n03
      replace n91:=(oo (9,1) (by decide)).trans n91
      replace n10:=(oo (1,0) (by decide)).trans n10
      replace n11:=(oo (1,1) (by decide)).trans n11
      replace n20:=(oo (2,0) (by decide)).trans n20
      replace n21:=(oo (2,1) (by decide)).trans n21
      replace n30:=(oo (3,0) (by decide)).trans n30
      replace n31:=(oo (3,1) (by decide)).trans n31
      clear n90
      have n90:=mm
      have bW26:=Below.all4 (g:=gb9) bW25 lt.1 (.int .i64 0) (.slice aLa aLn aLc) (.slice aCa aCn aCc) (.slice aQa aQn aQc)
      have b226:=Below.all4 (g:=gb9) b225 lgb9 (.int .i64 0) (.slice aLa aLn aLc) (.slice aCa aCn aCc) (.slice aQa aQn aQc)
      obtain ⟨W26,hW26⟩ : ∃ W' : World,(((W25.setCell ⟨gb9,0,none⟩ (.int .i64 0)).setCell ⟨gb9,1,none⟩ (.slice aLa aLn aLc)).setCell ⟨gb9,2,none⟩ (.slice aCa aCn aCc)).setCell ⟨gb9,3,none⟩ (.slice aQa aQn aQc) = W':=⟨_,rfl⟩
      rw [hW26] at RW26 bW26 b226
      have hS26 : W26.cell? ⟨w.heap.size,0,none⟩ = some (.int .i64 K) ∧ W26.cell? ra = some (.int .i64 v):=⟨by rw [b226.cell hlow.1,← b225.cell hlow.1]; exact hS25.1,by rw [b226.cell hlow.2,← b225.cell hlow.2]; exact hS25.2⟩
      replace hW26:=Lib.hid hW26
      refine wpAnyH_ready (rs:=[13]) (by kernel_rfl) (by simp) (AllReadyH.cons rfl (fun KK hK => ?_) AllReadyH.nil)
      go_simp
      rw [hW26.out]
      refine hK.out _ _ hS26 fun _ => ?_
      clear hK KK t0 t1 t2 t3 ft0 ft1 ft2 ft3 mm oo lt RW25 hW26
      obtain ⟨t0,t1,t2,t3⟩:=RW26.cells4 n91
      have ft0:=RW26.frz4 n91 0
      have ft1:=RW26.frz4 n91 1
      have ft2:=RW26.frz4 n91 2
      have ft3:=RW26.frz4 n91 3
      have lt:=(RW26.low4 n91)
      obtain ⟨f27,RW27,mm,oo⟩:=RW26.all4 n91 (.int .i64 0) (.slice bLa bLn bLc) (.slice bCa bCn bCc) (.slice bQa bQn bQc)
      replace n02:=(oo (0,2) (by decide)).trans n02
      replace n03:=(oo (0,3) (by decide)).trans n03
      replace n90:=(oo (9,0) (by decide)).trans n90
      replace n10:=(oo (1,0) (by decide)).trans n10
      replace n11:=(oo (1,1) (by decide)).trans n11
      replace n20:=(oo (2,0) (by decide)).trans n20
      replace n21:=(oo (2,1) (by decide)).trans n21
      replace n30:=(oo (3,0) (by decide)).trans n30
      replace n31:=(oo (3,1) (by decide)).trans n31
      clear n91
      have n91:=mm
      have bW27:=Below.all4 (g:=gb10) bW26 lt.1 (.int .i64 0) (.slice bLa bLn bLc) (.slice bCa bCn bCc) (.slice bQa bQn bQc)
      have b227:=Below.all4 (g:=gb10) b226 lgb10 (.int .i64 0) (.slice bLa bLn bLc) (.slice bCa bCn bCc) (.slice bQa bQn bQc)
      obtain ⟨W27,hW27⟩ : ∃ W' : World,(((W26.setCell ⟨gb10,0,none⟩ (.int .i64 0)).setCell ⟨gb10,1,none⟩ (.slice bLa bLn bLc)).setCell ⟨gb10,2,none⟩ (.slice bCa bCn bCc)).setCell ⟨gb10,3,none⟩ (.slice bQa bQn bQc) = W':=⟨_,rfl⟩
      rw [hW27] at RW27 bW27 b227
      have hS27 : W27.cell? ⟨w.heap.size,0,none⟩ = some (.int .i64 K) ∧ W27.cell? ra = some (.int .i64 v):=⟨by rw [b227.cell hlow.1,← b226.cell hlow.1]; exact hS26.1,by rw [b227.cell hlow.2,← b226.cell hlow.2]; exact hS26.2⟩
      replace hW27:=Lib.hid hW27
      refine wpAnyH_ready (rs:=[14]) (by kernel_rfl) (by simp) (AllReadyH.cons rfl (fun KK hK => ?_) AllReadyH.nil)
      go_simp
      rw [hW27.out]
      refine hK.out _ _ hS27 fun _ => ?_
      clear hK KK t0 t1 t2 t3 ft0 ft1 ft2 ft3 mm oo lt RW26 hW27
      refine pqD 15 7 hS27 ?_
      refine wpAnyH_done (by kernel_rfl) ?_ _
      refine NoPanic.normal ?_
      replace n02:=Lib.hid n02
      replace n03:=Lib.hid n03
      replace n90:=Lib.hid n90
      replace n91:=Lib.hid n91
      replace n10:=Lib.hid n10
      replace n11:=Lib.hid n11
      replace n20:=Lib.hid n20
      replace n21:=Lib.hid n21
      replace n30:=Lib.hid n30
      replace n31:=Lib.hid n31
      replace RW27:=Lib.hid RW27
      go_wp2
      go_meet
      case rel => exact ⟨rfl,gb9,gb10,L',C',Q',_,_,_,_,_,_,f27,rfl,rfl,bW27,hwi.out,RW27.out,n02.out,n03.out,n90.out,n91.out,n10.out,n11.out,n20.out,n21.out,n30.out,n31.out⟩
  case rest =>
   obtain ⟨rfl,g9,g10,L',C',Q',aL,aC,aQ,bL,bC,bQ,f9,rfl,rfl,bc,hwi,Rc,n02,n03,n90,n91,n10,n11,n20,n21,n30,n31⟩:=hcut
   obtain ⟨aLa,aLn,aLc,haL⟩:=(Rc.ownI n10).at.shape
   subst haL
   obtain ⟨bLa,bLn,bLc,hbL⟩:=(Rc.ownI n11).at.shape
   subst hbL
   obtain ⟨aCa,aCn,aCc,haC⟩:=(Rc.ownI n20).at.shape
   subst haC
   obtain ⟨bCa,bCn,bCc,hbC⟩:=(Rc.ownI n21).at.shape
   subst hbC
   obtain ⟨aQa,aQn,aQc,haQ⟩:=(Rc.ownI n30).at.shape
   subst haQ
   obtain ⟨bQa,bQn,bQc,hbQ⟩:=(Rc.ownI n31).at.shape
   subst hbQ
   have honeR:=honeL.out v m L' C' Q' hod.out hwi
   clear hwi
   replace honeR:=Lib.hid honeR
   obtain ⟨V,hVd⟩ : ∃ V : World,wc.drew = V:=⟨_,rfl⟩
   have RV : Rows w.heap.size V f9:=by rw [← hVd]; exact Rc.drew
   have bV : Below w.heap.size w V:=by rw [← hVd]; exact bc.drew
   replace hVd:=Lib.hid hVd
   clear Rc bc
   have hS : V.cell? ⟨g9,0,none⟩ = some (.int .i64 0) ∧ V.cell? ⟨g9,1,none⟩ = some (.slice aLa aLn aLc) ∧ V.cell? ⟨g9,2,none⟩ = some (.slice aCa aCn aCc) ∧ V.cell? ⟨g9,3,none⟩ = some (.slice aQa aQn aQc) ∧ V.cell? ⟨g10,0,none⟩ = some (.int .i64 0) ∧ V.cell? ⟨g10,1,none⟩ = some (.slice bLa bLn bLc) ∧ V.cell? ⟨g10,2,none⟩ = some (.slice bCa bCn bCc) ∧ V.cell? ⟨g10,3,none⟩ = some (.slice bQa bQn bQc):=by
    obtain ⟨a0,a1,a2,a3⟩:=RV.cells4 n90
    obtain ⟨d0,d1,d2,d3⟩:=RV.cells4 n91
    exact ⟨a0,a1,a2,a3,d0,d1,d2,d3⟩
   obtain ⟨g0,g1,g2,g3⟩:=RV.cells4 n02
   have fg0:=RV.frz4 n02 0
   have fg1:=RV.frz4 n02 1
   have fg2:=RV.frz4 n02 2
   have fg3:=RV.frz4 n02 3
   have lg0:=(RV.low4 n02).1
   obtain ⟨f15,R15,m02,o15⟩:=RV.all4 n02 (.int .i64 0) (.slice aLa aLn aLc) (.slice aCa aCn aCc) (.slice aQa aQn aQc)
   replace n03:=(o15 (0,3) (by decide)).trans n03
   replace n90:=(o15 (9,0) (by decide)).trans n90
   replace n91:=(o15 (9,1) (by decide)).trans n91
   replace n10:=(o15 (1,0) (by decide)).trans n10
   replace n11:=(o15 (1,1) (by decide)).trans n11
   replace n20:=(o15 (2,0) (by decide)).trans n20
   replace n21:=(o15 (2,1) (by decide)).trans n21
   replace n30:=(o15 (3,0) (by decide)).trans n30
   replace n31:=(o15 (3,1) (by decide)).trans n31
   have b15:=Below.all4 (g:=w.heap.size + 1) bV lg0 (.int .i64 0) (.slice aLa aLn aLc) (.slice aCa aCn aCc) (.slice aQa aQn aQc)
   obtain ⟨V15,hV15⟩ : ∃ V' : World,(((V.setCell ⟨w.heap.size + 1,0,none⟩ (.int .i64 0)).setCell ⟨w.heap.size + 1,1,none⟩ (.slice aLa aLn aLc)).setCell ⟨w.heap.size + 1,2,none⟩ (.slice aCa aCn aCc)).setCell ⟨w.heap.size + 1,3,none⟩ (.slice aQa aQn aQc) = V':=⟨_,rfl⟩
   rw [hV15] at R15 b15
   have hS15 : V15.cell? ⟨g9,0,none⟩ = some (.int .i64 0) ∧ V15.cell? ⟨g9,1,none⟩ = some (.slice aLa aLn aLc) ∧ V15.cell? ⟨g9,2,none⟩ = some (.slice aCa aCn aCc) ∧ V15.cell? ⟨g9,3,none⟩ = some (.slice aQa aQn aQc) ∧ V15.cell? ⟨g10,0,none⟩ = some (.int .i64 0) ∧ V15.cell? ⟨g10,1,none⟩ = some (.slice bLa bLn bLc) ∧ V15.cell? ⟨g10,2,none⟩ = some (.slice bCa bCn bCc) ∧ V15.cell? ⟨g10,3,none⟩ = some (.slice bQa bQn bQc):=by
    obtain ⟨a0,a1,a2,a3⟩:=R15.cells4 n90
    obtain ⟨d0,d1,d2,d3⟩:=R15.cells4 n91
    exact ⟨a0,a1,a2,a3,d0,d1,d2,d3⟩
   replace hV15:=Lib.hid hV15
   clear n02 o15 RV bV lg0
   have n02:=m02
   clear m02
   go_upto_region 8 with fail
   refine wp_region_plan (fun w' => w'.cell? ⟨g9,0,none⟩ = some (.int .i64 0) ∧ w'.cell? ⟨g9,1,none⟩ = some (.slice aLa aLn aLc) ∧ w'.cell? ⟨g9,2,none⟩ = some (.slice aCa aCn aCc) ∧ w'.cell? ⟨g9,3,none⟩ = some (.slice aQa aQn aQc) ∧ w'.cell? ⟨g10,0,none⟩ = some (.int .i64 0) ∧ w'.cell? ⟨g10,1,none⟩ = some (.slice bLa bLn bLc) ∧ w'.cell? ⟨g10,2,none⟩ = some (.slice bCa bCn bCc) ∧ w'.cell? ⟨g10,3,none⟩ = some (.slice bQa bQn bQc)) 6 [(0,true),(1,true),(2,true),(3,true),(4,false),(5,false)] (by kernel_rfl) (by kernel_rfl) ?_
   rw [hVd.out]
   refine pqY 50 hS ?_
   refine pqY 51 hS ?_
   refine pqY 52 hS ?_
   refine pqY 2 hS ?_
   refine headC rfl (fun KK hK => ?_)
   go_simp
   rw [hV15.out]
   refine hK _ _ hS15 ?_
   clear hK KK hS g0 g1 g2 g3 fg0 fg1 fg2 fg3
   obtain ⟨h0,h1,h2,h3⟩:=R15.cells4 n03
   have fh0:=R15.frz4 n03 0
   have fh1:=R15.frz4 n03 1
   have fh2:=R15.frz4 n03 2
   have fh3:=R15.frz4 n03 3
   have lh0:=(R15.low4 n03).1
   obtain ⟨f16,R16,m03,o16⟩:=R15.all4 n03 (.int .i64 0) (.slice bLa bLn bLc) (.slice bCa bCn bCc) (.slice bQa bQn bQc)
   replace n02:=(o16 (0,2) (by decide)).trans n02
   replace n90:=(o16 (9,0) (by decide)).trans n90
   replace n91:=(o16 (9,1) (by decide)).trans n91
   replace n10:=(o16 (1,0) (by decide)).trans n10
   replace n11:=(o16 (1,1) (by decide)).trans n11
   replace n20:=(o16 (2,0) (by decide)).trans n20
   replace n21:=(o16 (2,1) (by decide)).trans n21
   replace n30:=(o16 (3,0) (by decide)).trans n30
   replace n31:=(o16 (3,1) (by decide)).trans n31
   have b16:=Below.all4 (g:=w.heap.size + 2) b15 lh0 (.int .i64 0) (.slice bLa bLn bLc) (.slice bCa bCn bCc) (.slice bQa bQn bQc)
   obtain ⟨V16,hV16⟩ : ∃ V' : World,(((V15.setCell ⟨w.heap.size + 2,0,none⟩ (.int .i64 0)).setCell ⟨w.heap.size + 2,1,none⟩ (.slice bLa bLn bLc)).setCell ⟨w.heap.size + 2,2,none⟩ (.slice bCa bCn bCc)).setCell ⟨w.heap.size + 2,3,none⟩ (.slice bQa bQn bQc) = V':=⟨_,rfl⟩
   rw [hV16] at R16 b16
   have hS16 : V16.cell? ⟨g9,0,none⟩ = some (.int .i64 0) ∧ V16.cell? ⟨g9,1,none⟩ = some (.slice aLa aLn aLc) ∧ V16.cell? ⟨g9,2,none⟩ = some (.slice aCa aCn aCc) ∧ V16.cell? ⟨g9,3,none⟩ = some (.slice aQa aQn aQc) ∧ V16.cell? ⟨g10,0,none⟩ = some (.int .i64 0) ∧ V16.cell? ⟨g10,1,none⟩ = some (.slice bLa bLn bLc) ∧ V16.cell? ⟨g10,2,none⟩ = some (.slice bCa bCn bCc) ∧ V16.cell? ⟨g10,3,none⟩ = some (.slice bQa bQn bQc):=by
    obtain ⟨a0,a1,a2,a3⟩:=R16.cells4 n90
    obtain ⟨d0,d1,d2,d3⟩:=R16.cells4 n91
    exact ⟨a0,a1,a2,a3,d0,d1,d2,d3⟩
   replace hV16:=Lib.hid hV16
   clear n03 o16 R15 b15 lh0
   have n03:=m03
   clear m03
   refine headC rfl (fun KK hK => ?_)
   go_simp
   rw [hV16.out]
   refine hK _ _ hS16 ?_
   clear hK KK hS15 h0 h1 h2 h3 fh0 fh1 fh2 fh3
   refine head0 ?_
   simp only [List.drop_succ_cons,List.drop_zero]
   clear hS16
   obtain ⟨g0,g1,g2,g3⟩:=R16.cells4 n02
   obtain ⟨h0,h1,h2,h3⟩:=R16.cells4 n03
   replace n02:=Lib.hid n02
   replace n03:=Lib.hid n03
   replace n90:=Lib.hid n90
   replace n91:=Lib.hid n91
   replace n10:=Lib.hid n10
   replace n11:=Lib.hid n11
   replace n20:=Lib.hid n20
   replace n21:=Lib.hid n21
   replace n30:=Lib.hid n30
   replace n31:=Lib.hid n31
   replace R16:=Lib.hid R16
   go_wp2
   refine NoPanic.normal ?_
   go_wp2
   (try simp only [Exit.inBlock,Exit.then])
   refine bodyPost_ret (v:=.tuple #[.bool false,.agg #[.int .i64 0,.slice aLa aLn aLc,.slice aCa aCn aCc,.slice aQa aQn aQc],.agg #[.int .i64 0,.slice bLa bLn bLc,.slice bCa bCn bCc,.slice bQa bQn bQc],.nilIface]) (by simp [results,Tryz.results19,go_sem,g0,g1,g2,g3,h0,h1,h2,h3]) rfl ?_
   exact ⟨_,_,_,_,rfl,b16,rfl,.inr ⟨rfl,hno.out,L',C',Q',_,_,_,_,_,_,honeR.out,rfl,rfl,f16,R16.out,n10.out,n11.out,n20.out,n21.out,n30.out,n31.out⟩⟩
theorem WitIs.pos {G : List (List Int)} {v : Nat} {L C Q : List Nat} (h : WitIs G v L C Q) : 1 ≤ L.length ∧ 1 ≤ Q.length:=by
 obtain ⟨c,d,u1,u2,I,O,_,_,hc,_,h3,_,_,_,rfl,rfl,rfl⟩:=h
 refine ⟨?_,by simp⟩
 have he:=h3.way.ends
 obtain ⟨w',hw⟩:=h3.way.ne
 cases hd : u1.dropLast with
 | nil =>
  rw [hd,hw] at he
  simp at he
  omega
 | cons x l => simp
theorem OneIs.pos {K R : Nat} {T : List Int} {L C Q : List Nat} (h : OneIs K R T L C Q) : 1 ≤ L.length ∧ 1 ≤ Q.length:=by
 obtain ⟨_,_,_,_,_,h3⟩:=h
 exact h3.pos
/-- The answer, and the two rows' shape. -/
theorem OnePost.ans {w w' : World} {K R : Nat} {T : List Int} {yes x y e : Value} (h : OnePost w K R T yes x y e w') : e = .nilIface ∧ ∃ Y,yes = .bool Y ∧ (Y = true ↔ ¬ NotOne K R T) ∧
 ∃ a1 n1 c1 a2 n2 c2 a3 n3 c3 a4 n4 c4 a5 n5 c5 a6 n6 c6,x = .agg #[.int .i64 0,.slice a1 n1 c1,.slice a2 n2 c2,.slice a3 n3 c3] ∧ y = .agg #[.int .i64 0,.slice a4 n4 c4,.slice a5 n5 c5,.slice a6 n6 c6]:=by
 obtain ⟨rfl,⟨rfl,rfl,rfl,hn⟩ | ⟨rfl,hn,L,C,Q,aL,aC,aQ,bL,bC,bQ,_,rfl,rfl,f,hr,h1,h2,h3,h4,h5,h6⟩⟩:=h
 ·exact ⟨rfl,true,rfl,⟨fun _ => hn,fun _ => rfl⟩,_,_,_,_,_,_,_,_,_,_,_,_,_,_,_,_,_,_,rfl,rfl⟩
 ·obtain ⟨_,_,_,rfl⟩:=(hr.ownI h1).at.shape
  obtain ⟨_,_,_,rfl⟩:=(hr.ownI h2).at.shape
  obtain ⟨_,_,_,rfl⟩:=(hr.ownI h3).at.shape
  obtain ⟨_,_,_,rfl⟩:=(hr.ownI h4).at.shape
  obtain ⟨_,_,_,rfl⟩:=(hr.ownI h5).at.shape
  obtain ⟨_,_,_,rfl⟩:=(hr.ownI h6).at.shape
  exact ⟨rfl,false,rfl,⟨fun h => (by cases h),fun h => absurd hn h⟩,_,_,_,_,_,_,_,_,_,_,_,_,_,_,_,_,_,_,rfl,rfl⟩
end Go.Proofs.YtjiadfblphdchaaGreatDoor
namespace Go.Proofs.YtjiadfblphdchaaGreatDoor
open Go.RowKit
set_option maxRecDepth 100000
end Go.Proofs.YtjiadfblphdchaaGreatDoor
namespace Go.Proofs.YtjiadfblphdchaaGreatDoor
theorem wideT_get {K R d : Nat} {T : List Int} {i : Nat} (h : i < pw K (2 * (R + d) + 1)) : (wideT K R d T).getD i 0 = T.getD (numW K (((digs K (2 * (R + d) + 1) i).drop d).take (2 * R + 1))) 0:=by
 simp [wideT,List.getD,h]
end Go.Proofs.YtjiadfblphdchaaGreatDoor
namespace Go.Proofs.YtjiadfblphdchaaGreatDoor
open Go.RowKit
set_option maxRecDepth 100000
end Go.Proofs.YtjiadfblphdchaaGreatDoor
namespace Go.Proofs.YtjiadfblphdchaaGreatDoor
open Go.RowKit
set_option maxRecDepth 100000
def sInverse : ByteArray:=⟨#[105,110,118,101,114,115,101]⟩
theorem inverse_wrong (r : Nat → Addr) (at_ n : Int) (w : World) (hg : Glob r w) (h1 : 1 ≤ n) (h2 : n ≤ 11) :
 Calls Tryz.prog 55 #[.int .i64 at_,.int .i64 n] w (Ret1 (fun v w' => ErrIs r w' (fresh sInverse at_ n) v) w):=by
 go_enter Tryz.func55,Tryz.ntmps55
 go_wp2_with fail
 refine (new_any r _ at_ n w hg h1 h2).mono ?_
 rintro e w' ⟨v,rfl,hb,he⟩
 go_wp2
 go_ret
 exact ⟨_,rfl,hb,he⟩
theorem OwnI.open {B : Nat} {w : World} {v : Value} {xs : List Int} (h : OwnI B w v xs) (hne : xs ≠ []) : ∃ g n c,v = .slice (some ⟨g,0,none⟩) n c ∧ B ≤ g ∧ g < w.heap.size:=by
 rcases h.2 with ⟨_,hn⟩ | ⟨g,cap,cur,e,hb,hg,_⟩
 ·exact absurd (List.length_eq_zero_iff.1 hn) hne
 ·exact ⟨g,_,_,e,hb,(Array.getElem?_eq_some_iff.1 hg).1⟩
/-- What find leaves at a small rule. -/
def FindPost (r : Nat → Addr) (w : World) (K R : Nat) (T : List Int) (x y : Value) (w' : World) : Prop :=
 (NotOne K R T ∧ x = zR ∧ ErrIs r w' (fresh sInverse 0 9) y) ∨ (¬ NotOne K R T ∧ findP K R T = none ∧ x = zR ∧ ErrIs r w' (fresh sInverse 0 4) y) ∨
   (¬ NotOne K R T ∧ ∃ d S a n c,findP K R T = some (d,S) ∧ y = .nilIface ∧ x = .agg #[.int .i64 K,.int .i64 ((d : Nat) : Int),.slice a n c] ∧ OwnI w.heap.size w' (.slice a n c) S)
set_option maxHeartbeats 1000000 in
theorem find_bad (r : Nat → Addr) (k R : Int) (va : Option Addr) (vn vc : Nat) (T : List Int) (t : Int × List (ByteArray × Int)) (w : World) (hg : Glob r w) (h : IntsAt w (.slice va vn vc) T) (hc : smallP k R T = some t) :
 Calls Tryz.prog 33 #[.agg #[.int .i64 k,.int .i64 R,.slice va vn vc]] w (Ret2 (fun x y w' => x = zR ∧ ErrIs r w' (under sInverse 0 (under sInject 0 (under sPairs 0 (some t)))) y) w):=by
 have b0:=Below.step (belowAlloc w (.cells #[.int .i64 k,.int .i64 R,.slice va vn vc] 24)) (belowAlloc _ (.cells #[.int .i64 0,.int .i64 0,.slice none 0 0] 24))
 have qz : Box3 ((w.alloc (.cells #[.int .i64 k,.int .i64 R,.slice va vn vc] 24)).alloc (.cells #[.int .i64 0,.int .i64 0,.slice none 0 0] 24)) (w.heap.size + 1) (.int .i64 0) (.int .i64 0) (.slice none 0 0):=by simp [Box3,go_sem]
 replace hg:=Lib.hid (hg.below b0)
 replace h:=Lib.hid (h.below b0)
 replace hc:=Lib.hid hc
 go_enter Tryz.func33,Tryz.ntmps33
 go_wp2_with fail
 refine (one_bad r k R va vn vc T t _ hg.out h.out hc.out).mono ?_
 rintro e w1 ⟨_,_,_,y,rfl,b1,rfl,rfl,rfl,hy⟩
 have hy':=hy
 obtain ⟨T2,a2,rfl⟩ : ∃ T a,y = .iface T (.pointer (some a)):=by
  unfold under at hy'
  exact ErrIs.some_shape hy'
 have b2:=Below.step b1 (Below.step (belowAlloc w1 (.cells #[.int .i64 0,.slice none 0 0,.slice none 0 0,.slice none 0 0] 45)) (belowAlloc _ (.cells #[.int .i64 0,.slice none 0 0,.slice none 0 0,.slice none 0 0] 45)))
 have hy2:=hy.below (Below.step (belowAlloc w1 (.cells #[.int .i64 0,.slice none 0 0,.slice none 0 0,.slice none 0 0] 45)) (belowAlloc _ (.cells #[.int .i64 0,.slice none 0 0,.slice none 0 0,.slice none 0 0] 45)))
 replace hy:=Lib.hid hy
 replace hy2:=Lib.hid hy2
 go_wp2_with fail
 refine (under_any r _ _ _ _ _ hy2.out).mono ?_
 rintro e w3 ⟨u,rfl,b3,hu⟩
 have hu':=hu
 obtain ⟨T3,a3,rfl⟩ : ∃ T a,u = .iface T (.pointer (some a)):=by
  unfold under at hu'
  exact ErrIs.some_shape hu'
 have bE:=Below.step b0 (Below.step b2 b3)
 obtain ⟨⟨y0,y1,y2⟩,-,-,-⟩:=qz.below (Below.step b2 b3)
 obtain ⟨-,f0,f1,f2⟩:=qz.below (Below.step b2 b3)
 replace hu:=Lib.hid hu
 clear hu'
 go_wp2
 rw [setCell_self3 y0 y1 y2]
 exact bodyPost_ret (v:=.tuple #[zR,.iface T3 (.pointer (some a3))]) (by simp [results,Tryz.results33,go_sem,y0,y1,y2]) rfl ⟨_,_,rfl,bE,rfl,hu.out⟩
theorem findF_succ (K R : Nat) (T : List Int) (m e : Nat) : findF K R T (m + 1) e = if (tryF K R T e).1 = true then some (e,(tryF K R T e).2) else findF K R T m (e + 1):=rfl
/-- A table of one's own that is being laid out. -/
theorem minus_step (j n : Nat) (h : j < n) : (List.replicate j (-1 : Int) ++ List.replicate (n - j) 0).set j (-1) = List.replicate (j + 1) (-1) ++ List.replicate (n - (j + 1)) 0:=by
 rw [show n - j = (n - (j + 1)) + 1 by omega,List.replicate_succ,List.set_append_right _ _ (by simp),List.length_replicate,Nat.sub_self,List.set_cons_zero,List.replicate_succ',List.append_assoc]
 rfl
set_option maxHeartbeats 3000000 in
theorem find_ok (r : Nat → Addr) (K R : Nat) (va : Option Addr) (vn vc : Nat) (T : List Int) (w : World) (hg : Glob r w) (h : IntsAt w (.slice va vn vc) T) (hr : RuleOk K R T) (hl : T.length ≤ 256) :
 Calls Tryz.prog 33 #[.agg #[.int .i64 K,.int .i64 R,.slice va vn vc]] w (Ret2 (FindPost r w K R T) w):=by
 have b0:=Below.step (belowAlloc w (.cells #[.int .i64 K,.int .i64 R,.slice va vn vc] 24)) (belowAlloc _ (.cells #[.int .i64 0,.int .i64 0,.slice none 0 0] 24))
 have q:=(show Box3 ((w.alloc (.cells #[.int .i64 K,.int .i64 R,.slice va vn vc] 24)).alloc (.cells #[.int .i64 0,.int .i64 0,.slice none 0 0] 24)) w.heap.size (.int .i64 K) (.int .i64 R) (.slice va vn vc) by simp [Box3,go_sem])
 have qz:=(show Box3 ((w.alloc (.cells #[.int .i64 K,.int .i64 R,.slice va vn vc] 24)).alloc (.cells #[.int .i64 0,.int .i64 0,.slice none 0 0] 24)) (w.heap.size + 1) (.int .i64 0) (.int .i64 0) (.slice none 0 0) by simp [Box3,go_sem])
 have hk1:=hr.k1
 have hk4:=hr.k4
 have hblk0:=fun i hi => h.blk i hi
 have hs0 : ((w.alloc (.cells #[.int .i64 K,.int .i64 R,.slice va vn vc] 24)).alloc (.cells #[.int .i64 0,.int .i64 0,.slice none 0 0] 24)).heap.size = w.heap.size + 2:=by simp
 replace hg:=Lib.hid (hg.below b0)
 replace h:=Lib.hid (h.below b0)
 replace hr:=Lib.hid hr
 replace hl:=Lib.hid hl
 replace hblk0:=Lib.hid hblk0
 obtain ⟨W0,hW0⟩ : ∃ W0 : World,(w.alloc (.cells #[.int .i64 K,.int .i64 R,.slice va vn vc] 24)).alloc (.cells #[.int .i64 0,.int .i64 0,.slice none 0 0] 24) = W0:=⟨_,rfl⟩
 rw [hW0] at b0 q qz hs0 hg h
 go_enter Tryz.func33,Tryz.ntmps33
 obtain ⟨⟨z0,z1,z2⟩,-,-,-⟩:=id q
 go_upto_region 1 with fail
 replace hW0:=Lib.hid hW0
 go_wp2_with fail
 refine (one_ok r K R va vn vc T _ hg.out h.out hr.out hl.out).mono ?_
 rintro e w1 ⟨_,_,_,_,rfl,b1,hp⟩
 obtain ⟨rfl,Y,rfl,hY,a1,n1,c1,a2,n2,c2,a3,n3,c3,a4,n4,c4,a5,n5,c5,a6,n6,c6,rfl,rfl⟩:=hp.ans
 have b2:=Below.step b1 (Below.step (belowAlloc w1 (.cells #[.int .i64 0,.slice a1 n1 c1,.slice a2 n2 c2,.slice a3 n3 c3] 45)) (belowAlloc _ (.cells #[.int .i64 0,.slice a4 n4 c4,.slice a5 n5 c5,.slice a6 n6 c6] 45)))
 obtain ⟨w2,hw2⟩ : ∃ W : World,(w1.alloc (.cells #[.int .i64 0,.slice a1 n1 c1,.slice a2 n2 c2,.slice a3 n3 c3] 45)).alloc (.cells #[.int .i64 0,.slice a4 n4 c4,.slice a5 n5 c5,.slice a6 n6 c6] 45) = W:=⟨_,rfl⟩
 rw [hw2] at b2
 have q2:=q.below b2
 have qz2:=qz.below b2
 have hg2:=hg.out.below b2
 have h2:=h.out.below b2
 have bw2:=Below.step b0 b2
 have hs2 : w.heap.size + 2 ≤ w2.heap.size:=by rw [← hs0]; exact b2.size
 replace hg2:=Lib.hid hg2
 replace h2:=Lib.hid h2
 clear hp z0 z1 z2
 cases Y with
 | false =>
  have hno : NotOne K R T:=Classical.byContradiction fun hc => by have:=hY.2 hc; cases this
  go_upto_region 4 with fail
  replace hw2:=Lib.hid hw2
  go_wp2_with fail
  refine (inverse_wrong r _ _ _ hg2.out (by decide) (by decide)).mono ?_
  rintro e w3 ⟨u,rfl,b3,hu⟩
  obtain ⟨T3,a3,rfl⟩:=ErrIs.some_shape hu
  obtain ⟨⟨y0,y1,y2⟩,f0,f1,f2⟩:=qz2.below b3
  have bE:=Below.step bw2 b3
  replace hu:=Lib.hid hu
  replace hY:=Lib.hid hY
  go_wp2
  rw [setCell_self3 y0 y1 y2]
  exact bodyPost_ret (v:=.tuple #[zR,.iface T3 (.pointer (some a3))]) (by simp [results,Tryz.results33,go_sem,y0,y1,y2]) rfl ⟨_,_,rfl,bE,.inl ⟨hno,rfl,hu.out⟩⟩
 | true =>
  have hone : ¬ NotOne K R T:=hY.1 rfl
  replace hone:=Lib.hid hone
  clear hY
  go_upto_region 4 with fail
  replace hw2:=Lib.hid hw2
  go_wp2_with fail
  go_loopw [29] (fun iv wr => ∃ e : Nat,e ≤ 4 ∧ iv = .int .i64 e ∧ findP K R T = findF K R T (4 - e) e ∧ Below w2.heap.size w2 wr) (fun iv _ => 4 - (intOf iv).toNat)
  case atStart => exact ⟨0,by omega,rfl,rfl,Below.refl _ _⟩
  case round =>
   obtain ⟨e,he,rfl,hfp,hB⟩:=hrel
   obtain ⟨wo,rfl⟩ : ∃ wo : World,wo = wr:=⟨_,rfl⟩
   by_cases he4 : e < 4
   ·have de : decide ((e : Int) < 4) = true:=decide_eq_true (by omega)
    obtain ⟨⟨z0,z1,z2⟩,-,-,-⟩:=q2.below hB
    replace hfp:=Lib.hid hfp
    go_wp2_with fail
    refine (size_ok K e wo hk1 hk4 (by omega)).mono ?_
    rintro e' w' ⟨rfl,rfl⟩
    obtain ⟨n,hn⟩ : ∃ n,pw K (2 * e + 1) = n:=⟨_,rfl⟩
    have hn1 : 1 ≤ n:=by rw [← hn]; exact pw_pos _ hk1
    have hnb : n ≤ 16384:=by rw [← hn]; exact pw_le hk1 hk4 (by omega)
    rw [hn]
    replace hn:=Lib.hid hn
    go_upto_region 10 with fail
    refine wp_region_plan (fun w' => w'.cell? ⟨w.heap.size,0,none⟩ = some (.int .i64 K) ∧ w'.cell? ⟨w.heap.size,1,none⟩ = some (.int .i64 R) ∧ w'.cell? ⟨w.heap.size,2,none⟩ = some (.slice va vn vc)) 6 [(0,true),(1,true),(2,true),(3,false),(4,true),(5,false)] (by kernel_rfl) (by kernel_rfl) ?_
    obtain ⟨W1,hW1⟩ : ∃ W' : World,wo.drew = W':=⟨_,rfl⟩
    have bd : Below wo.heap.size wo W1:=by rw [← hW1]; exact (Below.refl _ _).drew
    have bB1:=Below.step hB bd
    rw [hW1]
    replace hW1:=Lib.hid hW1
    have hS1:=(q2.below bB1).1
    refine pqY 39 hS1 ?_
    refine pqY 40 hS1 ?_
    refine pqY 41 hS1 ?_
    obtain ⟨tv,w3,mk,ho3,b3⟩:=run_makeI (n : Int) n W1 rfl (by omega)
    have bB3:=Below.step bB1 b3
    have hS3:=(q2.below bB3).1
    refine headC rfl (fun KK hK => ?_)
    go_simp
    refine hK _ _ hS3 ?_
    clear hK KK mk
    obtain ⟨tb,tn,tc,rfl,htb1,htb2⟩:=ho3.open (by intro e; have:=congrArg List.length e; simp at this; omega)
    refine pqY 43 hS3 ?_
    have ba:=belowAlloc w3 (.cells #[.int .i64 K,.int .i64 R,.slice va vn vc,.int .i64 e,.slice (some ⟨tb,0,none⟩) tn tc] 104)
    have bB4:=Below.step bB3 ba
    have hS4:=(q2.below bB4).1
    have hbox : GBox (w3.alloc (.cells #[.int .i64 K,.int .i64 R,.slice va vn vc,.int .i64 e,.slice (some ⟨tb,0,none⟩) tn tc] 104)) w3.heap.size K R (.slice va vn vc) e (.slice (some ⟨tb,0,none⟩) tn tc):=by
     refine ⟨?_,?_,?_,?_,?_⟩ <;> simp [go_sem]
    have ho4:=ho3.below ba
    obtain ⟨W4,hW4⟩ : ∃ W' : World,w3.alloc (.cells #[.int .i64 K,.int .i64 R,.slice va vn vc,.int .i64 e,.slice (some ⟨tb,0,none⟩) tn tc] 104) = W':=⟨_,rfl⟩
    rw [hW4] at ba bB4 hS4 hbox ho4
    obtain ⟨G,hG⟩ : ∃ G,w3.heap.size = G:=⟨_,rfl⟩
    rw [hG] at hbox htb2
    have hGt : G ≠ tb:=by omega
    refine headC rfl (fun KK hK => ?_)
    go_simp
    refine hK _ _ hS4 ?_
    clear hK KK hS1 hS3 hS4 z0 z1 z2
    refine head0 ?_
    simp only [List.drop_succ_cons,List.drop_zero]
    replace hW4:=Lib.hid hW4
    have sB1:=bB1.size
    have hoff : ∀ i,i < T.length → (valAt (.slice va vn vc) i).block ≠ tb:=fun i hi => by
     have:=hblk0.out i hi
     omega
    have hT4:=h2.out.below bB4
    have q4:=q2.below bB4
    have lz:=ho4.at.len
    rw [List.length_replicate] at lz
    have z4:=hbox.c4
    replace hbox:=Lib.hid hbox
    replace ho3:=Lib.hid ho3
    replace ho4:=Lib.hid ho4
    replace hT4:=Lib.hid hT4
    replace hoff:=Lib.hid hoff
    replace hG:=Lib.hid hG
    go_wp2
    refine NoPanic.normal ?_
    go_wp2_with fail
    clear z4
    go_loopw [50] (fun jv wr => ∃ j : Nat,j ≤ n ∧ jv = .int .i64 j ∧ OwnI W1.heap.size wr (.slice (some ⟨tb,0,none⟩) tn tc) (List.replicate j (-1) ++ List.replicate (n - j) 0) ∧ W4.grownBy wr (some tb)) (fun jv _ => n - (intOf jv).toNat)
    case atStart => exact ⟨0,Nat.zero_le _,rfl,by simpa using ho4.out,World.grownBy.refl _ _⟩
    case round =>
     obtain ⟨j,hj,rfl,hO,hGr⟩:=hrel
     obtain ⟨wi,rfl⟩ : ∃ wo : World,wo = wr:=⟨_,rfl⟩
     have hb4:=(hbox.out.kept hGr hGt)
     have z4:=hb4.c4
     by_cases hjn : j < n
     ·have dj : decide ((j : Int) < (n : Int)) = true:=decide_eq_true (by omega)
      have hOl : (List.replicate j (-1 : Int) ++ List.replicate (n - j) 0).length = n:=by simp; omega
      have iO:=fun w' => hO.at.idx j (by rw [hOl]; exact hjn) w'
      have fO:=hO.frz j (by rw [hOl]; exact hjn)
      obtain ⟨c0,cO⟩ : ∃ z,wi.cell? (valAt (.slice (some ⟨tb,0,none⟩) tn tc) j) = some z:=⟨_,hO.at.cell j (by rw [hOl]; exact hjn)⟩
      have hset:=hO.set j (by rw [hOl]; exact hjn) (-1)
      rw [minus_step j n hjn] at hset
      have hgr:=setCell_grown (w:=wi) (v:=.slice (some ⟨tb,0,none⟩) tn tc) (i:=j) rfl (.int .i64 (-1))
      have hgr2:=hGr.trans hgr
      obtain ⟨p,hp⟩ : ∃ p,valAt (.slice (some ⟨tb,0,none⟩) tn tc) j = p:=⟨_,rfl⟩
      rw [hp] at iO fO cO hset hgr2
      replace hset:=Lib.hid hset
      replace hgr2:=Lib.hid hgr2
      replace hO:=Lib.hid hO
      replace hb4:=Lib.hid hb4
      replace hp:=Lib.hid hp
      replace hOl:=Lib.hid hOl
      clear hgr
      go_wp2
      go_roundw
      case measure => simp [intOf]; omega
      case rel => exact ⟨j + 1,by omega,by go_num,hset.out,hgr2.out⟩
     ·obtain rfl : j = n:=by omega
      have dj : decide ((j : Int) < (j : Int)) = false:=decide_eq_false (by omega)
      rw [Nat.sub_self,List.replicate_zero,List.append_nil] at hO
      have hfill:=fill_any K R e G tb tn tc W1.heap.size va vn vc T hr.out hl.out (by omega) hGt hoff.out (2 * (R + e) + 1) 0 0 0 0 wi _ (by omega) (FillOk.zero hr.out) (by omega) hb4 (hT4.out.grown hGr hoff.out) hO (by rw [List.length_replicate,← hn.out])
      rw [← hn.out,show fillF K R (2 * (R + e) + 1) T (2 * (R + e) + 1) 0 0 0 (List.replicate (pw K (2 * e + 1)) (-1)) = tryF K R T e from rfl,show ((0 : Nat) : Int) = 0 from rfl] at hfill
      obtain ⟨X,hX⟩ : ∃ X,tryF K R T e = X:=⟨_,rfl⟩
      rw [hX] at hfill
      have hfs : findF K R T (4 - e) e = if X.1 = true then some (e,X.2) else findF K R T (4 - (e + 1)) (e + 1):=by
       rw [show 4 - e = (4 - (e + 1)) + 1 by omega,findF_succ,hX]
      have sW4:=bB4.size
      replace hfill:=Lib.hid hfill
      replace hO:=Lib.hid hO
      replace hb4:=Lib.hid hb4
      replace hfs:=Lib.hid hfs
      replace hX:=Lib.hid hX
      go_wp2_with fail
      refine hfill.out.mono ?_
      rintro e' w5 ⟨rfl,hO5,hg5⟩
      have hG5:=hGr.trans hg5
      have b5 : Below w2.heap.size w2 w5:=bB4.grown hG5 sW4 (fun k hk => by cases hk; omega)
      have hb5:=hbox.out.kept hG5 hGt
      obtain ⟨X1,X2⟩:=X
      have qE:=q2.below b5
      have qzE:=qz2.below b5
      cases X1 with
      | false =>
       replace hO5:=Lib.hid hO5
       replace hb5:=Lib.hid hb5
       clear z4
       go_wp2
       go_roundw
       case measure => simp [intOf]; omega
       case rel => exact ⟨e + 1,by omega,by go_num,by rw [hfp.out,hfs.out]; rfl,b5⟩
      | true =>
       clear z4
       have hO5':=Lib.hid hO5
       clear hO5
       have hb54:=hb5.c4
       replace hb5:=Lib.hid hb5
       go_upto_region 17 with fail
       refine wp_region_plan (fun w' => w'.cell? ⟨w.heap.size,0,none⟩ = some (.int .i64 K) ∧ w'.cell? ⟨G,4,none⟩ = some (.slice (some ⟨tb,0,none⟩) tn tc)) 8 [(0,true),(1,true),(2,true),(3,true),(4,true),(5,true),(6,true),(7,true)] (by kernel_rfl) (by kernel_rfl) ?_
       obtain ⟨W6,hW6⟩ : ∃ W' : World,w5.drew = W':=⟨_,rfl⟩
       have bd6 : Below w5.heap.size w5 W6:=by rw [← hW6]; exact (Below.refl _ _).drew
       have hS6 : W6.cell? ⟨w.heap.size,0,none⟩ = some (.int .i64 K) ∧ W6.cell? ⟨G,4,none⟩ = some (.slice (some ⟨tb,0,none⟩) tn tc):=by rw [← hW6]; exact ⟨qE.1.1,hb54⟩
       have hO6 : OwnI W1.heap.size W6 (.slice (some ⟨tb,0,none⟩) tn tc) X2:=by rw [← hW6]; exact hO5'.out
       rw [hW6]
       replace hW6:=Lib.hid hW6
       have b6:=Below.step b5 bd6
       obtain ⟨⟨y0,y1,y2⟩,f0,f1,f2⟩:=qz2.below b6
       have bE:=Below.step bw2 b6
       refine pqY 62 hS6 ?_
       refine pqY 63 hS6 ?_
       refine pqY 64 hS6 ?_
       refine pqY 65 hS6 ?_
       refine pqY 66 hS6 ?_
       refine pqY 67 hS6 ?_
       refine pqY 68 hS6 ?_
       refine pqY 69 hS6 ?_
       refine head0 ?_
       simp only [List.drop_succ_cons,List.drop_zero]
       clear hS6 hb54
       replace hO6:=Lib.hid hO6
       go_wp2
       refine NoPanic.normal ?_
       go_wp2
       refine bodyPost_ret (v:=.tuple #[.agg #[.int .i64 K,.int .i64 e,.slice (some ⟨tb,0,none⟩) tn tc],.nilIface]) (by simp [results,Tryz.results33,go_sem,y0,y1,y2]) rfl ⟨_,_,rfl,below_set3 bE (Nat.le_succ _) _ _ _,.inr (.inr ⟨hone.out,e,X2,_,_,_,by rw [hfp.out,hfs.out]; rfl,rfl,rfl,(hO6.out.set3 (b:=w.heap.size + 1) (by omega) _ _ _).mono (by omega)⟩)⟩
   ·obtain rfl : e = 4:=by omega
    have de : decide (((4 : Nat) : Int) < 4) = false:=by decide
    have hnone : findP K R T = none:=by rw [hfp]; rfl
    replace hfp:=Lib.hid hfp
    replace hnone:=Lib.hid hnone
    go_wp2_with fail
    refine (inverse_wrong r _ _ _ (hg2.out.below hB) (by decide) (by decide)).mono ?_
    rintro e' w3 ⟨u,rfl,b3,hu⟩
    obtain ⟨T3,a3,rfl⟩:=ErrIs.some_shape hu
    obtain ⟨⟨y0,y1,y2⟩,f0,f1,f2⟩:=qz2.below (Below.step hB b3)
    have bE:=Below.step bw2 (Below.step hB b3)
    replace hu:=Lib.hid hu
    go_wp2
    rw [setCell_self3 y0 y1 y2]
    exact bodyPost_ret (v:=.tuple #[zR,.iface T3 (.pointer (some a3))]) (by simp [results,Tryz.results33,go_sem,y0,y1,y2]) rfl ⟨_,_,rfl,bE,.inr (.inl ⟨hone.out,hnone.out,rfl,hu.out⟩)⟩
end Go.Proofs.YtjiadfblphdchaaGreatDoor
namespace Go.Proofs.YtjiadfblphdchaaGreatDoor
open Go.RowKit
set_option maxRecDepth 100000
/-- What inverse.find tells. -/
noncomputable def invE (k R : Int) (T : List Int) : PErr:=open Classical in
 match smallP k R T with
 | some t => under sInverse 0 (under sInject 0 (under sPairs 0 (some t)))
 | none => if NotOne k.toNat R.toNat T then fresh sInverse 0 9 else match findP k.toNat R.toNat T with
  | none => fresh sInverse 0 4
  | some _ => none
/-- The inverse that is found. -/
def InvIs (B : Nat) (w : World) (k R : Int) (T : List Int) (x : Value) : Prop :=
 (invE k R T = none → ∃ d S a n c,findP k.toNat R.toNat T = some (d,S) ∧ x = .agg #[.int .i64 k,.int .i64 ((d : Nat) : Int),.slice a n c] ∧ OwnI B w (.slice a n c) S) ∧ (invE k R T ≠ none → x = zR)
theorem invE_bad {k R : Int} {T : List Int} {t : Int × List (ByteArray × Int)} (h : smallP k R T = some t) : invE k R T = under sInverse 0 (under sInject 0 (under sPairs 0 (some t))):=by unfold invE; rw [h]
theorem smallP_of {k R : Int} {T : List Int} (h : smallP k R T = none) : ∃ K Q : Nat,k = K ∧ R = Q ∧ RuleOk K Q T ∧ T.length ≤ 256:=by
 obtain ⟨hck,hl⟩:=smallP_none h
 obtain ⟨K,Q,h1,h2,hr⟩:=checkP_none hck
 exact ⟨K,Q,h1,h2,hr,hl⟩
theorem invE_ok {K Q : Nat} {T : List Int} (hr : RuleOk K Q T) (hl : T.length ≤ 256) : (NotOne K Q T → invE K Q T = fresh sInverse 0 9) ∧ (¬ NotOne K Q T → findP K Q T = none → invE K Q T = fresh sInverse 0 4) ∧ (¬ NotOne K Q T → findP K Q T ≠ none → invE K Q T = none):=by
 have hsm : smallP K Q T = none:=by rw [smallP_ok hr,if_neg (by omega)]
 refine ⟨fun h => ?_,fun h hf => ?_,fun h hf => ?_⟩
 ·unfold invE; rw [hsm]; simp only [Int.toNat_natCast]; rw [if_pos h]
 ·unfold invE; rw [hsm]; simp only [Int.toNat_natCast]; rw [if_neg h,hf]
 ·unfold invE; rw [hsm]; simp only [Int.toNat_natCast]; rw [if_neg h]
  cases hq : findP K Q T with
  | none => exact absurd hq hf
  | some _ => rfl
theorem find_any (r : Nat → Addr) (k R : Int) (va : Option Addr) (vn vc : Nat) (T : List Int) (w : World) (hg : Glob r w) (h : IntsAt w (.slice va vn vc) T) :
 Calls Tryz.prog 33 #[.agg #[.int .i64 k,.int .i64 R,.slice va vn vc]] w (Ret2 (fun x y w' => ErrIs r w' (invE k R T) y ∧ InvIs w.heap.size w' k R T x) w):=by
 cases hc : smallP k R T with
 | some t =>
  have e:=invE_bad hc
  refine (find_bad r k R va vn vc T t w hg h hc).mono ?_
  rintro e1 w' ⟨x,y,he,hb,hx,hy⟩
  exact ⟨x,y,he,hb,by rw [e]; exact hy,fun q => (by rw [e] at q; cases q),fun _ => hx⟩
 | none =>
  obtain ⟨K,Q,rfl,rfl,hr,hl⟩:=smallP_of hc
  obtain ⟨i1,i2,i3⟩:=invE_ok hr hl
  refine (find_ok r K Q va vn vc T w hg h hr hl).mono ?_
  rintro e1 w' ⟨x,y,he,hb,hp⟩
  refine ⟨x,y,he,hb,?_⟩
  rcases hp with ⟨h1,hx,hy⟩ | ⟨h1,h2,hx,hy⟩ | ⟨h1,d,S,a,n,c,hf,hy,hx,ho⟩
  ·rw [i1 h1]; exact ⟨hy,fun q => (by rw [i1 h1] at q; cases q),fun _ => hx⟩
  ·rw [i2 h1 h2]; exact ⟨hy,fun q => (by rw [i2 h1 h2] at q; cases q),fun _ => hx⟩
  ·have e:=i3 h1 (by rw [hf]; simp)
   rw [e]
   exact ⟨hy,fun _ => ⟨d,S,a,n,c,by rw [Int.toNat_natCast,Int.toNat_natCast]; exact hf,hx,ho⟩,fun q => absurd e q⟩
/-- A rule's value, an error's. -/
theorem InvIs.shape {B : Nat} {w : World} {k R : Int} {T : List Int} {x : Value} (h : InvIs B w k R T x) : ∃ k' q a n c,x = .agg #[.int .i64 k',.int .i64 q,.slice a n c]:=by
 by_cases e : invE k R T = none
 ·obtain ⟨d,S,a,n,c,_,hx,_⟩:=h.1 e
  exact ⟨_,_,_,_,_,hx⟩
 ·exact ⟨0,0,none,0,0,h.2 e⟩
theorem InvIs.set3 {B b : Nat} {w : World} {k R : Int} {T : List Int} {x : Value} (h : InvIs B w k R T x) (hb : b < B) (x0 x1 x2 : Value) : InvIs B (((w.setCell ⟨b,0,none⟩ x0).setCell ⟨b,1,none⟩ x1).setCell ⟨b,2,none⟩ x2) k R T x :=
 ⟨fun e => by
   obtain ⟨d,S,a,n,c,hf,hx,ho⟩:=h.1 e
   exact ⟨d,S,a,n,c,hf,hx,ho.set3 hb _ _ _⟩,h.2⟩
theorem InvIs.mono {B B' : Nat} {w : World} {k R : Int} {T : List Int} {x : Value} (h : InvIs B w k R T x) (hb : B' ≤ B) : InvIs B' w k R T x :=
 ⟨fun e => by
   obtain ⟨d,S,a,n,c,hf,hx,ho⟩:=h.1 e
   exact ⟨d,S,a,n,c,hf,hx,ho.mono hb⟩,h.2⟩
theorem ErrIs.open2 {r : Nat → Addr} {w : World} {t : PErr} {v : Value} (h : ErrIs r w t v) : v = .nilIface ∨ ∃ T a,v = .iface T (.pointer (some a)):=by
 cases t with
 | none => exact .inl h.none_eq
 | some t => exact .inr h.some_shape
set_option maxHeartbeats 1000000 in
theorem inv_rule (r : Nat → Addr) (k R : Int) (va : Option Addr) (vn vc : Nat) (T : List Int) (w : World) (hg : Glob r w) (h : IntsAt w (.slice va vn vc) T) :
 Calls Tryz.prog 13 #[.agg #[.int .i64 k,.int .i64 R,.slice va vn vc]] w (Ret2 (fun x y w' => ErrIs r w' (invE k R T) y ∧ InvIs w.heap.size w' k R T x) w):=by
 have b0:=Below.step (belowAlloc w (.cells #[.int .i64 k,.int .i64 R,.slice va vn vc] 24)) (belowAlloc _ (.cells #[.int .i64 0,.int .i64 0,.slice none 0 0] 24))
 have qz : Box3 ((w.alloc (.cells #[.int .i64 k,.int .i64 R,.slice va vn vc] 24)).alloc (.cells #[.int .i64 0,.int .i64 0,.slice none 0 0] 24)) (w.heap.size + 1) (.int .i64 0) (.int .i64 0) (.slice none 0 0):=by simp [Box3,go_sem]
 have hs0 : ((w.alloc (.cells #[.int .i64 k,.int .i64 R,.slice va vn vc] 24)).alloc (.cells #[.int .i64 0,.int .i64 0,.slice none 0 0] 24)).heap.size = w.heap.size + 2:=by simp
 replace hg:=Lib.hid (hg.below b0)
 replace h:=Lib.hid (h.below b0)
 go_enter Tryz.func13,Tryz.ntmps13
 go_wp2_with fail
 refine (find_any r k R va vn vc T _ hg.out h.out).mono ?_
 rintro e w1 ⟨x,y,rfl,b1,hy,hx⟩
 obtain ⟨k',q',a,n,c,rfl⟩:=hx.shape
 have hq:=qz.below b1
 obtain ⟨⟨y0,y1,y2⟩,f0,f1,f2⟩:=id hq
 have bE:=Below.step b0 b1
 have hx2:=(hx.set3 (b:=w.heap.size + 1) (by rw [hs0]; omega) (.int .i64 k') (.int .i64 q') (.slice a n c)).mono (show w.heap.size ≤ _ by rw [hs0]; omega)
 have hy2:=hy.st3 hq (fun s => by simp) (.int .i64 k') (.int .i64 q') (.slice a n c) (fun s => by simp)
 have hr2:=below_set3 bE (Nat.le_succ w.heap.size) (.int .i64 k') (.int .i64 q') (.slice a n c)
 replace hx:=Lib.hid hx
 replace hx2:=Lib.hid hx2
 replace hy:=Lib.hid hy
 replace hy2:=Lib.hid hy2
 rcases hy.out.open2 with rfl | ⟨T3,a3,rfl⟩
 ·go_wp2
  exact bodyPost_ret (v:=.tuple #[.agg #[.int .i64 k',.int .i64 q',.slice a n c],.nilIface]) (by simp [results,Tryz.results13,go_sem,y0,y1,y2]) rfl ⟨_,_,rfl,hr2,hy2.out,hx2.out⟩
 ·go_wp2
  exact bodyPost_ret (v:=.tuple #[.agg #[.int .i64 k',.int .i64 q',.slice a n c],.iface T3 (.pointer (some a3))]) (by simp [results,Tryz.results13,go_sem,y0,y1,y2]) rfl ⟨_,_,rfl,hr2,hy2.out,hx2.out⟩
/-- The radius that is told. -/
noncomputable def radN (k R : Int) (T : List Int) : Int:=match invE k R T with
 | some _ => 0
 | none => match findP k.toNat R.toNat T with
  | some (d,_) => d
  | none => 0
set_option maxHeartbeats 1000000 in
theorem inv_radius (r : Nat → Addr) (k R : Int) (va : Option Addr) (vn vc : Nat) (T : List Int) (w : World) (hg : Glob r w) (h : IntsAt w (.slice va vn vc) T) :
 Calls Tryz.prog 12 #[.agg #[.int .i64 k,.int .i64 R,.slice va vn vc]] w (Ret2 (fun x y w' => ErrIs r w' (invE k R T) y ∧ x = .int .i64 (radN k R T)) w):=by
 have b0:=belowAlloc w (.cells #[.int .i64 k,.int .i64 R,.slice va vn vc] 24)
 replace hg:=Lib.hid (hg.below b0)
 replace h:=Lib.hid (h.below b0)
 go_enter Tryz.func12,Tryz.ntmps12
 go_wp2_with fail
 refine (find_any r k R va vn vc T _ hg.out h.out).mono ?_
 rintro e w1 ⟨x,y,rfl,b1,hy,hx⟩
 have hn : ∃ k' a n c,x = .agg #[.int .i64 k',.int .i64 (radN k R T),.slice a n c]:=by
  unfold radN
  cases he : invE k R T with
  | none =>
   obtain ⟨d,S,a,n,c,hf,hxx,_⟩:=hx.1 he
   rw [hf]
   exact ⟨_,_,_,_,hxx⟩
  | some t => exact ⟨0,none,0,0,hx.2 (by rw [he]; simp)⟩
 obtain ⟨k',a,n,c,rfl⟩:=hn
 obtain ⟨N,hN⟩ : ∃ N,radN k R T = N:=⟨_,rfl⟩
 rw [hN]
 have b2:=belowAlloc w1 (.cells #[.int .i64 k',.int .i64 N,.slice a n c] 24)
 have bE:=Below.step b0 (Below.step b1 b2)
 have hy2:=hy.below b2
 have q : Box3 (w1.alloc (.cells #[.int .i64 k',.int .i64 N,.slice a n c] 24)) w1.heap.size (.int .i64 k') (.int .i64 N) (.slice a n c):=by simp [Box3,go_sem]
 obtain ⟨⟨z0,z1,z2⟩,-,-,-⟩:=q
 replace hx:=Lib.hid hx
 replace hN:=Lib.hid hN
 replace hy:=Lib.hid hy
 replace hy2:=Lib.hid hy2
 rcases hy.out.open2 with rfl | ⟨T3,a3,rfl⟩
 ·go_wp2
  go_ret2
  exact ⟨_,_,rfl,bE,hy2.out,by rw [hN.out]; rfl⟩
 ·go_wp2
  go_ret2
  exact ⟨_,_,rfl,bE,hy2.out,by rw [hN.out]; rfl⟩
end Go.Proofs.YtjiadfblphdchaaGreatDoor
namespace Go.Proofs.YtjiadfblphdchaaGreatDoor
/-- The number that limbs write. -/
def natV : List Nat → Nat
 | [] => 0
 | x :: l => x + 4294967296 * natV l
def Limbs (l : List Nat) : Prop:=∀ x ∈ l,x < 4294967296
theorem natV_append (a b : List Nat) : natV (a ++ b) = natV a + 4294967296 ^ a.length * natV b:=by
 induction a with
 | nil => simp [natV]
 | cons x a ih =>
  rw [List.cons_append,natV,ih,natV,List.length_cons,Nat.pow_succ,Nat.mul_add,← Nat.mul_assoc,Nat.mul_comm 4294967296 (4294967296 ^ a.length),Nat.add_assoc]
theorem natV_snoc (a : List Nat) (x : Nat) : natV (a ++ [x]) = natV a + 4294967296 ^ a.length * x:=by
 rw [natV_append]; simp [natV]
theorem natV_zeros (n : Nat) : natV (List.replicate n 0) = 0:=by
 induction n with
 | zero => rfl
 | succ n ih => rw [List.replicate_succ,natV,ih]
theorem natV_lt {l : List Nat} (h : Limbs l) : natV l < 4294967296 ^ l.length:=by
 induction l with
 | nil => simp [natV]
 | cons x l ih =>
  have h1:=h x (by simp)
  have h2:=ih fun y hy => h y (by simp [hy])
  rw [natV,List.length_cons,Nat.pow_succ]
  have h3 : 4294967296 * (natV l + 1) ≤ 4294967296 * 4294967296 ^ l.length:=Nat.mul_le_mul_left _ h2
  rw [Nat.mul_add] at h3
  rw [Nat.mul_comm (4294967296 ^ l.length)]
  omega
theorem natV_set {l : List Nat} {k : Nat} (hk : k < l.length) (y : Nat) : natV (l.set k y) + 4294967296 ^ k * l[k] = natV l + 4294967296 ^ k * y:=by
 induction l generalizing k with
 | nil => simp at hk
 | cons x l ih =>
  cases k with
  | zero => simp only [List.set_cons_zero,natV,Nat.pow_zero,Nat.one_mul,List.getElem_cons_zero]; omega
  | succ k =>
   have:=ih (k:=k) (by simpa using hk)
   simp only [List.set_cons_succ,natV,List.getElem_cons_succ,Nat.pow_succ]
   have e : ∀ z,4294967296 ^ k * 4294967296 * z = 4294967296 * (4294967296 ^ k * z):=fun z => by rw [Nat.mul_comm (4294967296 ^ k),Nat.mul_assoc]
   rw [e,e]
   omega
/-- No zero on top. -/
def Norm (l : List Nat) : Prop:=∀ h : l ≠ [],l.getLast h ≠ 0
theorem norm_unique {a b : List Nat} (ha : Limbs a) (hb : Limbs b) (na : Norm a) (nb : Norm b) (h : natV a = natV b) : a = b:=by
 induction a generalizing b with
 | nil =>
  cases b with
  | nil => rfl
  | cons y b =>
   exfalso
   have hz : ∀ l : List Nat,natV l = 0 → ∀ x ∈ l,x = 0:=by
    intro l
    induction l with
    | nil => intro _ x hx; cases hx
    | cons z l ih =>
     intro h x hx
     rw [natV] at h
     rcases List.mem_cons.1 hx with rfl | hx
     ·omega
     ·exact ih (by omega) x hx
   have:=hz _ h.symm _ (List.getLast_mem (l:=y :: b) (by simp))
   exact nb (by simp) this
 | cons x a ih =>
  cases b with
  | nil =>
   exfalso
   have hz : ∀ l : List Nat,natV l = 0 → ∀ x ∈ l,x = 0:=by
    intro l
    induction l with
    | nil => intro _ x hx; cases hx
    | cons z l ih =>
     intro h x hx
     rw [natV] at h
     rcases List.mem_cons.1 hx with rfl | hx
     ·omega
     ·exact ih (by omega) x hx
   have:=hz _ h _ (List.getLast_mem (l:=x :: a) (by simp))
   exact na (by simp) this
  | cons y b =>
   have hx:=ha x (by simp)
   have hy:=hb y (by simp)
   rw [natV,natV] at h
   have e1 : x = y:=by omega
   subst e1
   have e2 : natV a = natV b:=by omega
   rw [ih (fun z hz => ha z (by simp [hz])) (fun z hz => hb z (by simp [hz])) (fun hne => by have:=na (by simp); rwa [List.getLast_cons hne] at this) (fun hne => by have:=nb (by simp); rwa [List.getLast_cons hne] at this) e2]
/-- One round of the sum. -/
theorem add_round {i x y c P Q : Nat} {o : List Nat} (ho : o.length = i) (h : natV o + 4294967296 ^ i * c = P + Q) :
 natV (o ++ [(x + y + c) % 4294967296]) + 4294967296 ^ (i + 1) * ((x + y + c) / 4294967296) = (P + 4294967296 ^ i * x) + (Q + 4294967296 ^ i * y):=by
 rw [natV_snoc,ho,Nat.pow_succ,Nat.mul_assoc,Nat.add_assoc,← Nat.mul_add,Nat.mod_add_div,Nat.mul_add,Nat.mul_add]
 omega
/-- One round of the product by a limb. -/
theorem mul_round {i j x y c P : Nat} {o : List Nat} (hk : i + j < o.length) (h : natV o + 4294967296 ^ (i + j) * c = P) :
 natV (o.set (i + j) ((x * y + o[i + j] + c) % 4294967296)) + 4294967296 ^ (i + j + 1) * ((x * y + o[i + j] + c) / 4294967296) = P + 4294967296 ^ i * x * (4294967296 ^ j * y):=by
 have h1:=natV_set hk ((x * y + o[i + j] + c) % 4294967296)
 generalize natV (o.set (i + j) ((x * y + o[i + j] + c) % 4294967296)) = V at *
 generalize o[i + j] = z at *
 have h2 : 4294967296 ^ (i + j) * ((x * y + z + c) % 4294967296) + 4294967296 ^ (i + j + 1) * ((x * y + z + c) / 4294967296) = 4294967296 ^ (i + j) * (x * y + z + c):=by
  rw [Nat.pow_succ,Nat.mul_assoc,← Nat.mul_add,Nat.mod_add_div]
 have h3 : 4294967296 ^ i * x * (4294967296 ^ j * y) = 4294967296 ^ (i + j) * (x * y):=by
  rw [Nat.pow_add,Nat.mul_mul_mul_comm]
 rw [Nat.mul_add,Nat.mul_add] at h2
 rw [h3]
 omega
/-- One round of the division by a limb. -/
theorem over_round {x d r : Nat} : ((r * 4294967296 + x) / d) * d + (r * 4294967296 + x) % d = r * 4294967296 + x:=by
 rw [Nat.mul_comm]; exact Nat.div_add_mod _ _
theorem over_step {x d r q P : Nat} (h : q * d + r = P) : ((r * 4294967296 + x) / d + 4294967296 * q) * d + (r * 4294967296 + x) % d = x + 4294967296 * P:=by
 have h1:=over_round (x:=x) (d:=d) (r:=r)
 subst h
 rw [Nat.add_mul,Nat.mul_add,Nat.mul_assoc]
 generalize (r * 4294967296 + x) / d * d = z at *
 generalize (r * 4294967296 + x) % d = y at *
 generalize q * d = t
 omega
theorem over_limb {x d r : Nat} (hr : r < d) (hx : x < 4294967296) : (r * 4294967296 + x) / d < 4294967296:=by
 rw [Nat.div_lt_iff_lt_mul (by omega)]
 have : (r + 1) * 4294967296 ≤ d * 4294967296:=Nat.mul_le_mul_right _ hr
 omega
end Go.Proofs.YtjiadfblphdchaaGreatDoor
namespace Go.Proofs.YtjiadfblphdchaaGreatDoor
open Go.RowKit
set_option maxRecDepth 100000
def limbs (l : List Nat) : List Value:=l.map fun (n : Nat) => Value.int .u32 (n : Int)
theorem limbs_len (l : List Nat) : (limbs l).length = l.length:=by simp [limbs]
theorem limbs_take (l : List Nat) (m : Nat) : limbs (l.take m) = (limbs l).take m:=by simp [limbs,List.map_take]
theorem limbs_set (l : List Nat) (i x : Nat) : limbs (l.set i x) = (limbs l).set i (.int .u32 (x : Int)):=by simp [limbs,List.map_set]
theorem limbs_zeros (n : Nat) : List.replicate n (Value.int .u32 0) = limbs (List.replicate n 0):=by simp [limbs]
theorem uNat : Tryz.prog.underlying 96 = some (.slice 153):=by kernel_rfl
theorem oneNat : OneCell 96 153 (.int .u32 0) 4:=⟨by kernel_rfl,by kernel_rfl,rfl,by decide,fun _ => by kernel_rfl⟩
theorem eNat : Tryz.prog.elem 96 = 153:=by kernel_rfl
theorem uNatE : Tryz.prog.underlying 96 = some (.slice (Tryz.prog.elem 96)):=by rw [eNat]; exact uNat
/-- The front of a slice value. -/
def cutAt (v : Value) (m : Nat) : Value:=match v with | .slice a _ c => .slice a m c | _ => v
theorem valAt_cut (v : Value) (m i : Nat) : valAt (cutAt v m) i = valAt v i:=by
 cases v <;> try rfl
 rename_i a n c; cases a <;> rfl
/-- The length of a slice value. -/
def lenV (v : Value) : Nat:=match v with | .slice _ n _ => n | _ => 0
theorem lenV_cut {v : Value} (h : ∃ a n c,v = .slice a n c) (m : Nat) : lenV (cutAt v m) = m:=by
 obtain ⟨a,n,c,rfl⟩:=h; rfl
theorem ValsAt.cut {w : World} {v : Value} {vs : List Value} (h : ValsAt w v vs) {m : Nat} (hm : m ≤ vs.length) : ValsAt w (cutAt v m) (vs.take m):=by
 obtain ⟨a,cap,rfl,h1,h2,h3,h4⟩:=h
 have hl : (vs.take m).length = m:=by simp; omega
 refine ⟨a,cap,by rw [hl]; rfl,by rw [hl]; omega,h2,h3,fun i hi => ?_⟩
 rw [hl] at hi
 rw [valAt_cut,h4 i (by omega)]; simp
theorem OwnV.cut {E : TypeId} {B : Nat} {w : World} {v : Value} {vs : List Value} (h : OwnV E B w v vs) {m : Nat} (hm : m ≤ vs.length) : OwnV E B w (cutAt v m) (vs.take m):=by
 have hl : (vs.take m).length = m:=by simp; omega
 rcases h.2 with ⟨rfl,hn⟩ | ⟨g,cap,cur,rfl,hB,hg,hn,hmm,hs,ht⟩
 ·obtain rfl : m = 0:=by omega
  exact OwnV.nil E B w
 ·refine ⟨by simp,.inr ⟨g,cap,cur,by rw [hl]; rfl,hB,hg,by rw [hl]; omega,hmm,hs,?_⟩⟩
  rw [hl]
  have:=congrArg (List.take m) ht
  rw [List.take_take] at this
  simp only [Nat.mul_one] at this ⊢
  rwa [Nat.min_eq_left (by omega)] at this
/-- v reads the limbs l. -/
def LimbsAt (w : World) (v : Value) (l : List Nat) : Prop:=ValsAt w v (limbs l)
/-- v is a number's slice that this call made, from block B on. -/
def OwnN (B : Nat) (w : World) (v : Value) (l : List Nat) : Prop:=OwnV 153 B w v (limbs l)
theorem OwnN.at {B : Nat} {w : World} {v : Value} {l : List Nat} (h : OwnN B w v l) : LimbsAt w v l:=OwnV.at h
theorem LimbsAt.below {w w' : World} {v : Value} {l : List Nat} (h : LimbsAt w v l) (hb : Below w.heap.size w w') : LimbsAt w' v l:=ValsAt.below h hb
theorem LimbsAt.shape {w : World} {v : Value} {l : List Nat} (h : LimbsAt w v l) : ∃ a n c,v = .slice a n c:=by
 obtain ⟨a,cap,e,_⟩:=h; exact ⟨_,_,_,e⟩
theorem LimbsAt.len {w : World} {v : Value} {l : List Nat} (h : LimbsAt w v l) (w' : World) :
 (Builtin.len_ #[96] 3 #[v]).run Tryz.prog w' = .ok (.int .i64 l.length) w':=by
 have:=ValsAt.len oneNat h 3 w'
 rwa [limbs_len] at this
theorem LimbsAt.idx {w : World} {v : Value} {l : List Nat} (h : LimbsAt w v l) (i : Nat) (hi : i < l.length) (w' : World) :
 (Instr.indexAt 96 v (.int .i64 i)).run Tryz.prog w' = .ok (.pointer (some (valAt v i))) w':=ValsAt.idx oneNat h i (by rw [limbs_len]; exact hi) w'
theorem LimbsAt.cell {w : World} {v : Value} {l : List Nat} (h : LimbsAt w v l) (i : Nat) (hi : i < l.length) : w.cell? (valAt v i) = some (.int .u32 ((l.getD i 0 : Nat) : Int)):=by
 have:=ValsAt.cell h i (by rw [limbs_len]; exact hi)
 rw [this]; simp [limbs,List.getD,hi]
theorem LimbsAt.len_le {w : World} {v : Value} {l : List Nat} (h : LimbsAt w v l) : l.length ≤ 9223372036854775807:=by
 have:=ValsAt.len_le h
 rwa [limbs_len] at this
theorem LimbsAt.cut {w : World} {v : Value} {l : List Nat} (h : LimbsAt w v l) {m : Nat} (hm : m ≤ l.length) : LimbsAt w (cutAt v m) (l.take m):=by
 have:=ValsAt.cut h (m:=m) (by rw [limbs_len]; exact hm)
 rwa [← limbs_take] at this
theorem OwnN.cut {B : Nat} {w : World} {v : Value} {l : List Nat} (h : OwnN B w v l) {m : Nat} (hm : m ≤ l.length) : OwnN B w (cutAt v m) (l.take m):=by
 have:=OwnV.cut h (m:=m) (by rw [limbs_len]; exact hm)
 rwa [← limbs_take] at this
theorem OwnN.set {B : Nat} {w : World} {v : Value} {l : List Nat} (h : OwnN B w v l) (i : Nat) (hi : i < l.length) (x : Nat) : OwnN B (w.setCell (valAt v i) (.int .u32 (x : Int))) v (l.set i x):=by
 have:=OwnV.set h i (by rw [limbs_len]; exact hi) (.int .u32 (x : Int))
 rwa [← limbs_set] at this
theorem OwnN.frz {B : Nat} {w : World} {v : Value} {l : List Nat} (h : OwnN B w v l) (i : Nat) (hi : i < l.length) : w.frozen? (valAt v i) = false:=OwnV.frz h i (by rw [limbs_len]; exact hi)
theorem OwnN.blkB {B : Nat} {w : World} {v : Value} {l : List Nat} (h : OwnN B w v l) (i : Nat) (hi : i < l.length) : B ≤ (valAt v i).block:=(OwnV.blkB h i (by rw [limbs_len]; exact hi)).2
theorem OwnN.setBelow {B : Nat} {w0 w : World} {v : Value} {l : List Nat} (h : OwnN B w v l) (hb : Below B w0 w) (i : Nat) (hi : i < l.length) (y : Value) : Below B w0 (w.setCell (valAt v i) y):=hb.setCell (h.blkB i hi) y
theorem OwnN.mono {B B' : Nat} {w : World} {v : Value} {l : List Nat} (h : OwnN B w v l) (hB : B' ≤ B) : OwnN B' w v l:=OwnV.mono h hB
theorem OwnN.below {B : Nat} {w w' : World} {v : Value} {l : List Nat} (h : OwnN B w v l) (hb : Below w.heap.size w w') : OwnN B w' v l:=OwnV.below h hb
/-- a[:m]. -/
theorem LimbsAt.front {w : World} {v : Value} {l : List Nat} (h : LimbsAt w v l) (m : Nat) (hm : m ≤ l.length) (w' : World) :
 (Instr.slice 96 v none (some (.int .i64 m)) none).run Tryz.prog w' = .ok (cutAt v m) w':=by
 obtain ⟨a,cap,rfl,h1,h2,h3,h4⟩:=h
 rw [limbs_len] at h1 ⊢
 rw [run_slice_h w' 96 a l.length cap uNatE .i64 m (by omega) (by omega),eNat,oneNat.hs]
 show Result.ok (sliced a 0 m cap 1) w' = .ok (.slice a m cap) w'
 unfold sliced
 by_cases hc : cap = 0
 ·subst hc; simp
 ·rw [if_neg hc]
  cases a with
  | none => rfl
  | some p => simp [Addr.add]
theorem run_makeNat (C : Int) (n : Nat) (w : World) (hC : C = n) (hn : n ≤ 4398046511104) :
 ∃ v w',(Instr.makeSlice 96 (.int .i64 C) (.int .i64 C)).run Tryz.prog w = .ok v w' ∧ OwnN w.heap.size w' v (List.replicate n 0) ∧ Below w.heap.size w w':=by
 subst hC
 obtain ⟨i,hi,hz0,hz1,hz2⟩:=info_parts oneNat.hi
 obtain ⟨w',hrun,r1,r2⟩:=run_make_full (P:=Tryz.prog) w w.heap.size 96 153 i (.int .u32 0) 1 oneNat.ht hi hz0 hz1 .i64 .i64 n (by
  rw [hz2]
  calc 4 * n ≤ 4 * 4398046511104:=Nat.mul_le_mul_left _ hn
   _ ≤ _:=by decide) (by unfold maxLen; omega) (Nat.le_refl _)
 refine ⟨_,w',hrun,?_,(Below.refl _ _).grown r2 (Nat.le_refl _) (by intro k hk; cases hk)⟩
 rw [oneNat.hz,toList_madeCells_one,limbs_zeros,Nat.mul_one] at r1
 unfold OwnN OwnV
 rw [limbs_len,List.length_replicate]
 exact r1
theorem take_norm {l : List Nat} {m : Nat} (hm : m + 1 ≤ l.length) (h0 : l.getD m 0 = 0) : natV (l.take m) = natV (l.take (m + 1)):=by
 rw [show l.take (m + 1) = l.take m ++ [l.getD m 0] by
  rw [List.take_add_one]; simp [List.getD,show m < l.length by omega],natV_snoc,h0]
 simp
theorem norm_take {l : List Nat} {m : Nat} (hm : m + 1 ≤ l.length) (h0 : l.getD m 0 ≠ 0) : Norm (l.take (m + 1)):=by
 intro hne
 rw [List.getLast_eq_getElem]
 have hl : (l.take (m + 1)).length = m + 1:=by simp; omega
 have e : (l.take (m + 1))[(l.take (m + 1)).length - 1]'(by omega) = l.getD m 0:=by
  simp [List.getD,show m < l.length by omega,show min (m + 1) l.length - 1 = m by omega]
 rwa [e]
set_option maxHeartbeats 400000 in
theorem norm_any (v : Value) (l : List Nat) (w : World) (h : LimbsAt w v l) :
 Calls Tryz.prog 103 #[v] w fun e w' => ∃ m,m ≤ l.length ∧ e = .returned (cutAt v m) ∧ Norm (l.take m) ∧ natV (l.take m) = natV l ∧ w = w':=by
 have hml:=h.len_le
 have hv : v = cutAt v l.length:=by
  obtain ⟨a,cap,rfl,_⟩:=h
  rw [limbs_len]; rfl
 have hnat : natV (l.take l.length) = natV l:=by rw [List.take_length]
 replace h:=Lib.hid h
 replace hv:=Lib.hid hv
 replace hnat:=Lib.hid hnat
 go_enter Tryz.func103,Tryz.ntmps103
 go_wp2
 go_loopw [0] (fun av wr => ∃ (m : Nat) (u : Value),u = av ∧ m ≤ l.length ∧ u = cutAt v m ∧ natV (l.take m) = natV l ∧ wr = w) (fun av _ => lenV av)
 case atStart => exact ⟨l.length,v,rfl,Nat.le_refl _,hv.out,hnat.out,rfl⟩
 case round =>
  obtain ⟨m,u,rfl,hm,rfl,hval,rfl⟩:=hrel
  have hu:=h.out.cut hm
  have hul:=hu.len
  rw [List.length_take,Nat.min_eq_left hm] at hul
  obtain ⟨ua,un,uc,hus⟩:=hu.shape
  have hun : un = m:=by
   have:=hu
   obtain ⟨a,cap,e,_⟩:=this
   rw [hus] at e; injection e with _ e _; rw [e,limbs_len,List.length_take,Nat.min_eq_left hm]
  subst hun
  by_cases hz : un = 0
  ·subst hz
   go_wp2
   go_ret
   exact ⟨0,Nat.zero_le _,rfl,fun hne => absurd (by simp) hne,hval,rfl⟩
  ·obtain ⟨m,rfl⟩ : ∃ m,un = m + 1:=⟨un - 1,by omega⟩
   have hcm : ((m + 1 : Nat) : Int) - 1 = (m : Int):=by omega
   have iX:=hu.idx m (by rw [List.length_take]; omega)
   have cX:=hu.cell m (by rw [List.length_take]; omega)
   have hgd : (l.take (m + 1)).getD m 0 = l.getD m 0:=by
    simp [List.getD]
   rw [hgd] at cX
   have fr:=fun w' => hu.front m (by rw [List.length_take]; omega) w'
   have hcc : cutAt (cutAt v (m + 1)) m = cutAt v m:=by cases v <;> rfl
   rw [hcc] at fr
   obtain ⟨x,hx⟩ : ∃ x,l.getD m 0 = x:=⟨_,rfl⟩
   rw [hx] at cX
   have hx':=Lib.hid hx
   obtain ⟨p,hp⟩ : ∃ p,valAt (cutAt v (m + 1)) m = p:=⟨_,rfl⟩
   rw [hp] at iX cX
   obtain ⟨q,hq⟩ : ∃ q,cutAt v (m + 1) = q:=⟨_,rfl⟩
   rw [hq] at iX fr hul hu ⊢
   have hq':=Lib.hid hq
   have hp':=Lib.hid hp
   clear hx hp hq hus hgd
   by_cases h0 : x = 0
   ·subst h0
    go_wp2
    go_roundw
    case rel => exact ⟨m,_,rfl,by omega,rfl,by rw [take_norm hm hx'.out]; exact hval,by first | rfl | trivial⟩
    case measure => rw [lenV_cut h.out.shape,← hq'.out,lenV_cut h.out.shape]; omega
   ·have hne : ((x : Int) == 0) = false:=by rw [beq_eq_false_iff_ne]; omega
    go_wp2
    go_ret
    exact ⟨m + 1,hm,by show Ending.returned q = _; rw [hq'.out],norm_take hm (by rw [hx'.out]; exact h0),hval,rfl⟩
/-- v is a number that this call made. -/
def NumIs (B : Nat) (w : World) (v : Value) (n : Nat) : Prop:=∃ l,OwnN B w v l ∧ Limbs l ∧ Norm l ∧ natV l = n
theorem NumIs.below {B : Nat} {w w' : World} {v : Value} {n : Nat} (h : NumIs B w v n) (hb : Below w.heap.size w w') : NumIs B w' v n:=by
 obtain ⟨l,h1,h2⟩:=h; exact ⟨l,h1.below hb,h2⟩
theorem NumIs.mono {B B' : Nat} {w : World} {v : Value} {n : Nat} (h : NumIs B w v n) (hB : B' ≤ B) : NumIs B' w v n:=by
 obtain ⟨l,h1,h2⟩:=h; exact ⟨l,h1.mono hB,h2⟩
theorem OwnN.lit2 (w : World) (x y : Nat) : OwnN w.heap.size (w.alloc (.cells #[.int .u32 (x : Int),.int .u32 (y : Int)] 153)) (.slice (some ⟨w.heap.size,0,none⟩) 2 2) [x,y] :=
 World.ownsRow_lit (base:=w.heap.size) (e:=153) (size:=1) w #[.int .u32 (x : Int),.int .u32 (y : Int)] 2 (Nat.le_refl _) (by decide) rfl
theorem limbs_take_mem {l : List Nat} (h : Limbs l) (m : Nat) : Limbs (l.take m):=fun x hx => h x (List.mem_of_mem_take hx)
/-- norm of what is one's own. -/
theorem norm_own (B : Nat) (v : Value) (l : List Nat) (n : Nat) (w : World) (h : OwnN B w v l) (hl : Limbs l) (hn : natV l = n) :
 Calls Tryz.prog 103 #[v] w fun e w' => (∃ x,e = .returned x ∧ NumIs B w x n) ∧ w = w':=by
 refine (norm_any v l w h.at).mono ?_
 rintro e w' ⟨m,hm,rfl,h1,h2,rfl⟩
 exact ⟨⟨_,rfl,_,h.cut hm,limbs_take_mem hl m,h1,by rw [h2,hn]⟩,rfl⟩
set_option maxHeartbeats 400000 in
theorem nat_from (x : Nat) (w : World) (hx : x < 18446744073709551616) :
 Calls Tryz.prog 102 #[.int .u64 (x : Int)] w (Ret1 (fun v w' => NumIs w.heap.size w' v x) w):=by
 have e1 : (x : Int) % 4294967296 = ((x % 4294967296 : Nat) : Int):=by omega
 have e2 : (x : Int) / 4294967296 = ((x / 4294967296 : Nat) : Int):=by omega
 have b0:=(Below.refl w.heap.size w).alloc (Nat.le_refl _) (.cells #[.int .u32 ((x % 4294967296 : Nat) : Int),.int .u32 ((x / 4294967296 : Nat) : Int)] 153)
 have ho:=OwnN.lit2 w (x % 4294967296) (x / 4294967296)
 replace e1:=Lib.hid e1
 replace e2:=Lib.hid e2
 go_enter Tryz.func102,Tryz.ntmps102
 go_wp2_with fail
 rw [e1.out,e2.out]
 refine (norm_own w.heap.size _ _ x _ ho ?_ ?_).mono ?_
 ·intro z hz
  simp at hz
  rcases hz with rfl | rfl <;> omega
 ·simp [natV]; omega
 ·rintro e w' ⟨⟨v,rfl,hv⟩,rfl⟩
  replace hv:=Lib.hid hv
  go_wp2
  go_ret
  exact ⟨_,rfl,b0,hv.out⟩
set_option maxHeartbeats 400000 in
theorem add32_any (x y c : Nat) (w : World) (hx : x < 4294967296) (hy : y < 4294967296) (hc : c ≤ 1) :
 Calls Tryz.prog 128 #[.int .u32 (x : Int),.int .u32 (y : Int),.int .u32 (c : Int)] w fun e w' => e = .returned (.tuple #[.int .u32 (((x + y + c) % 4294967296 : Nat) : Int),.int .u32 (((x + y + c) / 4294967296 : Nat) : Int)]) ∧ w = w':=by
 have e1 : ((x : Int) + (y : Int) + (c : Int)) % 4294967296 = (((x + y + c) % 4294967296 : Nat) : Int):=by omega
 have e2 : ((x : Int) + (y : Int) + (c : Int)) / 4294967296 = (((x + y + c) / 4294967296 : Nat) : Int):=by omega
 replace e1:=Lib.hid e1
 replace e2:=Lib.hid e2
 go_enter Tryz.func128,Tryz.ntmps128
 go_wp2
 rw [e1.out,e2.out]
 go_ret2
 exact ⟨rfl,rfl⟩
theorem or_hi (x y : Nat) (hx : x < 4294967296) (hy : y < 4294967296) : bits .or .u64 ((x : Int) * 4294967296) (y : Int) = ((x * 4294967296 + y : Nat) : Int):=by
 have:=bits_or_u64_nat (x * 4294967296) y (by omega) (by omega)
 rw [show ((x : Int) * 4294967296) = ((x * 4294967296 : Nat) : Int) by simp,this]
 have h:=Nat.two_pow_add_eq_or_of_lt (i:=32) (b:=y) (by omega) x
 rw [show (4294967296 : Nat) = 2 ^ 32 by decide,Nat.mul_comm x,h]
set_option maxHeartbeats 400000 in
theorem div32_any (x y d : Nat) (w : World) (hx : x < d) (hy : y < 4294967296) (hd : d < 4294967296) :
 Calls Tryz.prog 129 #[.int .u32 (x : Int),.int .u32 (y : Int),.int .u32 (d : Int)] w fun e w' => e = .returned (.tuple #[.int .u32 (((x * 4294967296 + y) / d : Nat) : Int),.int .u32 (((x * 4294967296 + y) % d : Nat) : Int)]) ∧ ∃ n,w' = w.drewN n:=by
 have d1 : ((d : Int) != 0) = true:=by rw [bne_iff_ne]; omega
 have d0 : ((d : Int) == 0) = false:=by rw [beq_eq_false_iff_ne]; omega
 have d2 : decide (d ≤ x) = false:=decide_eq_false (by omega)
 have hor:=or_hi x y (by omega) hy
 have hdz : ¬ d = 0:=by omega
 obtain ⟨z,hz⟩ : ∃ z,x * 4294967296 + y = z:=⟨_,rfl⟩
 rw [hz] at hor ⊢
 have hzl : z < 18446744073709551616:=by omega
 have hzq : z / d < 4294967296:=by rw [← hz]; exact over_limb hx hy
 have hzr : z % d < d:=Nat.mod_lt _ (by omega)
 obtain ⟨q,hq⟩ : ∃ q,z / d = q:=⟨_,rfl⟩
 obtain ⟨s,hs⟩ : ∃ s,z % d = s:=⟨_,rfl⟩
 have f1 : (z : Int).tdiv (d : Int) = (q : Int):=by rw [Int.tdiv_eq_ediv_of_nonneg (by omega),← Int.natCast_ediv,hq]
 have f2 : (z : Int) / (d : Int) = (q : Int):=by rw [← Int.natCast_ediv,hq]
 have f3 : (z : Int).tmod (d : Int) = (s : Int):=by rw [Int.tmod_eq_emod_of_nonneg (by omega),← Int.natCast_emod,hs]
 have f4 : (z : Int) % (d : Int) = (s : Int):=by rw [← Int.natCast_emod,hs]
 rw [hq] at hzq ⊢
 rw [hs] at hzr ⊢
 replace hz:=Lib.hid hz
 replace hq:=Lib.hid hq
 replace hs:=Lib.hid hs
 go_enter Tryz.func129,Tryz.ntmps129
 go_upto_region 4 with fail
 go_quiet (fail)
 go_wp2
 go_ret2
 exact ⟨rfl,_,rfl⟩
end Go.Proofs.YtjiadfblphdchaaGreatDoor
