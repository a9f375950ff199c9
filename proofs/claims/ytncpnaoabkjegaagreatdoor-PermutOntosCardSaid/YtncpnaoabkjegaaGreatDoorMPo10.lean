/-
  Proved: the law edenlaw19.PermutOntos as its tied card: it returns true and never panics, for any rule. No conditions beyond the card's own.
  Walk: inject.One: whether a rule is one to one; if not, the two rows.
  Plain mathematics of layer 20: the table that was tried takes every word's image back; if none was found, two words show why.
  Plain mathematics of layer 20: the inverse that was found is a rule; there and back, back and there.
  Plain mathematics: the least radius of a rule.
  Plain mathematics of layer 20: the inverse is the only one of its radius, is as narrow as can be, and has the rule as its inverse.
  Plain mathematics: the garden of Eden theorem: a rule that is onto has no twins (the other way is onto_of_no_twins).
  Plain mathematics of layer 26: the inverse's radius, the orphans and the sums of a mirrored rule.
  Plain mathematics of layer 19: a rule that permutes at one side has no twins and is onto; one that permutes at both sides is not one to one.
  Walk: edenlaw19.PermutOntos returns true.
  Opening what a call is handed: []int, api.Rule, the package-level errors.
  From a card's list of laid variables that holds the handle of the type error: the package errors and errors.errorType.
-/
import Derived.Test.YtncpnaoabkjegaaGreatDoorMPo9
import Derived.Test.YtncpnaoabkjegaaGreatDoorRows
import Derived.ProofKit
import Derived.OpenShut
import Derived.ShutString
import Derived.ChangeOld
import Derived.LaidMore
import Derived.Stop.Joined
import Derived.Stop.LaidErr
import Derived.Lib.SmallJoins
import Derived.LaidHandle
import Derived.Test.YtncpnaoabkjegaaGreatDoorCards
import Derived.Test.YtncpnaoabkjegaaGreatDoorTie
import Derived.SevenTiedAt
namespace Go.Proofs.YtncpnaoabkjegaaGreatDoor
open Go.RowKit
set_option maxRecDepth 100000
/-- The row that holds nothing. -/
abbrev zRow : Value:=.agg #[.int .i64 0,.slice none 0 0,.slice none 0 0,.slice none 0 0]
section
variable {K N : Nat} {T : List Int}
theorem goes_pairG {x y : Nat} (hN : 0 < N) (h : Goes (adjOf (pairG K N T)) x y) (hx : x < N * N) : Goes (pairL K N T) x y ∧ y < N * N:=by
 induction h with
 | refl => exact ⟨.refl _,hx⟩
 | step h hz ih =>
  rw [pairG_adj ih.2] at hz
  exact ⟨.step ih.1 hz,((mem_pairL hN).1 hz).lt hN⟩
theorem live_pairG (hN : 0 < N) {v : Nat} (hv : v < N * N) : IsLive (N * N) (adjOf (pairG K N T)) v ↔ LiveP (N * N) (pairL K N T) v:=by
 constructor
 ·rintro ⟨⟨u,hu,⟨t,ht,h1⟩,h2⟩,⟨u',hu',⟨t',ht',h1'⟩,h2'⟩⟩
  rw [pairG_adj hu] at ht
  rw [pairG_adj hu'] at ht'
  exact ⟨⟨u,hu,⟨t,ht,(goes_pairG hN h1 (((mem_pairL hN).1 ht).lt hN)).1⟩,(goes_pairG hN h2 hu).1⟩,⟨u',hu',⟨t',ht',(goes_pairG hN h1' (((mem_pairL hN).1 ht').lt hN)).1⟩,(goes_pairG hN h2' hv).1⟩⟩
 ·rintro ⟨⟨u,hu,⟨t,ht,h1⟩,h2⟩,⟨u',hu',⟨t',ht',h1'⟩,h2'⟩⟩
  exact ⟨⟨u,hu,⟨t,by rw [pairG_adj hu]; exact ht,(pairG_goes hN h1 (((mem_pairL hN).1 ht).lt hN)).1⟩,(pairG_goes hN h2 hu).1⟩,⟨u',hu',⟨t',by rw [pairG_adj hu']; exact ht',(pairG_goes hN h1' (((mem_pairL hN).1 ht').lt hN)).1⟩,(pairG_goes hN h2' hv).1⟩⟩
end
theorem wk_notOne {K R : Nat} {T : List Int} (hK : 1 ≤ K) : NotOne K (wkR R) (wkT K R T) ↔ NotOne K R T:=by
 unfold wkR wkT
 by_cases e : R = 0
 ·subst e; rw [if_pos rfl,if_pos rfl]; exact notOne_wide (R:=0) (d:=1) hK
 ·rw [if_neg e,if_neg e]
/-- The live pairs that are apart. -/
def oddL (K R : Nat) (L : List Nat) : List Nat:=L.filter fun p => !decide (Diag (pw K (2 * wkR R)) p)
/-- Whether they tell that the rule is one to one. -/
theorem odd_none {K R : Nat} {T : List Int} {L : List Nat} (hr : RuleOk K R T) (h : LiveList (pw K (2 * wkR R) * pw K (2 * wkR R)) (adjOf (pairG K (pw K (2 * wkR R)) (wkT K R T))) L) : oddL K R L = [] ↔ ¬ NotOne K R T:=by
 have hN:=pw_pos (K:=K) (2 * wkR R) hr.k1
 rw [← wk_notOne hr.k1]
 constructor
 ·intro he hno
  obtain ⟨q,h1,h2,h3⟩:=live_of_notOne (wk_ok hr) (wk_pos R) hno
  have : q ∈ oddL K R L:=List.mem_filter.2 ⟨(h.mem q).2 ⟨h1,(live_pairG (by omega) h1).2 h2⟩,by simp [h3]⟩
  rw [he] at this; cases this
 ·intro hno
  apply Classical.byContradiction
  intro he
  obtain ⟨q,hq⟩:=List.exists_mem_of_ne_nil _ he
  obtain ⟨h1,h2⟩:=List.mem_filter.1 hq
  obtain ⟨h3,h4⟩:=(h.mem q).1 h1
  exact hno (notOne_of_live (wk_ok hr) (wk_pos R) ((live_pairG (by omega) h3).1 h4) (by simpa using h2))
/-- The witness: the first of them. -/
def OneIs (K R : Nat) (T : List Int) (L C Q : List Nat) : Prop :=
 ∃ l v m,LiveList (pw K (2 * wkR R) * pw K (2 * wkR R)) (adjOf (pairG K (pw K (2 * wkR R)) (wkT K R T))) l ∧ oddL K R l = v :: m ∧ WitIs (pairG K (pw K (2 * wkR R)) (wkT K R T)) v L C Q
/-- What One leaves at a small rule. -/
def OnePost (w : World) (K R : Nat) (T : List Int) (yes x y e : Value) (w' : World) : Prop :=
 e = .nilIface ∧ ((yes = .bool true ∧ x = zRow ∧ y = zRow ∧ ¬ NotOne K R T) ∨ (yes = .bool false ∧ NotOne K R T ∧ ∃ L C Q aL aC aQ bL bC bQ,OneIs K R T L C Q ∧ x = .agg #[.int .i64 0,aL,aC,aQ] ∧ y = .agg #[.int .i64 0,bL,bC,bQ] ∧ ∃ f,Rows w.heap.size w' f ∧
  f (1,0) = some (rowI aL (sideA K (pw K (2 * wkR R)) L)) ∧ f (1,1) = some (rowI bL (sideB K (pw K (2 * wkR R)) L)) ∧ f (2,0) = some (rowI aC (sideA K (pw K (2 * wkR R)) C)) ∧ f (2,1) = some (rowI bC (sideB K (pw K (2 * wkR R)) C)) ∧ f (3,0) = some (rowI aQ (sideA K (pw K (2 * wkR R)) Q)) ∧ f (3,1) = some (rowI bQ (sideB K (pw K (2 * wkR R)) Q))))
set_option maxHeartbeats 4000000 in
theorem one_ok (r : Nat → Addr) (K R : Nat) (va : Option Addr) (vn vc : Nat) (T : List Int) (w : World) (hg : Glob r w) (h : IntsAt w (.slice va vn vc) T) (hr : RuleOk K R T) (hl : T.length ≤ 256) :
 Calls Tryz.prog 16 #[.agg #[.int .i64 K,.int .i64 R,.slice va vn vc]] w (Ret4 (OnePost w K R T) w):=by
 have bb:=belowAlloc w (.cells #[.int .i64 K,.int .i64 R,.slice va vn vc] 24)
 have q : Box3 (w.alloc (.cells #[.int .i64 K,.int .i64 R,.slice va vn vc] 24)) w.heap.size (.int .i64 K) (.int .i64 R) (.slice va vn vc):=by simp [Box3,go_sem]
 obtain ⟨f0,R0,n02,o02⟩:=((Rows.void w.heap.size w).below bb).box4 (0,2) (by simp) 36 (.int .i64 0) (.slice none 0 0) (.slice none 0 0) (.slice none 0 0)
 obtain ⟨f1,R1,n03,o03⟩:=R0.box4 (0,3) (by simp; omega) 36 (.int .i64 0) (.slice none 0 0) (.slice none 0 0) (.slice none 0 0)
 replace n02:=(o03 (0,2) (by decide)).trans n02
 simp only [World.size_alloc] at n02 n03
 have b0 : Below w.heap.size w (((w.alloc (.cells #[.int .i64 K,.int .i64 R,.slice va vn vc] 24)).alloc (.cells #[.int .i64 0,.slice none 0 0,.slice none 0 0,.slice none 0 0] 36)).alloc (.cells #[.int .i64 0,.slice none 0 0,.slice none 0 0,.slice none 0 0] 36)):=Below.step bb (Below.step (belowAlloc _ _) (belowAlloc _ _))
 replace q:=q.below (Below.step (belowAlloc _ (.cells #[.int .i64 0,.slice none 0 0,.slice none 0 0,.slice none 0 0] 36)) (belowAlloc _ (.cells #[.int .i64 0,.slice none 0 0,.slice none 0 0,.slice none 0 0] 36)))
 clear o02 o03 R0 bb
 have hk1:=hr.k1
 have hokW:=wk_ok hr
 have hlW:=wk_small hr hl
 have hRW:=wk_pos R
 have hN81:=nodes_le hokW hRW hlW
 have hN1:=pw_pos (K:=K) (2 * wkR R) hk1
 obtain ⟨hdiv,hlen⟩:=hokW.half
 have hNK : pw K (2 * wkR R) * K ≤ 256:=by rw [← hlen]; exact hlW
 have hck:=pairG_check (K:=K) (N:=pw K (2 * wkR R)) (T:=wkT K R T) (by omega) hN81 hNK
 have hokG : GraphOk (pairG K (pw K (2 * wkR R)) (wkT K R T)):=pairG_ok (by omega)
 have hsz : ∀ k,k < (pairG K (pw K (2 * wkR R)) (wkT K R T)).length → ((pairG K (pw K (2 * wkR R)) (wkT K R T)).getD k []).length ≤ 17592186044416:=fun k hk => by
  rw [pairG_len] at hk
  rw [pairG_row hk,castI_len]
  have:=pairL_len K (pw K (2 * wkR R)) (wkT K R T) k
  have h4:=hr.k4
  have:=Nat.mul_le_mul h4 h4
  omega
 have hgraph:=fun (w' : World) (hgl : Glob r w') (hT : IntsAt w' (.slice va vn vc) T) => pgraph_ok r K R va vn vc T w' hgl hT hr hl
 have hapart:=fun (w' : World) (hgl : Glob r w') (hT : IntsAt w' (.slice va vn vc) T) => papart_ok r K R va vn vc T w' hgl hT hr hl
 have hlenG:=pairG_len (K:=K) (N:=pw K (2 * wkR R)) (T:=wkT K R T)
 have hodd:=fun (L : List Nat) (hL : LiveList (pw K (2 * wkR R) * pw K (2 * wkR R)) (adjOf (pairG K (pw K (2 * wkR R)) (wkT K R T))) L) => odd_none hr hL
 have hone : ∀ (l : List Nat) (v : Nat) (m L C Q : List Nat),LiveList (pw K (2 * wkR R) * pw K (2 * wkR R)) (adjOf (pairG K (pw K (2 * wkR R)) (wkT K R T))) l → oddL K R l = v :: m → WitIs (pairG K (pw K (2 * wkR R)) (wkT K R T)) v L C Q → OneIs K R T L C Q:=fun l v m L C Q h1 h2 h3 => ⟨l,v,m,h1,h2,h3⟩
 have hsub : ∀ (L : List Nat) (v : Nat) (m : List Nat),oddL K R L = v :: m → v ∈ L:=fun L v m e => (List.mem_filter.1 (show v ∈ oddL K R L by rw [e]; exact List.mem_cons_self)).1
 have hwit:=fun (ga : Option Addr) (gc v : Nat) (w' : World) (hgl : Glob r w') (hT : ListsAt w' (.slice ga (pairG K (pw K (2 * wkR R)) (wkT K R T)).length gc) (pairG K (pw K (2 * wkR R)) (wkT K R T))) (hv : v < (pairG K (pw K (2 * wkR R)) (wkT K R T)).length) (hli : IsLive (pairG K (pw K (2 * wkR R)) (wkT K R T)).length (adjOf (pairG K (pw K (2 * wkR R)) (wkT K R T))) v) => witness_ok r K (pw K (2 * wkR R)) ga gc _ v w' hgl hT hsz hck hokG hlenG hN1 hN81 hk1 hv hli
 replace hgraph:=Hd hgraph
 replace hapart:=Hd hapart
 replace hodd:=Hd hodd
 replace hone:=Hd hone
 replace hsub:=Hd hsub
 replace hwit:=Hd hwit
 replace hlenG:=Hd hlenG
 clear hdiv hlen hNK hck hokG hsz hokW hlW hRW hN81 hl
 replace hg:=Hd (hg.below b0)
 replace h:=Hd (h.below b0)
 replace hr:=Hd hr
 obtain ⟨⟨z0,z1,z2⟩,-,-,-⟩:=q
 have q0:=z0
 replace R1:=Hd R1
 replace n02:=Hd n02
 replace n03:=Hd n03
 replace b0:=Hd b0
 go_enter Tryz.func16,Tryz.ntmps16
 go_wp2_with fail
 refine (hgraph.out _ hg.out h.out).mono ?_
 rintro e w1 ⟨gv,y,rfl,b1,rfl,fg,vals,hrows,hwn⟩
 have hL : ListsAt w1 gv (pairG K (pw K (2 * wkR R)) (wkT K R T)):=hwn.lists hrows
 obtain ⟨ga,gc,rfl⟩:=hL.shape
 have c0 : w1.cell? ⟨w.heap.size,0,none⟩ = some (.int .i64 K):=by rw [b1.cell (World.block_lt_of_cell? _ _ z0)]; exact z0
 have c1 : w1.cell? ⟨w.heap.size,1,none⟩ = some (.int .i64 R):=by rw [b1.cell (World.block_lt_of_cell? _ _ z1)]; exact z1
 have c2 : w1.cell? ⟨w.heap.size,2,none⟩ = some (.slice va vn vc):=by rw [b1.cell (World.block_lt_of_cell? _ _ z2)]; exact z2
 have b01:=Below.step b0.out b1
 replace hL:=Hd hL
 clear hrows hwn z0 z1 z2
 rw [hlenG.out]
 generalize hM : pw K (2 * wkR R) * pw K (2 * wkR R) = M at *
 replace hM:=Hd hM
 go_wp2_with fail
 refine (hapart.out w1 (hg.out.below b1) (h.out.below b1)).mono ?_
 rintro e w2 ⟨av,y,rfl,b2,rfl,L,hLL,how⟩
 have how2 : OwnI w1.heap.size w2 av (castI (oddL K R L)):=how
 clear how
 have hnone:=hodd.out L hLL
 have b12:=Below.step b1 b2
 have b02:=Below.step b01 b2
 have R2:=R1.out.below b12
 have k0 : w2.cell? ⟨w.heap.size,0,none⟩ = some (.int .i64 K):=by rw [b2.cell (World.block_lt_of_cell? _ _ c0)]; exact c0
 have lA:=how2.at.len
 rw [castI_len] at lA
 have hsubL:=hsub.out L
 have honeL:=fun v m L' C' Q' e k => hone.out L v m L' C' Q' hLL e k
 have hmemL:=hLL.mem
 replace hLL:=Hd hLL
 replace hsubL:=Hd hsubL
 replace honeL:=Hd honeL
 replace hmemL:=Hd hmemL
 clear c0 c1 c2
 cases hod : oddL K R L with
 | nil =>
  rw [hod] at hnone how2 lA
  have hno:=hnone.1 rfl
  obtain ⟨aa,an,ac,rfl⟩:=how2.at.shape
  replace n02:=n02.out
  replace n03:=n03.out
  obtain ⟨g0,g1,g2,g3⟩:=R2.cells4 n02
  obtain ⟨h0,h1,h2,h3⟩:=R2.cells4 n03
  have fg0:=R2.frz4 n02 0
  have fh0:=R2.frz4 n03 0
  have fg1:=R2.frz4 n02 1
  have fh1:=R2.frz4 n03 1
  have fg2:=R2.frz4 n02 2
  have fh2:=R2.frz4 n03 2
  have fg3:=R2.frz4 n02 3
  have fh3:=R2.frz4 n03 3
  have c2:=R2.cells4 n02
  have c3:=R2.cells4 n03
  have lg0:=(R2.low4 n02).1
  have lh0:=(R2.low4 n03).1
  obtain ⟨f3,R3,m02,o3⟩:=R2.all4 n02 (.int .i64 0) (.slice none 0 0) (.slice none 0 0) (.slice none 0 0)
  have b15:=Below.all4 (g:=w.heap.size + 1) b02 lg0 (.int .i64 0) (.slice none 0 0) (.slice none 0 0) (.slice none 0 0)
  have b16:=Below.all4 (g:=w.heap.size + 2) b15 lh0 (.int .i64 0) (.slice none 0 0) (.slice none 0 0) (.slice none 0 0)
  replace hno:=Hd hno
  replace hod:=Hd hod
  replace how2:=Hd how2
  replace R2:=Hd R2
  replace R3:=Hd R3
  replace n02:=Hd n02
  replace n03:=Hd n03
  replace m02:=Hd m02
  clear o3 c2 c3 hnone
  go_wp2
  (try simp only [Exit.inBlock,Exit.then])
  refine bodyPost_ret (v:=.tuple #[.bool true,zRow,zRow,.nilIface]) (by simp [results,Tryz.results16,go_sem,g0,g1,g2,g3,h0,h1,h2,h3]) rfl ?_
  exact ⟨_,_,_,_,rfl,b16,rfl,.inl ⟨rfl,rfl,rfl,hno.out⟩⟩
 | cons v m =>
  rw [hod] at hnone how2 lA
  have hno : NotOne K R T:=Classical.byContradiction fun q => by have:=hnone.2 q; cases this
  obtain ⟨aa,an,ac,rfl⟩:=how2.at.shape
  have hvL:=hsubL.out v m hod
  obtain ⟨hvM,hvl⟩:=(hmemL.out v).1 hvL
  have iA : ∀ w',(Instr.indexAt 22 (.slice aa an ac) (.int .i64 0)).run Tryz.prog w' = .ok (.pointer (some (valAt (.slice aa an ac) 0))) w':=fun w' => how2.at.idx 0 (by simp [castI]) w'
  have cA:=how2.at.cellD 0 (by simp [castI])
  rw [show (castI (v :: m)).getD 0 0 = (v : Int) from rfl] at cA
  have e0 : (((v :: m).length : Nat) : Int) = (m.length : Int) + 1:=by simp
  rw [e0] at lA
  have e1 : ((m.length : Int) + 1 == 0) = false:=by rw [beq_eq_false_iff_ne]; omega
  have hwv:=fun (w' : World) (hgl : Glob r w') (hT : ListsAt w' (.slice ga M gc) (pairG K (pw K (2 * wkR R)) (wkT K R T))) => hwit.out ga gc v w' hgl (by rw [hlenG.out]; exact hT) (by rw [hlenG.out]; exact hvM) (by rw [hlenG.out]; exact hvl)
  rw [hlenG.out] at hwv
  have hG2:=hg.out.below b12
  have hL2 : ListsAt w2 (.slice ga M gc) (pairG K (pw K (2 * wkR R)) (wkT K R T)):=by
   have:=hL.out.below b2
   rwa [hlenG.out] at this
  replace hwv:=Hd hwv
  replace hG2:=Hd hG2
  replace hL2:=Hd hL2
  replace hno:=Hd hno
  replace hvL:=Hd hvL
  replace hvl:=Hd hvl
  replace how2:=Hd how2
  replace R2:=Hd R2
  clear hnone e0
  generalize valAt (.slice aa an ac) 0 = ra at *
  replace hod:=Hd hod
  go_upto_region 7 with fail
  go_cut [7,9,10] from 39 (fun s7 s9 s10 wx => s7 = .nilIface ∧ ∃ (g9 g10 : Nat) (L C Q : List Nat) (aL aC aQ bL bC bQ : Value) (f : Names),s9 = .pointer (some ⟨g9,0,none⟩) ∧ s10 = .pointer (some ⟨g10,0,none⟩) ∧ Below w.heap.size w wx ∧ WitIs (pairG K (pw K (2 * wkR R)) (wkT K R T)) v L C Q ∧ Rows w.heap.size wx f ∧ f (0,2) = some (box4 36 (w.heap.size + 1) [.int .i64 0,.slice none 0 0,.slice none 0 0,.slice none 0 0]) ∧ f (0,3) = some (box4 36 (w.heap.size + 2) [.int .i64 0,.slice none 0 0,.slice none 0 0,.slice none 0 0]) ∧ f (9,0) = some (box4 36 g9 [.int .i64 0,aL,aC,aQ]) ∧ f (9,1) = some (box4 36 g10 [.int .i64 0,bL,bC,bQ]) ∧ f (1,0) = some (rowI aL (sideA K (pw K (2 * wkR R)) L)) ∧ f (1,1) = some (rowI bL (sideB K (pw K (2 * wkR R)) L)) ∧ f (2,0) = some (rowI aC (sideA K (pw K (2 * wkR R)) C)) ∧ f (2,1) = some (rowI bC (sideB K (pw K (2 * wkR R)) C)) ∧ f (3,0) = some (rowI aQ (sideA K (pw K (2 * wkR R)) Q)) ∧ f (3,1) = some (rowI bQ (sideB K (pw K (2 * wkR R)) Q)))
  case first =>
   obtain ⟨W0,hW0⟩ : ∃ W0 : World,W0 = w2.drew:=⟨_,rfl⟩
   have b20 : Below w2.heap.size w2 W0:=by rw [hW0]; exact (Below.refl _ _).drew
   have bW0 : Below w.heap.size w W0:=by rw [hW0]; exact b02.drew
   have RW0 : Rows w.heap.size W0 f1:=by rw [hW0]; exact R2.out.drew
   have hB0:=bW0.size
   have hS0 : W0.cell? ⟨w.heap.size,0,none⟩ = some (.int .i64 K) ∧ W0.cell? ra = some (.int .i64 v):=by rw [hW0]; exact ⟨k0,cA⟩
   have hlow : w.heap.size < w2.heap.size ∧ ra.block < w2.heap.size:=⟨World.block_lt_of_cell? _ _ k0,World.block_lt_of_cell? _ _ cA⟩
   replace n02:=n02.out
   replace n03:=n03.out
   refine wp_region_noPanic ?_
   refine wp_region_any (by kernel_rfl) ?_
   change wpAny _ _ _ _ _ _ _ (World.drew _)
   rw [← hW0]
   clear hW0 k0 cA b02 R2
   refine wpAny_of_held (S:=fun w' => w'.cell? ⟨w.heap.size,0,none⟩ = some (.int .i64 K) ∧ w'.cell? ra = some (.int .i64 v)) _ _ _ _ ?_
   refine pqD 0 40 hS0 ?_
   refine pqD 1 41 hS0 ?_
   refine pqD 2 42 hS0 ?_
   refine pqD 3 43 hS0 ?_
   refine pqD 4 44 hS0 ?_
   refine pqD 5 45 hS0 ?_
   refine wpAnyH_ready (rs:=[6,11,12]) (by kernel_rfl) (by simp) (AllReadyH.cons rfl (fun KK hK => ?_) (AllReadyH.cons rfl (fun KK hK => ?_) (AllReadyH.cons rfl (fun KK hK => ?_) (AllReadyH.nil))))
   ·go_simp
    refine (hwv.out W0 (hG2.out.below b20) (hL2.out.below b20)).mono ?_
    rintro e W1 ⟨x,y,z,rfl,bb,hz,L',C',Q',aL,aC,aQ,bL,bC,bQ,hwi,rfl,rfl,fw,Rw,k10,k11,k20,k21,k30,k31⟩
    subst hz
    obtain ⟨aLa,aLn,aLc,haL⟩:=(Rw.ownI k10).at.shape
    subst haL
    obtain ⟨bLa,bLn,bLc,hbL⟩:=(Rw.ownI k11).at.shape
    subst hbL
    obtain ⟨aCa,aCn,aCc,haC⟩:=(Rw.ownI k20).at.shape
    subst haC
    obtain ⟨bCa,bCn,bCc,hbC⟩:=(Rw.ownI k21).at.shape
    subst hbC
    obtain ⟨aQa,aQn,aQc,haQ⟩:=(Rw.ownI k30).at.shape
    subst haQ
    obtain ⟨bQa,bQn,bQc,hbQ⟩:=(Rw.ownI k31).at.shape
    subst hbQ
    obtain ⟨f1,RW1,sel,oth⟩:=RW0.merge (fun i => decide (i.1 = 1 ∨ i.1 = 2 ∨ i.1 = 3)) bb Rw hB0
    replace n02:=(oth (0,2) (by decide)).trans n02
    replace n03:=(oth (0,3) (by decide)).trans n03
    have n10:=(sel (1,0) (by decide)).trans k10
    have n11:=(sel (1,1) (by decide)).trans k11
    have n20:=(sel (2,0) (by decide)).trans k20
    have n21:=(sel (2,1) (by decide)).trans k21
    have n30:=(sel (3,0) (by decide)).trans k30
    have n31:=(sel (3,1) (by decide)).trans k31
    replace hwi:=Hd hwi
    clear sel oth k10 k11 k20 k21 k30 k31 Rw
    have bW1:=bW0.trans (bb.mono hB0)
    have b21:=Below.step b20 bb
    have hB1:=bW1.size
    have hS1 : W1.cell? ⟨w.heap.size,0,none⟩ = some (.int .i64 K) ∧ W1.cell? ra = some (.int .i64 v):=⟨by rw [b21.cell hlow.1,← b20.cell hlow.1]; exact hS0.1,by rw [b21.cell hlow.2,← b20.cell hlow.2]; exact hS0.2⟩
    refine hK.out _ _ hS1 fun _ => ?_
    clear hK KK bb RW0
    refine pqD 7 39 hS1 ?_
    refine pqD 8 47 hS1 ?_
    refine pqD 9 48 hS1 ?_
    refine pqD 10 49 hS1 ?_
    refine wpAnyH_ready (rs:=[11,12]) (by kernel_rfl) (by simp) (AllReadyH.cons rfl (fun KK hK => ?_) (AllReadyH.cons rfl (fun KK hK => ?_) (AllReadyH.nil)))
    ·go_simp
     obtain ⟨f2,RW2,n90,oo⟩:=RW1.box4 (9,0) hB1 36 (.int .i64 0) (.slice none 0 0) (.slice none 0 0) (.slice none 0 0)
     replace n02:=(oo (0,2) (by decide)).trans n02
     replace n03:=(oo (0,3) (by decide)).trans n03
     replace n10:=(oo (1,0) (by decide)).trans n10
     replace n11:=(oo (1,1) (by decide)).trans n11
     replace n20:=(oo (2,0) (by decide)).trans n20
     replace n21:=(oo (2,1) (by decide)).trans n21
     replace n30:=(oo (3,0) (by decide)).trans n30
     replace n31:=(oo (3,1) (by decide)).trans n31
     have bb:=belowAlloc W1 (.cells #[.int .i64 0,.slice none 0 0,.slice none 0 0,.slice none 0 0] 36)
     obtain ⟨gb9,hgb9⟩ : ∃ g,W1.heap.size = g:=⟨_,rfl⟩
     obtain ⟨W2,hW2⟩ : ∃ W' : World,W1.alloc (.cells #[.int .i64 0,.slice none 0 0,.slice none 0 0,.slice none 0 0] 36) = W':=⟨_,rfl⟩
     have lgb9 : w2.heap.size ≤ gb9:=by rw [← hgb9]; exact b21.size
     have bW2:=bW1.trans (bb.mono hB1)
     have b22:=Below.step b21 bb
     rw [hW2] at RW2 bW2 b22 bb
     have hB2:=bW2.size
     have hS2 : W2.cell? ⟨w.heap.size,0,none⟩ = some (.int .i64 K) ∧ W2.cell? ra = some (.int .i64 v):=⟨by rw [b22.cell hlow.1,← b21.cell hlow.1]; exact hS1.1,by rw [b22.cell hlow.2,← b21.cell hlow.2]; exact hS1.2⟩
     rw [hW2,hgb9]
     rw [hgb9] at n90
     replace hW2:=Hd hW2
     replace hgb9:=Hd hgb9
     refine hK.out _ _ hS2 fun _ => ?_
     clear hK KK bb RW1 oo
     refine wpAnyH_ready (rs:=[12]) (by kernel_rfl) (by simp) (AllReadyH.cons rfl (fun KK hK => ?_) (AllReadyH.nil))
     ·go_simp
      obtain ⟨f3,RW3,n91,oo⟩:=RW2.box4 (9,1) hB2 36 (.int .i64 0) (.slice none 0 0) (.slice none 0 0) (.slice none 0 0)
      replace n02:=(oo (0,2) (by decide)).trans n02
      replace n03:=(oo (0,3) (by decide)).trans n03
      replace n10:=(oo (1,0) (by decide)).trans n10
      replace n11:=(oo (1,1) (by decide)).trans n11
      replace n20:=(oo (2,0) (by decide)).trans n20
      replace n21:=(oo (2,1) (by decide)).trans n21
      replace n30:=(oo (3,0) (by decide)).trans n30
      replace n31:=(oo (3,1) (by decide)).trans n31
      replace n90:=(oo (9,0) (by decide)).trans n90
      have bb:=belowAlloc W2 (.cells #[.int .i64 0,.slice none 0 0,.slice none 0 0,.slice none 0 0] 36)
      obtain ⟨gb10,hgb10⟩ : ∃ g,W2.heap.size = g:=⟨_,rfl⟩
      obtain ⟨W3,hW3⟩ : ∃ W' : World,W2.alloc (.cells #[.int .i64 0,.slice none 0 0,.slice none 0 0,.slice none 0 0] 36) = W':=⟨_,rfl⟩
      have lgb10 : w2.heap.size ≤ gb10:=by rw [← hgb10]; exact b22.size
      have bW3:=bW2.trans (bb.mono hB2)
      have b23:=Below.step b22 bb
      rw [hW3] at RW3 bW3 b23 bb
      have hB3:=bW3.size
      have hS3 : W3.cell? ⟨w.heap.size,0,none⟩ = some (.int .i64 K) ∧ W3.cell? ra = some (.int .i64 v):=⟨by rw [b23.cell hlow.1,← b22.cell hlow.1]; exact hS2.1,by rw [b23.cell hlow.2,← b22.cell hlow.2]; exact hS2.2⟩
      rw [hW3,hgb10]
      rw [hgb10] at n91
      replace hW3:=Hd hW3
      replace hgb10:=Hd hgb10
      refine hK.out _ _ hS3 fun _ => ?_
      clear hK KK bb RW2 oo
      obtain ⟨t0,t1,t2,t3⟩:=RW3.cells4 n90
      have ft0:=RW3.frz4 n90 0
      have ft1:=RW3.frz4 n90 1
      have ft2:=RW3.frz4 n90 2
      have ft3:=RW3.frz4 n90 3
      have lt:=(RW3.low4 n90)
      obtain ⟨f4,RW4,mm,oo⟩:=RW3.all4 n90 (.int .i64 0) (.slice aLa aLn aLc) (.slice aCa aCn aCc) (.slice aQa aQn aQc)
      replace n02:=(oo (0,2) (by decide)).trans n02
      replace n03:=(oo (0,3) (by decide)).trans n03
      replace n10:=(oo (1,0) (by decide)).trans n10
      replace n11:=(oo (1,1) (by decide)).trans n11
      replace n20:=(oo (2,0) (by decide)).trans n20
      replace n21:=(oo (2,1) (by decide)).trans n21
      replace n30:=(oo (3,0) (by decide)).trans n30
      replace n31:=(oo (3,1) (by decide)).trans n31
      replace n91:=(oo (9,1) (by decide)).trans n91
      clear n90
      have n90:=mm
      have bW4:=Below.all4 (g:=gb9) bW3 lt.1 (.int .i64 0) (.slice aLa aLn aLc) (.slice aCa aCn aCc) (.slice aQa aQn aQc)
      have b24:=Below.all4 (g:=gb9) b23 lgb9 (.int .i64 0) (.slice aLa aLn aLc) (.slice aCa aCn aCc) (.slice aQa aQn aQc)
      obtain ⟨W4,hW4⟩ : ∃ W' : World,(((W3.setCell ⟨gb9,0,none⟩ (.int .i64 0)).setCell ⟨gb9,1,none⟩ (.slice aLa aLn aLc)).setCell ⟨gb9,2,none⟩ (.slice aCa aCn aCc)).setCell ⟨gb9,3,none⟩ (.slice aQa aQn aQc) = W':=⟨_,rfl⟩
      rw [hW4] at RW4 bW4 b24
      have hS4 : W4.cell? ⟨w.heap.size,0,none⟩ = some (.int .i64 K) ∧ W4.cell? ra = some (.int .i64 v):=⟨by rw [b24.cell hlow.1,← b23.cell hlow.1]; exact hS3.1,by rw [b24.cell hlow.2,← b23.cell hlow.2]; exact hS3.2⟩
      replace hW4:=Hd hW4
      refine wpAnyH_ready (rs:=[13]) (by kernel_rfl) (by simp) (AllReadyH.cons rfl (fun KK hK => ?_) AllReadyH.nil)
      go_simp
      rw [hW4.out]
      refine hK.out _ _ hS4 fun _ => ?_
      clear hK KK t0 t1 t2 t3 ft0 ft1 ft2 ft3 mm oo lt RW3 hW4
      obtain ⟨t0,t1,t2,t3⟩:=RW4.cells4 n91
      have ft0:=RW4.frz4 n91 0
      have ft1:=RW4.frz4 n91 1
      have ft2:=RW4.frz4 n91 2
      have ft3:=RW4.frz4 n91 3
      have lt:=(RW4.low4 n91)
      obtain ⟨f5,RW5,mm,oo⟩:=RW4.all4 n91 (.int .i64 0) (.slice bLa bLn bLc) (.slice bCa bCn bCc) (.slice bQa bQn bQc)
      replace n02:=(oo (0,2) (by decide)).trans n02
      replace n03:=(oo (0,3) (by decide)).trans n03
      replace n10:=(oo (1,0) (by decide)).trans n10
      replace n11:=(oo (1,1) (by decide)).trans n11
      replace n20:=(oo (2,0) (by decide)).trans n20
      replace n21:=(oo (2,1) (by decide)).trans n21
      replace n30:=(oo (3,0) (by decide)).trans n30
      replace n31:=(oo (3,1) (by decide)).trans n31
      replace n90:=(oo (9,0) (by decide)).trans n90
      clear n91
      have n91:=mm
      have bW5:=Below.all4 (g:=gb10) bW4 lt.1 (.int .i64 0) (.slice bLa bLn bLc) (.slice bCa bCn bCc) (.slice bQa bQn bQc)
      have b25:=Below.all4 (g:=gb10) b24 lgb10 (.int .i64 0) (.slice bLa bLn bLc) (.slice bCa bCn bCc) (.slice bQa bQn bQc)
      obtain ⟨W5,hW5⟩ : ∃ W' : World,(((W4.setCell ⟨gb10,0,none⟩ (.int .i64 0)).setCell ⟨gb10,1,none⟩ (.slice bLa bLn bLc)).setCell ⟨gb10,2,none⟩ (.slice bCa bCn bCc)).setCell ⟨gb10,3,none⟩ (.slice bQa bQn bQc) = W':=⟨_,rfl⟩
      rw [hW5] at RW5 bW5 b25
      have hS5 : W5.cell? ⟨w.heap.size,0,none⟩ = some (.int .i64 K) ∧ W5.cell? ra = some (.int .i64 v):=⟨by rw [b25.cell hlow.1,← b24.cell hlow.1]; exact hS4.1,by rw [b25.cell hlow.2,← b24.cell hlow.2]; exact hS4.2⟩
      replace hW5:=Hd hW5
      refine wpAnyH_ready (rs:=[14]) (by kernel_rfl) (by simp) (AllReadyH.cons rfl (fun KK hK => ?_) AllReadyH.nil)
      go_simp
      rw [hW5.out]
      refine hK.out _ _ hS5 fun _ => ?_
      clear hK KK t0 t1 t2 t3 ft0 ft1 ft2 ft3 mm oo lt RW4 hW5
      refine pqD 15 7 hS5 ?_
      refine wpAnyH_done (by kernel_rfl) ?_ _
      refine NoPanic.normal ?_
      replace n02:=Hd n02
      replace n03:=Hd n03
      replace n90:=Hd n90
      replace n91:=Hd n91
      replace n10:=Hd n10
      replace n11:=Hd n11
      replace n20:=Hd n20
      replace n21:=Hd n21
      replace n30:=Hd n30
      replace n31:=Hd n31
      replace RW5:=Hd RW5
      go_wp2
      go_meet
      case rel => exact ⟨rfl,gb9,gb10,L',C',Q',_,_,_,_,_,_,f5,rfl,rfl,bW5,hwi.out,RW5.out,n02.out,n03.out,n90.out,n91.out,n10.out,n11.out,n20.out,n21.out,n30.out,n31.out⟩
    ·go_simp
     obtain ⟨f6,RW6,n91,oo⟩:=RW1.box4 (9,1) hB1 36 (.int .i64 0) (.slice none 0 0) (.slice none 0 0) (.slice none 0 0)
     replace n02:=(oo (0,2) (by decide)).trans n02
     replace n03:=(oo (0,3) (by decide)).trans n03
     replace n10:=(oo (1,0) (by decide)).trans n10
     replace n11:=(oo (1,1) (by decide)).trans n11
     replace n20:=(oo (2,0) (by decide)).trans n20
     replace n21:=(oo (2,1) (by decide)).trans n21
     replace n30:=(oo (3,0) (by decide)).trans n30
     replace n31:=(oo (3,1) (by decide)).trans n31
     have bb:=belowAlloc W1 (.cells #[.int .i64 0,.slice none 0 0,.slice none 0 0,.slice none 0 0] 36)
     obtain ⟨gb10,hgb10⟩ : ∃ g,W1.heap.size = g:=⟨_,rfl⟩
     obtain ⟨W6,hW6⟩ : ∃ W' : World,W1.alloc (.cells #[.int .i64 0,.slice none 0 0,.slice none 0 0,.slice none 0 0] 36) = W':=⟨_,rfl⟩
     have lgb10 : w2.heap.size ≤ gb10:=by rw [← hgb10]; exact b21.size
     have bW6:=bW1.trans (bb.mono hB1)
     have b26:=Below.step b21 bb
     rw [hW6] at RW6 bW6 b26 bb
     have hB6:=bW6.size
     have hS6 : W6.cell? ⟨w.heap.size,0,none⟩ = some (.int .i64 K) ∧ W6.cell? ra = some (.int .i64 v):=⟨by rw [b26.cell hlow.1,← b21.cell hlow.1]; exact hS1.1,by rw [b26.cell hlow.2,← b21.cell hlow.2]; exact hS1.2⟩
     rw [hW6,hgb10]
     rw [hgb10] at n91
     replace hW6:=Hd hW6
     replace hgb10:=Hd hgb10
     refine hK.out _ _ hS6 fun _ => ?_
     clear hK KK bb RW1 oo
     refine wpAnyH_ready (rs:=[11]) (by kernel_rfl) (by simp) (AllReadyH.cons rfl (fun KK hK => ?_) (AllReadyH.nil))
     ·go_simp
      obtain ⟨f7,RW7,n90,oo⟩:=RW6.box4 (9,0) hB6 36 (.int .i64 0) (.slice none 0 0) (.slice none 0 0) (.slice none 0 0)
      replace n02:=(oo (0,2) (by decide)).trans n02
      replace n03:=(oo (0,3) (by decide)).trans n03
      replace n10:=(oo (1,0) (by decide)).trans n10
      replace n11:=(oo (1,1) (by decide)).trans n11
      replace n20:=(oo (2,0) (by decide)).trans n20
      replace n21:=(oo (2,1) (by decide)).trans n21
      replace n30:=(oo (3,0) (by decide)).trans n30
      replace n31:=(oo (3,1) (by decide)).trans n31
      replace n91:=(oo (9,1) (by decide)).trans n91
      have bb:=belowAlloc W6 (.cells #[.int .i64 0,.slice none 0 0,.slice none 0 0,.slice none 0 0] 36)
      obtain ⟨gb9,hgb9⟩ : ∃ g,W6.heap.size = g:=⟨_,rfl⟩
      obtain ⟨W7,hW7⟩ : ∃ W' : World,W6.alloc (.cells #[.int .i64 0,.slice none 0 0,.slice none 0 0,.slice none 0 0] 36) = W':=⟨_,rfl⟩
      have lgb9 : w2.heap.size ≤ gb9:=by rw [← hgb9]; exact b26.size
      have bW7:=bW6.trans (bb.mono hB6)
      have b27:=Below.step b26 bb
      rw [hW7] at RW7 bW7 b27 bb
      have hB7:=bW7.size
      have hS7 : W7.cell? ⟨w.heap.size,0,none⟩ = some (.int .i64 K) ∧ W7.cell? ra = some (.int .i64 v):=⟨by rw [b27.cell hlow.1,← b26.cell hlow.1]; exact hS6.1,by rw [b27.cell hlow.2,← b26.cell hlow.2]; exact hS6.2⟩
      rw [hW7,hgb9]
      rw [hgb9] at n90
      replace hW7:=Hd hW7
      replace hgb9:=Hd hgb9
      refine hK.out _ _ hS7 fun _ => ?_
      clear hK KK bb RW6 oo
      obtain ⟨t0,t1,t2,t3⟩:=RW7.cells4 n90
      have ft0:=RW7.frz4 n90 0
      have ft1:=RW7.frz4 n90 1
      have ft2:=RW7.frz4 n90 2
      have ft3:=RW7.frz4 n90 3
      have lt:=(RW7.low4 n90)
      obtain ⟨f8,RW8,mm,oo⟩:=RW7.all4 n90 (.int .i64 0) (.slice aLa aLn aLc) (.slice aCa aCn aCc) (.slice aQa aQn aQc)
      replace n02:=(oo (0,2) (by decide)).trans n02
      replace n03:=(oo (0,3) (by decide)).trans n03
      replace n10:=(oo (1,0) (by decide)).trans n10
      replace n11:=(oo (1,1) (by decide)).trans n11
      replace n20:=(oo (2,0) (by decide)).trans n20
      replace n21:=(oo (2,1) (by decide)).trans n21
      replace n30:=(oo (3,0) (by decide)).trans n30
      replace n31:=(oo (3,1) (by decide)).trans n31
      replace n91:=(oo (9,1) (by decide)).trans n91
      clear n90
      have n90:=mm
      have bW8:=Below.all4 (g:=gb9) bW7 lt.1 (.int .i64 0) (.slice aLa aLn aLc) (.slice aCa aCn aCc) (.slice aQa aQn aQc)
      have b28:=Below.all4 (g:=gb9) b27 lgb9 (.int .i64 0) (.slice aLa aLn aLc) (.slice aCa aCn aCc) (.slice aQa aQn aQc)
      obtain ⟨W8,hW8⟩ : ∃ W' : World,(((W7.setCell ⟨gb9,0,none⟩ (.int .i64 0)).setCell ⟨gb9,1,none⟩ (.slice aLa aLn aLc)).setCell ⟨gb9,2,none⟩ (.slice aCa aCn aCc)).setCell ⟨gb9,3,none⟩ (.slice aQa aQn aQc) = W':=⟨_,rfl⟩
      rw [hW8] at RW8 bW8 b28
      have hS8 : W8.cell? ⟨w.heap.size,0,none⟩ = some (.int .i64 K) ∧ W8.cell? ra = some (.int .i64 v):=⟨by rw [b28.cell hlow.1,← b27.cell hlow.1]; exact hS7.1,by rw [b28.cell hlow.2,← b27.cell hlow.2]; exact hS7.2⟩
      replace hW8:=Hd hW8
      refine wpAnyH_ready (rs:=[13]) (by kernel_rfl) (by simp) (AllReadyH.cons rfl (fun KK hK => ?_) AllReadyH.nil)
      go_simp
      rw [hW8.out]
      refine hK.out _ _ hS8 fun _ => ?_
      clear hK KK t0 t1 t2 t3 ft0 ft1 ft2 ft3 mm oo lt RW7 hW8
      obtain ⟨t0,t1,t2,t3⟩:=RW8.cells4 n91
      have ft0:=RW8.frz4 n91 0
      have ft1:=RW8.frz4 n91 1
      have ft2:=RW8.frz4 n91 2
      have ft3:=RW8.frz4 n91 3
      have lt:=(RW8.low4 n91)
      obtain ⟨f9,RW9,mm,oo⟩:=RW8.all4 n91 (.int .i64 0) (.slice bLa bLn bLc) (.slice bCa bCn bCc) (.slice bQa bQn bQc)
      replace n02:=(oo (0,2) (by decide)).trans n02
      replace n03:=(oo (0,3) (by decide)).trans n03
      replace n10:=(oo (1,0) (by decide)).trans n10
      replace n11:=(oo (1,1) (by decide)).trans n11
      replace n20:=(oo (2,0) (by decide)).trans n20
      replace n21:=(oo (2,1) (by decide)).trans n21
      replace n30:=(oo (3,0) (by decide)).trans n30
      replace n31:=(oo (3,1) (by decide)).trans n31
      replace n90:=(oo (9,0) (by decide)).trans n90
      clear n91
      have n91:=mm
      have bW9:=Below.all4 (g:=gb10) bW8 lt.1 (.int .i64 0) (.slice bLa bLn bLc) (.slice bCa bCn bCc) (.slice bQa bQn bQc)
      have b29:=Below.all4 (g:=gb10) b28 lgb10 (.int .i64 0) (.slice bLa bLn bLc) (.slice bCa bCn bCc) (.slice bQa bQn bQc)
      obtain ⟨W9,hW9⟩ : ∃ W' : World,(((W8.setCell ⟨gb10,0,none⟩ (.int .i64 0)).setCell ⟨gb10,1,none⟩ (.slice bLa bLn bLc)).setCell ⟨gb10,2,none⟩ (.slice bCa bCn bCc)).setCell ⟨gb10,3,none⟩ (.slice bQa bQn bQc) = W':=⟨_,rfl⟩
      rw [hW9] at RW9 bW9 b29
      have hS9 : W9.cell? ⟨w.heap.size,0,none⟩ = some (.int .i64 K) ∧ W9.cell? ra = some (.int .i64 v):=⟨by rw [b29.cell hlow.1,← b28.cell hlow.1]; exact hS8.1,by rw [b29.cell hlow.2,← b28.cell hlow.2]; exact hS8.2⟩
      replace hW9:=Hd hW9
      refine wpAnyH_ready (rs:=[14]) (by kernel_rfl) (by simp) (AllReadyH.cons rfl (fun KK hK => ?_) AllReadyH.nil)
      go_simp
      rw [hW9.out]
      refine hK.out _ _ hS9 fun _ => ?_
      clear hK KK t0 t1 t2 t3 ft0 ft1 ft2 ft3 mm oo lt RW8 hW9
      refine pqD 15 7 hS9 ?_
      refine wpAnyH_done (by kernel_rfl) ?_ _
      refine NoPanic.normal ?_
      replace n02:=Hd n02
      replace n03:=Hd n03
      replace n90:=Hd n90
      replace n91:=Hd n91
      replace n10:=Hd n10
      replace n11:=Hd n11
      replace n20:=Hd n20
      replace n21:=Hd n21
      replace n30:=Hd n30
      replace n31:=Hd n31
      replace RW9:=Hd RW9
      go_wp2
      go_meet
      case rel => exact ⟨rfl,gb9,gb10,L',C',Q',_,_,_,_,_,_,f9,rfl,rfl,bW9,hwi.out,RW9.out,n02.out,n03.out,n90.out,n91.out,n10.out,n11.out,n20.out,n21.out,n30.out,n31.out⟩
   ·go_simp
    obtain ⟨f10,RW10,n90,oo⟩:=RW0.box4 (9,0) hB0 36 (.int .i64 0) (.slice none 0 0) (.slice none 0 0) (.slice none 0 0)
    replace n02:=(oo (0,2) (by decide)).trans n02
    replace n03:=(oo (0,3) (by decide)).trans n03
    have bb:=belowAlloc W0 (.cells #[.int .i64 0,.slice none 0 0,.slice none 0 0,.slice none 0 0] 36)
    obtain ⟨gb9,hgb9⟩ : ∃ g,W0.heap.size = g:=⟨_,rfl⟩
    obtain ⟨W10,hW10⟩ : ∃ W' : World,W0.alloc (.cells #[.int .i64 0,.slice none 0 0,.slice none 0 0,.slice none 0 0] 36) = W':=⟨_,rfl⟩
    have lgb9 : w2.heap.size ≤ gb9:=by rw [← hgb9]; exact b20.size
    have bW10:=bW0.trans (bb.mono hB0)
    have b210:=Below.step b20 bb
    rw [hW10] at RW10 bW10 b210 bb
    have hB10:=bW10.size
    have hS10 : W10.cell? ⟨w.heap.size,0,none⟩ = some (.int .i64 K) ∧ W10.cell? ra = some (.int .i64 v):=⟨by rw [b210.cell hlow.1,← b20.cell hlow.1]; exact hS0.1,by rw [b210.cell hlow.2,← b20.cell hlow.2]; exact hS0.2⟩
    rw [hW10,hgb9]
    rw [hgb9] at n90
    replace hW10:=Hd hW10
    replace hgb9:=Hd hgb9
    refine hK.out _ _ hS10 fun _ => ?_
    clear hK KK bb RW0 oo
    refine wpAnyH_ready (rs:=[6,12]) (by kernel_rfl) (by simp) (AllReadyH.cons rfl (fun KK hK => ?_) (AllReadyH.cons rfl (fun KK hK => ?_) (AllReadyH.nil)))
    ·go_simp
     refine (hwv.out W10 (hG2.out.below b210) (hL2.out.below b210)).mono ?_
     rintro e W11 ⟨x,y,z,rfl,bb,hz,L',C',Q',aL,aC,aQ,bL,bC,bQ,hwi,rfl,rfl,fw,Rw,k10,k11,k20,k21,k30,k31⟩
     subst hz
     obtain ⟨aLa,aLn,aLc,haL⟩:=(Rw.ownI k10).at.shape
     subst haL
     obtain ⟨bLa,bLn,bLc,hbL⟩:=(Rw.ownI k11).at.shape
     subst hbL
     obtain ⟨aCa,aCn,aCc,haC⟩:=(Rw.ownI k20).at.shape
     subst haC
     obtain ⟨bCa,bCn,bCc,hbC⟩:=(Rw.ownI k21).at.shape
     subst hbC
     obtain ⟨aQa,aQn,aQc,haQ⟩:=(Rw.ownI k30).at.shape
     subst haQ
     obtain ⟨bQa,bQn,bQc,hbQ⟩:=(Rw.ownI k31).at.shape
     subst hbQ
     obtain ⟨f11,RW11,sel,oth⟩:=RW10.merge (fun i => decide (i.1 = 1 ∨ i.1 = 2 ∨ i.1 = 3)) bb Rw hB10
     replace n02:=(oth (0,2) (by decide)).trans n02
     replace n03:=(oth (0,3) (by decide)).trans n03
     replace n90:=(oth (9,0) (by decide)).trans n90
     have n10:=(sel (1,0) (by decide)).trans k10
     have n11:=(sel (1,1) (by decide)).trans k11
     have n20:=(sel (2,0) (by decide)).trans k20
     have n21:=(sel (2,1) (by decide)).trans k21
     have n30:=(sel (3,0) (by decide)).trans k30
     have n31:=(sel (3,1) (by decide)).trans k31
     replace hwi:=Hd hwi
     clear sel oth k10 k11 k20 k21 k30 k31 Rw
     have bW11:=bW10.trans (bb.mono hB10)
     have b211:=Below.step b210 bb
     have hB11:=bW11.size
     have hS11 : W11.cell? ⟨w.heap.size,0,none⟩ = some (.int .i64 K) ∧ W11.cell? ra = some (.int .i64 v):=⟨by rw [b211.cell hlow.1,← b210.cell hlow.1]; exact hS10.1,by rw [b211.cell hlow.2,← b210.cell hlow.2]; exact hS10.2⟩
     refine hK.out _ _ hS11 fun _ => ?_
     clear hK KK bb RW10
     refine pqD 7 39 hS11 ?_
     refine pqD 8 47 hS11 ?_
     refine pqD 9 48 hS11 ?_
     refine pqD 10 49 hS11 ?_
     refine wpAnyH_ready (rs:=[12]) (by kernel_rfl) (by simp) (AllReadyH.cons rfl (fun KK hK => ?_) (AllReadyH.nil))
     ·go_simp
      obtain ⟨f12,RW12,n91,oo⟩:=RW11.box4 (9,1) hB11 36 (.int .i64 0) (.slice none 0 0) (.slice none 0 0) (.slice none 0 0)
      replace n02:=(oo (0,2) (by decide)).trans n02
      replace n03:=(oo (0,3) (by decide)).trans n03
      replace n90:=(oo (9,0) (by decide)).trans n90
      replace n10:=(oo (1,0) (by decide)).trans n10
      replace n11:=(oo (1,1) (by decide)).trans n11
      replace n20:=(oo (2,0) (by decide)).trans n20
      replace n21:=(oo (2,1) (by decide)).trans n21
      replace n30:=(oo (3,0) (by decide)).trans n30
      replace n31:=(oo (3,1) (by decide)).trans n31
      have bb:=belowAlloc W11 (.cells #[.int .i64 0,.slice none 0 0,.slice none 0 0,.slice none 0 0] 36)
      obtain ⟨gb10,hgb10⟩ : ∃ g,W11.heap.size = g:=⟨_,rfl⟩
      obtain ⟨W12,hW12⟩ : ∃ W' : World,W11.alloc (.cells #[.int .i64 0,.slice none 0 0,.slice none 0 0,.slice none 0 0] 36) = W':=⟨_,rfl⟩
      have lgb10 : w2.heap.size ≤ gb10:=by rw [← hgb10]; exact b211.size
      have bW12:=bW11.trans (bb.mono hB11)
      have b212:=Below.step b211 bb
      rw [hW12] at RW12 bW12 b212 bb
      have hB12:=bW12.size
      have hS12 : W12.cell? ⟨w.heap.size,0,none⟩ = some (.int .i64 K) ∧ W12.cell? ra = some (.int .i64 v):=⟨by rw [b212.cell hlow.1,← b211.cell hlow.1]; exact hS11.1,by rw [b212.cell hlow.2,← b211.cell hlow.2]; exact hS11.2⟩
      rw [hW12,hgb10]
      rw [hgb10] at n91
      replace hW12:=Hd hW12
      replace hgb10:=Hd hgb10
      refine hK.out _ _ hS12 fun _ => ?_
      clear hK KK bb RW11 oo
      obtain ⟨t0,t1,t2,t3⟩:=RW12.cells4 n90
      have ft0:=RW12.frz4 n90 0
      have ft1:=RW12.frz4 n90 1
      have ft2:=RW12.frz4 n90 2
      have ft3:=RW12.frz4 n90 3
      have lt:=(RW12.low4 n90)
      obtain ⟨f13,RW13,mm,oo⟩:=RW12.all4 n90 (.int .i64 0) (.slice aLa aLn aLc) (.slice aCa aCn aCc) (.slice aQa aQn aQc)
      replace n02:=(oo (0,2) (by decide)).trans n02
      replace n03:=(oo (0,3) (by decide)).trans n03
      replace n10:=(oo (1,0) (by decide)).trans n10
      replace n11:=(oo (1,1) (by decide)).trans n11
      replace n20:=(oo (2,0) (by decide)).trans n20
      replace n21:=(oo (2,1) (by decide)).trans n21
      replace n30:=(oo (3,0) (by decide)).trans n30
      replace n31:=(oo (3,1) (by decide)).trans n31
      replace n91:=(oo (9,1) (by decide)).trans n91
      clear n90
      have n90:=mm
      have bW13:=Below.all4 (g:=gb9) bW12 lt.1 (.int .i64 0) (.slice aLa aLn aLc) (.slice aCa aCn aCc) (.slice aQa aQn aQc)
      have b213:=Below.all4 (g:=gb9) b212 lgb9 (.int .i64 0) (.slice aLa aLn aLc) (.slice aCa aCn aCc) (.slice aQa aQn aQc)
      obtain ⟨W13,hW13⟩ : ∃ W' : World,(((W12.setCell ⟨gb9,0,none⟩ (.int .i64 0)).setCell ⟨gb9,1,none⟩ (.slice aLa aLn aLc)).setCell ⟨gb9,2,none⟩ (.slice aCa aCn aCc)).setCell ⟨gb9,3,none⟩ (.slice aQa aQn aQc) = W':=⟨_,rfl⟩
      rw [hW13] at RW13 bW13 b213
      have hS13 : W13.cell? ⟨w.heap.size,0,none⟩ = some (.int .i64 K) ∧ W13.cell? ra = some (.int .i64 v):=⟨by rw [b213.cell hlow.1,← b212.cell hlow.1]; exact hS12.1,by rw [b213.cell hlow.2,← b212.cell hlow.2]; exact hS12.2⟩
      replace hW13:=Hd hW13
      refine wpAnyH_ready (rs:=[13]) (by kernel_rfl) (by simp) (AllReadyH.cons rfl (fun KK hK => ?_) AllReadyH.nil)
      go_simp
      rw [hW13.out]
      refine hK.out _ _ hS13 fun _ => ?_
      clear hK KK t0 t1 t2 t3 ft0 ft1 ft2 ft3 mm oo lt RW12 hW13
      obtain ⟨t0,t1,t2,t3⟩:=RW13.cells4 n91
      have ft0:=RW13.frz4 n91 0
      have ft1:=RW13.frz4 n91 1
      have ft2:=RW13.frz4 n91 2
      have ft3:=RW13.frz4 n91 3
      have lt:=(RW13.low4 n91)
      obtain ⟨f14,RW14,mm,oo⟩:=RW13.all4 n91 (.int .i64 0) (.slice bLa bLn bLc) (.slice bCa bCn bCc) (.slice bQa bQn bQc)
      replace n02:=(oo (0,2) (by decide)).trans n02
      replace n03:=(oo (0,3) (by decide)).trans n03
      replace n90:=(oo (9,0) (by decide)).trans n90
      replace n10:=(oo (1,0) (by decide)).trans n10
      replace n11:=(oo (1,1) (by decide)).trans n11
      replace n20:=(oo (2,0) (by decide)).trans n20
      replace n21:=(oo (2,1) (by decide)).trans n21
      replace n30:=(oo (3,0) (by decide)).trans n30
      replace n31:=(oo (3,1) (by decide)).trans n31
      clear n91
      have n91:=mm
      have bW14:=Below.all4 (g:=gb10) bW13 lt.1 (.int .i64 0) (.slice bLa bLn bLc) (.slice bCa bCn bCc) (.slice bQa bQn bQc)
      have b214:=Below.all4 (g:=gb10) b213 lgb10 (.int .i64 0) (.slice bLa bLn bLc) (.slice bCa bCn bCc) (.slice bQa bQn bQc)
      obtain ⟨W14,hW14⟩ : ∃ W' : World,(((W13.setCell ⟨gb10,0,none⟩ (.int .i64 0)).setCell ⟨gb10,1,none⟩ (.slice bLa bLn bLc)).setCell ⟨gb10,2,none⟩ (.slice bCa bCn bCc)).setCell ⟨gb10,3,none⟩ (.slice bQa bQn bQc) = W':=⟨_,rfl⟩
      rw [hW14] at RW14 bW14 b214
      have hS14 : W14.cell? ⟨w.heap.size,0,none⟩ = some (.int .i64 K) ∧ W14.cell? ra = some (.int .i64 v):=⟨by rw [b214.cell hlow.1,← b213.cell hlow.1]; exact hS13.1,by rw [b214.cell hlow.2,← b213.cell hlow.2]; exact hS13.2⟩
      replace hW14:=Hd hW14
      refine wpAnyH_ready (rs:=[14]) (by kernel_rfl) (by simp) (AllReadyH.cons rfl (fun KK hK => ?_) AllReadyH.nil)
      go_simp
      rw [hW14.out]
      refine hK.out _ _ hS14 fun _ => ?_
      clear hK KK t0 t1 t2 t3 ft0 ft1 ft2 ft3 mm oo lt RW13 hW14
      refine pqD 15 7 hS14 ?_
      refine wpAnyH_done (by kernel_rfl) ?_ _
      refine NoPanic.normal ?_
      replace n02:=Hd n02
      replace n03:=Hd n03
      replace n90:=Hd n90
      replace n91:=Hd n91
      replace n10:=Hd n10
      replace n11:=Hd n11
      replace n20:=Hd n20
      replace n21:=Hd n21
      replace n30:=Hd n30
      replace n31:=Hd n31
      replace RW14:=Hd RW14
      go_wp2
      go_meet
      case rel => exact ⟨rfl,gb9,gb10,L',C',Q',_,_,_,_,_,_,f14,rfl,rfl,bW14,hwi.out,RW14.out,n02.out,n03.out,n90.out,n91.out,n10.out,n11.out,n20.out,n21.out,n30.out,n31.out⟩
    ·go_simp
     obtain ⟨f15,RW15,n91,oo⟩:=RW10.box4 (9,1) hB10 36 (.int .i64 0) (.slice none 0 0) (.slice none 0 0) (.slice none 0 0)
     replace n02:=(oo (0,2) (by decide)).trans n02
     replace n03:=(oo (0,3) (by decide)).trans n03
     replace n90:=(oo (9,0) (by decide)).trans n90
     have bb:=belowAlloc W10 (.cells #[.int .i64 0,.slice none 0 0,.slice none 0 0,.slice none 0 0] 36)
     obtain ⟨gb10,hgb10⟩ : ∃ g,W10.heap.size = g:=⟨_,rfl⟩
     obtain ⟨W15,hW15⟩ : ∃ W' : World,W10.alloc (.cells #[.int .i64 0,.slice none 0 0,.slice none 0 0,.slice none 0 0] 36) = W':=⟨_,rfl⟩
     have lgb10 : w2.heap.size ≤ gb10:=by rw [← hgb10]; exact b210.size
     have bW15:=bW10.trans (bb.mono hB10)
     have b215:=Below.step b210 bb
     rw [hW15] at RW15 bW15 b215 bb
     have hB15:=bW15.size
     have hS15 : W15.cell? ⟨w.heap.size,0,none⟩ = some (.int .i64 K) ∧ W15.cell? ra = some (.int .i64 v):=⟨by rw [b215.cell hlow.1,← b210.cell hlow.1]; exact hS10.1,by rw [b215.cell hlow.2,← b210.cell hlow.2]; exact hS10.2⟩
     rw [hW15,hgb10]
     rw [hgb10] at n91
     replace hW15:=Hd hW15
     replace hgb10:=Hd hgb10
     refine hK.out _ _ hS15 fun _ => ?_
     clear hK KK bb RW10 oo
     refine wpAnyH_ready (rs:=[6]) (by kernel_rfl) (by simp) (AllReadyH.cons rfl (fun KK hK => ?_) (AllReadyH.nil))
     ·go_simp
      refine (hwv.out W15 (hG2.out.below b215) (hL2.out.below b215)).mono ?_
      rintro e W16 ⟨x,y,z,rfl,bb,hz,L',C',Q',aL,aC,aQ,bL,bC,bQ,hwi,rfl,rfl,fw,Rw,k10,k11,k20,k21,k30,k31⟩
      subst hz
      obtain ⟨aLa,aLn,aLc,haL⟩:=(Rw.ownI k10).at.shape
      subst haL
      obtain ⟨bLa,bLn,bLc,hbL⟩:=(Rw.ownI k11).at.shape
      subst hbL
      obtain ⟨aCa,aCn,aCc,haC⟩:=(Rw.ownI k20).at.shape
      subst haC
      obtain ⟨bCa,bCn,bCc,hbC⟩:=(Rw.ownI k21).at.shape
      subst hbC
      obtain ⟨aQa,aQn,aQc,haQ⟩:=(Rw.ownI k30).at.shape
      subst haQ
      obtain ⟨bQa,bQn,bQc,hbQ⟩:=(Rw.ownI k31).at.shape
      subst hbQ
      obtain ⟨f16,RW16,sel,oth⟩:=RW15.merge (fun i => decide (i.1 = 1 ∨ i.1 = 2 ∨ i.1 = 3)) bb Rw hB15
      replace n02:=(oth (0,2) (by decide)).trans n02
      replace n03:=(oth (0,3) (by decide)).trans n03
      replace n90:=(oth (9,0) (by decide)).trans n90
      replace n91:=(oth (9,1) (by decide)).trans n91
      have n10:=(sel (1,0) (by decide)).trans k10
      have n11:=(sel (1,1) (by decide)).trans k11
      have n20:=(sel (2,0) (by decide)).trans k20
      have n21:=(sel (2,1) (by decide)).trans k21
      have n30:=(sel (3,0) (by decide)).trans k30
      have n31:=(sel (3,1) (by decide)).trans k31
      replace hwi:=Hd hwi
      clear sel oth k10 k11 k20 k21 k30 k31 Rw
      have bW16:=bW15.trans (bb.mono hB15)
      have b216:=Below.step b215 bb
      have hB16:=bW16.size
      have hS16 : W16.cell? ⟨w.heap.size,0,none⟩ = some (.int .i64 K) ∧ W16.cell? ra = some (.int .i64 v):=⟨by rw [b216.cell hlow.1,← b215.cell hlow.1]; exact hS15.1,by rw [b216.cell hlow.2,← b215.cell hlow.2]; exact hS15.2⟩
      refine hK.out _ _ hS16 fun _ => ?_
      clear hK KK bb RW15
      refine pqD 7 39 hS16 ?_
      refine pqD 8 47 hS16 ?_
      refine pqD 9 48 hS16 ?_
      refine pqD 10 49 hS16 ?_
      obtain ⟨t0,t1,t2,t3⟩:=RW16.cells4 n90
      have ft0:=RW16.frz4 n90 0
      have ft1:=RW16.frz4 n90 1
      have ft2:=RW16.frz4 n90 2
      have ft3:=RW16.frz4 n90 3
      have lt:=(RW16.low4 n90)
      obtain ⟨f17,RW17,mm,oo⟩:=RW16.all4 n90 (.int .i64 0) (.slice aLa aLn aLc) (.slice aCa aCn aCc) (.slice aQa aQn aQc)
      replace n02:=(oo (0,2) (by decide)).trans n02
      replace n03:=(oo (0,3) (by decide)).trans n03
      replace n91:=(oo (9,1) (by decide)).trans n91
      replace n10:=(oo (1,0) (by decide)).trans n10
      replace n11:=(oo (1,1) (by decide)).trans n11
      replace n20:=(oo (2,0) (by decide)).trans n20
      replace n21:=(oo (2,1) (by decide)).trans n21
      replace n30:=(oo (3,0) (by decide)).trans n30
      replace n31:=(oo (3,1) (by decide)).trans n31
      clear n90
      have n90:=mm
      have bW17:=Below.all4 (g:=gb9) bW16 lt.1 (.int .i64 0) (.slice aLa aLn aLc) (.slice aCa aCn aCc) (.slice aQa aQn aQc)
      have b217:=Below.all4 (g:=gb9) b216 lgb9 (.int .i64 0) (.slice aLa aLn aLc) (.slice aCa aCn aCc) (.slice aQa aQn aQc)
      obtain ⟨W17,hW17⟩ : ∃ W' : World,(((W16.setCell ⟨gb9,0,none⟩ (.int .i64 0)).setCell ⟨gb9,1,none⟩ (.slice aLa aLn aLc)).setCell ⟨gb9,2,none⟩ (.slice aCa aCn aCc)).setCell ⟨gb9,3,none⟩ (.slice aQa aQn aQc) = W':=⟨_,rfl⟩
      rw [hW17] at RW17 bW17 b217
      have hS17 : W17.cell? ⟨w.heap.size,0,none⟩ = some (.int .i64 K) ∧ W17.cell? ra = some (.int .i64 v):=⟨by rw [b217.cell hlow.1,← b216.cell hlow.1]; exact hS16.1,by rw [b217.cell hlow.2,← b216.cell hlow.2]; exact hS16.2⟩
      replace hW17:=Hd hW17
      refine wpAnyH_ready (rs:=[13]) (by kernel_rfl) (by simp) (AllReadyH.cons rfl (fun KK hK => ?_) AllReadyH.nil)
      go_simp
      rw [hW17.out]
      refine hK.out _ _ hS17 fun _ => ?_
      clear hK KK t0 t1 t2 t3 ft0 ft1 ft2 ft3 mm oo lt RW16 hW17
      obtain ⟨t0,t1,t2,t3⟩:=RW17.cells4 n91
      have ft0:=RW17.frz4 n91 0
      have ft1:=RW17.frz4 n91 1
      have ft2:=RW17.frz4 n91 2
      have ft3:=RW17.frz4 n91 3
      have lt:=(RW17.low4 n91)
      obtain ⟨f18,RW18,mm,oo⟩:=RW17.all4 n91 (.int .i64 0) (.slice bLa bLn bLc) (.slice bCa bCn bCc) (.slice bQa bQn bQc)
      replace n02:=(oo (0,2) (by decide)).trans n02
      replace n03:=(oo (0,3) (by decide)).trans n03
      replace n90:=(oo (9,0) (by decide)).trans n90
      replace n10:=(oo (1,0) (by decide)).trans n10
      replace n11:=(oo (1,1) (by decide)).trans n11
      replace n20:=(oo (2,0) (by decide)).trans n20
      replace n21:=(oo (2,1) (by decide)).trans n21
      replace n30:=(oo (3,0) (by decide)).trans n30
      replace n31:=(oo (3,1) (by decide)).trans n31
      clear n91
      have n91:=mm
      have bW18:=Below.all4 (g:=gb10) bW17 lt.1 (.int .i64 0) (.slice bLa bLn bLc) (.slice bCa bCn bCc) (.slice bQa bQn bQc)
      have b218:=Below.all4 (g:=gb10) b217 lgb10 (.int .i64 0) (.slice bLa bLn bLc) (.slice bCa bCn bCc) (.slice bQa bQn bQc)
      obtain ⟨W18,hW18⟩ : ∃ W' : World,(((W17.setCell ⟨gb10,0,none⟩ (.int .i64 0)).setCell ⟨gb10,1,none⟩ (.slice bLa bLn bLc)).setCell ⟨gb10,2,none⟩ (.slice bCa bCn bCc)).setCell ⟨gb10,3,none⟩ (.slice bQa bQn bQc) = W':=⟨_,rfl⟩
      rw [hW18] at RW18 bW18 b218
      have hS18 : W18.cell? ⟨w.heap.size,0,none⟩ = some (.int .i64 K) ∧ W18.cell? ra = some (.int .i64 v):=⟨by rw [b218.cell hlow.1,← b217.cell hlow.1]; exact hS17.1,by rw [b218.cell hlow.2,← b217.cell hlow.2]; exact hS17.2⟩
      replace hW18:=Hd hW18
      refine wpAnyH_ready (rs:=[14]) (by kernel_rfl) (by simp) (AllReadyH.cons rfl (fun KK hK => ?_) AllReadyH.nil)
      go_simp
      rw [hW18.out]
      refine hK.out _ _ hS18 fun _ => ?_
      clear hK KK t0 t1 t2 t3 ft0 ft1 ft2 ft3 mm oo lt RW17 hW18
      refine pqD 15 7 hS18 ?_
      refine wpAnyH_done (by kernel_rfl) ?_ _
      refine NoPanic.normal ?_
      replace n02:=Hd n02
      replace n03:=Hd n03
      replace n90:=Hd n90
      replace n91:=Hd n91
      replace n10:=Hd n10
      replace n11:=Hd n11
      replace n20:=Hd n20
      replace n21:=Hd n21
      replace n30:=Hd n30
      replace n31:=Hd n31
      replace RW18:=Hd RW18
      go_wp2
      go_meet
      case rel => exact ⟨rfl,gb9,gb10,L',C',Q',_,_,_,_,_,_,f18,rfl,rfl,bW18,hwi.out,RW18.out,n02.out,n03.out,n90.out,n91.out,n10.out,n11.out,n20.out,n21.out,n30.out,n31.out⟩
   ·go_simp
    obtain ⟨f19,RW19,n91,oo⟩:=RW0.box4 (9,1) hB0 36 (.int .i64 0) (.slice none 0 0) (.slice none 0 0) (.slice none 0 0)
    replace n02:=(oo (0,2) (by decide)).trans n02
    replace n03:=(oo (0,3) (by decide)).trans n03
    have bb:=belowAlloc W0 (.cells #[.int .i64 0,.slice none 0 0,.slice none 0 0,.slice none 0 0] 36)
    obtain ⟨gb10,hgb10⟩ : ∃ g,W0.heap.size = g:=⟨_,rfl⟩
    obtain ⟨W19,hW19⟩ : ∃ W' : World,W0.alloc (.cells #[.int .i64 0,.slice none 0 0,.slice none 0 0,.slice none 0 0] 36) = W':=⟨_,rfl⟩
    have lgb10 : w2.heap.size ≤ gb10:=by rw [← hgb10]; exact b20.size
    have bW19:=bW0.trans (bb.mono hB0)
    have b219:=Below.step b20 bb
    rw [hW19] at RW19 bW19 b219 bb
    have hB19:=bW19.size
    have hS19 : W19.cell? ⟨w.heap.size,0,none⟩ = some (.int .i64 K) ∧ W19.cell? ra = some (.int .i64 v):=⟨by rw [b219.cell hlow.1,← b20.cell hlow.1]; exact hS0.1,by rw [b219.cell hlow.2,← b20.cell hlow.2]; exact hS0.2⟩
    rw [hW19,hgb10]
    rw [hgb10] at n91
    replace hW19:=Hd hW19
    replace hgb10:=Hd hgb10
    refine hK.out _ _ hS19 fun _ => ?_
    clear hK KK bb RW0 oo
    refine wpAnyH_ready (rs:=[6,11]) (by kernel_rfl) (by simp) (AllReadyH.cons rfl (fun KK hK => ?_) (AllReadyH.cons rfl (fun KK hK => ?_) (AllReadyH.nil)))
    ·go_simp
     refine (hwv.out W19 (hG2.out.below b219) (hL2.out.below b219)).mono ?_
     rintro e W20 ⟨x,y,z,rfl,bb,hz,L',C',Q',aL,aC,aQ,bL,bC,bQ,hwi,rfl,rfl,fw,Rw,k10,k11,k20,k21,k30,k31⟩
     subst hz
     obtain ⟨aLa,aLn,aLc,haL⟩:=(Rw.ownI k10).at.shape
     subst haL
     obtain ⟨bLa,bLn,bLc,hbL⟩:=(Rw.ownI k11).at.shape
     subst hbL
     obtain ⟨aCa,aCn,aCc,haC⟩:=(Rw.ownI k20).at.shape
     subst haC
     obtain ⟨bCa,bCn,bCc,hbC⟩:=(Rw.ownI k21).at.shape
     subst hbC
     obtain ⟨aQa,aQn,aQc,haQ⟩:=(Rw.ownI k30).at.shape
     subst haQ
     obtain ⟨bQa,bQn,bQc,hbQ⟩:=(Rw.ownI k31).at.shape
     subst hbQ
     obtain ⟨f20,RW20,sel,oth⟩:=RW19.merge (fun i => decide (i.1 = 1 ∨ i.1 = 2 ∨ i.1 = 3)) bb Rw hB19
     replace n02:=(oth (0,2) (by decide)).trans n02
     replace n03:=(oth (0,3) (by decide)).trans n03
     replace n91:=(oth (9,1) (by decide)).trans n91
     have n10:=(sel (1,0) (by decide)).trans k10
     have n11:=(sel (1,1) (by decide)).trans k11
     have n20:=(sel (2,0) (by decide)).trans k20
     have n21:=(sel (2,1) (by decide)).trans k21
     have n30:=(sel (3,0) (by decide)).trans k30
     have n31:=(sel (3,1) (by decide)).trans k31
     replace hwi:=Hd hwi
     clear sel oth k10 k11 k20 k21 k30 k31 Rw
     have bW20:=bW19.trans (bb.mono hB19)
     have b220:=Below.step b219 bb
     have hB20:=bW20.size
     have hS20 : W20.cell? ⟨w.heap.size,0,none⟩ = some (.int .i64 K) ∧ W20.cell? ra = some (.int .i64 v):=⟨by rw [b220.cell hlow.1,← b219.cell hlow.1]; exact hS19.1,by rw [b220.cell hlow.2,← b219.cell hlow.2]; exact hS19.2⟩
     refine hK.out _ _ hS20 fun _ => ?_
     clear hK KK bb RW19
     refine pqD 7 39 hS20 ?_
     refine pqD 8 47 hS20 ?_
     refine pqD 9 48 hS20 ?_
     refine pqD 10 49 hS20 ?_
     refine wpAnyH_ready (rs:=[11]) (by kernel_rfl) (by simp) (AllReadyH.cons rfl (fun KK hK => ?_) (AllReadyH.nil))
     ·go_simp
      obtain ⟨f21,RW21,n90,oo⟩:=RW20.box4 (9,0) hB20 36 (.int .i64 0) (.slice none 0 0) (.slice none 0 0) (.slice none 0 0)
      replace n02:=(oo (0,2) (by decide)).trans n02
      replace n03:=(oo (0,3) (by decide)).trans n03
      replace n91:=(oo (9,1) (by decide)).trans n91
      replace n10:=(oo (1,0) (by decide)).trans n10
      replace n11:=(oo (1,1) (by decide)).trans n11
      replace n20:=(oo (2,0) (by decide)).trans n20
      replace n21:=(oo (2,1) (by decide)).trans n21
      replace n30:=(oo (3,0) (by decide)).trans n30
      replace n31:=(oo (3,1) (by decide)).trans n31
      have bb:=belowAlloc W20 (.cells #[.int .i64 0,.slice none 0 0,.slice none 0 0,.slice none 0 0] 36)
      obtain ⟨gb9,hgb9⟩ : ∃ g,W20.heap.size = g:=⟨_,rfl⟩
      obtain ⟨W21,hW21⟩ : ∃ W' : World,W20.alloc (.cells #[.int .i64 0,.slice none 0 0,.slice none 0 0,.slice none 0 0] 36) = W':=⟨_,rfl⟩
      have lgb9 : w2.heap.size ≤ gb9:=by rw [← hgb9]; exact b220.size
      have bW21:=bW20.trans (bb.mono hB20)
      have b221:=Below.step b220 bb
      rw [hW21] at RW21 bW21 b221 bb
      have hB21:=bW21.size
      have hS21 : W21.cell? ⟨w.heap.size,0,none⟩ = some (.int .i64 K) ∧ W21.cell? ra = some (.int .i64 v):=⟨by rw [b221.cell hlow.1,← b220.cell hlow.1]; exact hS20.1,by rw [b221.cell hlow.2,← b220.cell hlow.2]; exact hS20.2⟩
      rw [hW21,hgb9]
      rw [hgb9] at n90
      replace hW21:=Hd hW21
      replace hgb9:=Hd hgb9
      refine hK.out _ _ hS21 fun _ => ?_
      clear hK KK bb RW20 oo
      obtain ⟨t0,t1,t2,t3⟩:=RW21.cells4 n90
      have ft0:=RW21.frz4 n90 0
      have ft1:=RW21.frz4 n90 1
      have ft2:=RW21.frz4 n90 2
      have ft3:=RW21.frz4 n90 3
      have lt:=(RW21.low4 n90)
      obtain ⟨f22,RW22,mm,oo⟩:=RW21.all4 n90 (.int .i64 0) (.slice aLa aLn aLc) (.slice aCa aCn aCc) (.slice aQa aQn aQc)
      replace n02:=(oo (0,2) (by decide)).trans n02
      replace n03:=(oo (0,3) (by decide)).trans n03
      replace n91:=(oo (9,1) (by decide)).trans n91
      replace n10:=(oo (1,0) (by decide)).trans n10
      replace n11:=(oo (1,1) (by decide)).trans n11
      replace n20:=(oo (2,0) (by decide)).trans n20
      replace n21:=(oo (2,1) (by decide)).trans n21
      replace n30:=(oo (3,0) (by decide)).trans n30
      replace n31:=(oo (3,1) (by decide)).trans n31
      clear n90
      have n90:=mm
      have bW22:=Below.all4 (g:=gb9) bW21 lt.1 (.int .i64 0) (.slice aLa aLn aLc) (.slice aCa aCn aCc) (.slice aQa aQn aQc)
      have b222:=Below.all4 (g:=gb9) b221 lgb9 (.int .i64 0) (.slice aLa aLn aLc) (.slice aCa aCn aCc) (.slice aQa aQn aQc)
      obtain ⟨W22,hW22⟩ : ∃ W' : World,(((W21.setCell ⟨gb9,0,none⟩ (.int .i64 0)).setCell ⟨gb9,1,none⟩ (.slice aLa aLn aLc)).setCell ⟨gb9,2,none⟩ (.slice aCa aCn aCc)).setCell ⟨gb9,3,none⟩ (.slice aQa aQn aQc) = W':=⟨_,rfl⟩
      rw [hW22] at RW22 bW22 b222
      have hS22 : W22.cell? ⟨w.heap.size,0,none⟩ = some (.int .i64 K) ∧ W22.cell? ra = some (.int .i64 v):=⟨by rw [b222.cell hlow.1,← b221.cell hlow.1]; exact hS21.1,by rw [b222.cell hlow.2,← b221.cell hlow.2]; exact hS21.2⟩
      replace hW22:=Hd hW22
      refine wpAnyH_ready (rs:=[13]) (by kernel_rfl) (by simp) (AllReadyH.cons rfl (fun KK hK => ?_) AllReadyH.nil)
      go_simp
      rw [hW22.out]
      refine hK.out _ _ hS22 fun _ => ?_
      clear hK KK t0 t1 t2 t3 ft0 ft1 ft2 ft3 mm oo lt RW21 hW22
      obtain ⟨t0,t1,t2,t3⟩:=RW22.cells4 n91
      have ft0:=RW22.frz4 n91 0
      have ft1:=RW22.frz4 n91 1
      have ft2:=RW22.frz4 n91 2
      have ft3:=RW22.frz4 n91 3
      have lt:=(RW22.low4 n91)
      obtain ⟨f23,RW23,mm,oo⟩:=RW22.all4 n91 (.int .i64 0) (.slice bLa bLn bLc) (.slice bCa bCn bCc) (.slice bQa bQn bQc)
      replace n02:=(oo (0,2) (by decide)).trans n02
      replace n03:=(oo (0,3) (by decide)).trans n03
      replace n10:=(oo (1,0) (by decide)).trans n10
      replace n11:=(oo (1,1) (by decide)).trans n11
      replace n20:=(oo (2,0) (by decide)).trans n20
      replace n21:=(oo (2,1) (by decide)).trans n21
      replace n30:=(oo (3,0) (by decide)).trans n30
      replace n31:=(oo (3,1) (by decide)).trans n31
      replace n90:=(oo (9,0) (by decide)).trans n90
      clear n91
      have n91:=mm
      have bW23:=Below.all4 (g:=gb10) bW22 lt.1 (.int .i64 0) (.slice bLa bLn bLc) (.slice bCa bCn bCc) (.slice bQa bQn bQc)
      have b223:=Below.all4 (g:=gb10) b222 lgb10 (.int .i64 0) (.slice bLa bLn bLc) (.slice bCa bCn bCc) (.slice bQa bQn bQc)
      obtain ⟨W23,hW23⟩ : ∃ W' : World,(((W22.setCell ⟨gb10,0,none⟩ (.int .i64 0)).setCell ⟨gb10,1,none⟩ (.slice bLa bLn bLc)).setCell ⟨gb10,2,none⟩ (.slice bCa bCn bCc)).setCell ⟨gb10,3,none⟩ (.slice bQa bQn bQc) = W':=⟨_,rfl⟩
      rw [hW23] at RW23 bW23 b223
      have hS23 : W23.cell? ⟨w.heap.size,0,none⟩ = some (.int .i64 K) ∧ W23.cell? ra = some (.int .i64 v):=⟨by rw [b223.cell hlow.1,← b222.cell hlow.1]; exact hS22.1,by rw [b223.cell hlow.2,← b222.cell hlow.2]; exact hS22.2⟩
      replace hW23:=Hd hW23
      refine wpAnyH_ready (rs:=[14]) (by kernel_rfl) (by simp) (AllReadyH.cons rfl (fun KK hK => ?_) AllReadyH.nil)
      go_simp
      rw [hW23.out]
      refine hK.out _ _ hS23 fun _ => ?_
      clear hK KK t0 t1 t2 t3 ft0 ft1 ft2 ft3 mm oo lt RW22 hW23
      refine pqD 15 7 hS23 ?_
      refine wpAnyH_done (by kernel_rfl) ?_ _
      refine NoPanic.normal ?_
      replace n02:=Hd n02
      replace n03:=Hd n03
      replace n90:=Hd n90
      replace n91:=Hd n91
      replace n10:=Hd n10
      replace n11:=Hd n11
      replace n20:=Hd n20
      replace n21:=Hd n21
      replace n30:=Hd n30
      replace n31:=Hd n31
      replace RW23:=Hd RW23
      go_wp2
      go_meet
      case rel => exact ⟨rfl,gb9,gb10,L',C',Q',_,_,_,_,_,_,f23,rfl,rfl,bW23,hwi.out,RW23.out,n02.out,n03.out,n90.out,n91.out,n10.out,n11.out,n20.out,n21.out,n30.out,n31.out⟩
    ·go_simp
     obtain ⟨f24,RW24,n90,oo⟩:=RW19.box4 (9,0) hB19 36 (.int .i64 0) (.slice none 0 0) (.slice none 0 0) (.slice none 0 0)
     replace n02:=(oo (0,2) (by decide)).trans n02
     replace n03:=(oo (0,3) (by decide)).trans n03
     replace n91:=(oo (9,1) (by decide)).trans n91
     have bb:=belowAlloc W19 (.cells #[.int .i64 0,.slice none 0 0,.slice none 0 0,.slice none 0 0] 36)
     obtain ⟨gb9,hgb9⟩ : ∃ g,W19.heap.size = g:=⟨_,rfl⟩
     obtain ⟨W24,hW24⟩ : ∃ W' : World,W19.alloc (.cells #[.int .i64 0,.slice none 0 0,.slice none 0 0,.slice none 0 0] 36) = W':=⟨_,rfl⟩
     have lgb9 : w2.heap.size ≤ gb9:=by rw [← hgb9]; exact b219.size
     have bW24:=bW19.trans (bb.mono hB19)
     have b224:=Below.step b219 bb
     rw [hW24] at RW24 bW24 b224 bb
     have hB24:=bW24.size
     have hS24 : W24.cell? ⟨w.heap.size,0,none⟩ = some (.int .i64 K) ∧ W24.cell? ra = some (.int .i64 v):=⟨by rw [b224.cell hlow.1,← b219.cell hlow.1]; exact hS19.1,by rw [b224.cell hlow.2,← b219.cell hlow.2]; exact hS19.2⟩
     rw [hW24,hgb9]
     rw [hgb9] at n90
     replace hW24:=Hd hW24
     replace hgb9:=Hd hgb9
     refine hK.out _ _ hS24 fun _ => ?_
     clear hK KK bb RW19 oo
     refine wpAnyH_ready (rs:=[6]) (by kernel_rfl) (by simp) (AllReadyH.cons rfl (fun KK hK => ?_) (AllReadyH.nil))
     ·go_simp
      refine (hwv.out W24 (hG2.out.below b224) (hL2.out.below b224)).mono ?_
      rintro e W25 ⟨x,y,z,rfl,bb,hz,L',C',Q',aL,aC,aQ,bL,bC,bQ,hwi,rfl,rfl,fw,Rw,k10,k11,k20,k21,k30,k31⟩
      subst hz
      obtain ⟨aLa,aLn,aLc,haL⟩:=(Rw.ownI k10).at.shape
      subst haL
      obtain ⟨bLa,bLn,bLc,hbL⟩:=(Rw.ownI k11).at.shape
      subst hbL
      obtain ⟨aCa,aCn,aCc,haC⟩:=(Rw.ownI k20).at.shape
      subst haC
      obtain ⟨bCa,bCn,bCc,hbC⟩:=(Rw.ownI k21).at.shape
      subst hbC
      obtain ⟨aQa,aQn,aQc,haQ⟩:=(Rw.ownI k30).at.shape
      subst haQ
      obtain ⟨bQa,bQn,bQc,hbQ⟩:=(Rw.ownI k31).at.shape
      subst hbQ
      obtain ⟨f25,RW25,sel,oth⟩:=RW24.merge (fun i => decide (i.1 = 1 ∨ i.1 = 2 ∨ i.1 = 3)) bb Rw hB24
      replace n02:=(oth (0,2) (by decide)).trans n02
      replace n03:=(oth (0,3) (by decide)).trans n03
      replace n91:=(oth (9,1) (by decide)).trans n91
      replace n90:=(oth (9,0) (by decide)).trans n90
      have n10:=(sel (1,0) (by decide)).trans k10
      have n11:=(sel (1,1) (by decide)).trans k11
      have n20:=(sel (2,0) (by decide)).trans k20
      have n21:=(sel (2,1) (by decide)).trans k21
      have n30:=(sel (3,0) (by decide)).trans k30
      have n31:=(sel (3,1) (by decide)).trans k31
      replace hwi:=Hd hwi
      clear sel oth k10 k11 k20 k21 k30 k31 Rw
      have bW25:=bW24.trans (bb.mono hB24)
      have b225:=Below.step b224 bb
      have hB25:=bW25.size
      have hS25 : W25.cell? ⟨w.heap.size,0,none⟩ = some (.int .i64 K) ∧ W25.cell? ra = some (.int .i64 v):=⟨by rw [b225.cell hlow.1,← b224.cell hlow.1]; exact hS24.1,by rw [b225.cell hlow.2,← b224.cell hlow.2]; exact hS24.2⟩
      refine hK.out _ _ hS25 fun _ => ?_
      clear hK KK bb RW24
      refine pqD 7 39 hS25 ?_
      refine pqD 8 47 hS25 ?_
      refine pqD 9 48 hS25 ?_
      refine pqD 10 49 hS25 ?_
      obtain ⟨t0,t1,t2,t3⟩:=RW25.cells4 n90
      have ft0:=RW25.frz4 n90 0
      have ft1:=RW25.frz4 n90 1
      have ft2:=RW25.frz4 n90 2
      have ft3:=RW25.frz4 n90 3
      have lt:=(RW25.low4 n90)
      obtain ⟨f26,RW26,mm,oo⟩:=RW25.all4 n90 (.int .i64 0) (.slice aLa aLn aLc) (.slice aCa aCn aCc) (.slice aQa aQn aQc)
      replace n02:=(oo (0,2) (by decide)).trans n02
      replace n03:=(oo (0,3) (by decide)).trans n03
      replace n91:=(oo (9,1) (by decide)).trans n91
      replace n10:=(oo (1,0) (by decide)).trans n10
      replace n11:=(oo (1,1) (by decide)).trans n11
      replace n20:=(oo (2,0) (by decide)).trans n20
      replace n21:=(oo (2,1) (by decide)).trans n21
      replace n30:=(oo (3,0) (by decide)).trans n30
      replace n31:=(oo (3,1) (by decide)).trans n31
      clear n90
      have n90:=mm
      have bW26:=Below.all4 (g:=gb9) bW25 lt.1 (.int .i64 0) (.slice aLa aLn aLc) (.slice aCa aCn aCc) (.slice aQa aQn aQc)
      have b226:=Below.all4 (g:=gb9) b225 lgb9 (.int .i64 0) (.slice aLa aLn aLc) (.slice aCa aCn aCc) (.slice aQa aQn aQc)
      obtain ⟨W26,hW26⟩ : ∃ W' : World,(((W25.setCell ⟨gb9,0,none⟩ (.int .i64 0)).setCell ⟨gb9,1,none⟩ (.slice aLa aLn aLc)).setCell ⟨gb9,2,none⟩ (.slice aCa aCn aCc)).setCell ⟨gb9,3,none⟩ (.slice aQa aQn aQc) = W':=⟨_,rfl⟩
      rw [hW26] at RW26 bW26 b226
      have hS26 : W26.cell? ⟨w.heap.size,0,none⟩ = some (.int .i64 K) ∧ W26.cell? ra = some (.int .i64 v):=⟨by rw [b226.cell hlow.1,← b225.cell hlow.1]; exact hS25.1,by rw [b226.cell hlow.2,← b225.cell hlow.2]; exact hS25.2⟩
      replace hW26:=Hd hW26
      refine wpAnyH_ready (rs:=[13]) (by kernel_rfl) (by simp) (AllReadyH.cons rfl (fun KK hK => ?_) AllReadyH.nil)
      go_simp
      rw [hW26.out]
      refine hK.out _ _ hS26 fun _ => ?_
      clear hK KK t0 t1 t2 t3 ft0 ft1 ft2 ft3 mm oo lt RW25 hW26
      obtain ⟨t0,t1,t2,t3⟩:=RW26.cells4 n91
      have ft0:=RW26.frz4 n91 0
      have ft1:=RW26.frz4 n91 1
      have ft2:=RW26.frz4 n91 2
      have ft3:=RW26.frz4 n91 3
      have lt:=(RW26.low4 n91)
      obtain ⟨f27,RW27,mm,oo⟩:=RW26.all4 n91 (.int .i64 0) (.slice bLa bLn bLc) (.slice bCa bCn bCc) (.slice bQa bQn bQc)
      replace n02:=(oo (0,2) (by decide)).trans n02
      replace n03:=(oo (0,3) (by decide)).trans n03
      replace n90:=(oo (9,0) (by decide)).trans n90
      replace n10:=(oo (1,0) (by decide)).trans n10
      replace n11:=(oo (1,1) (by decide)).trans n11
      replace n20:=(oo (2,0) (by decide)).trans n20
      replace n21:=(oo (2,1) (by decide)).trans n21
      replace n30:=(oo (3,0) (by decide)).trans n30
      replace n31:=(oo (3,1) (by decide)).trans n31
      clear n91
      have n91:=mm
      have bW27:=Below.all4 (g:=gb10) bW26 lt.1 (.int .i64 0) (.slice bLa bLn bLc) (.slice bCa bCn bCc) (.slice bQa bQn bQc)
      have b227:=Below.all4 (g:=gb10) b226 lgb10 (.int .i64 0) (.slice bLa bLn bLc) (.slice bCa bCn bCc) (.slice bQa bQn bQc)
      obtain ⟨W27,hW27⟩ : ∃ W' : World,(((W26.setCell ⟨gb10,0,none⟩ (.int .i64 0)).setCell ⟨gb10,1,none⟩ (.slice bLa bLn bLc)).setCell ⟨gb10,2,none⟩ (.slice bCa bCn bCc)).setCell ⟨gb10,3,none⟩ (.slice bQa bQn bQc) = W':=⟨_,rfl⟩
      rw [hW27] at RW27 bW27 b227
      have hS27 : W27.cell? ⟨w.heap.size,0,none⟩ = some (.int .i64 K) ∧ W27.cell? ra = some (.int .i64 v):=⟨by rw [b227.cell hlow.1,← b226.cell hlow.1]; exact hS26.1,by rw [b227.cell hlow.2,← b226.cell hlow.2]; exact hS26.2⟩
      replace hW27:=Hd hW27
      refine wpAnyH_ready (rs:=[14]) (by kernel_rfl) (by simp) (AllReadyH.cons rfl (fun KK hK => ?_) AllReadyH.nil)
      go_simp
      rw [hW27.out]
      refine hK.out _ _ hS27 fun _ => ?_
      clear hK KK t0 t1 t2 t3 ft0 ft1 ft2 ft3 mm oo lt RW26 hW27
      refine pqD 15 7 hS27 ?_
      refine wpAnyH_done (by kernel_rfl) ?_ _
      refine NoPanic.normal ?_
      replace n02:=Hd n02
      replace n03:=Hd n03
      replace n90:=Hd n90
      replace n91:=Hd n91
      replace n10:=Hd n10
      replace n11:=Hd n11
      replace n20:=Hd n20
      replace n21:=Hd n21
      replace n30:=Hd n30
      replace n31:=Hd n31
      replace RW27:=Hd RW27
      go_wp2
      go_meet
      case rel => exact ⟨rfl,gb9,gb10,L',C',Q',_,_,_,_,_,_,f27,rfl,rfl,bW27,hwi.out,RW27.out,n02.out,n03.out,n90.out,n91.out,n10.out,n11.out,n20.out,n21.out,n30.out,n31.out⟩
  case rest =>
   obtain ⟨rfl,g9,g10,L',C',Q',aL,aC,aQ,bL,bC,bQ,f9,rfl,rfl,bc,hwi,Rc,n02,n03,n90,n91,n10,n11,n20,n21,n30,n31⟩:=hcut
   obtain ⟨aLa,aLn,aLc,haL⟩:=(Rc.ownI n10).at.shape
   subst haL
   obtain ⟨bLa,bLn,bLc,hbL⟩:=(Rc.ownI n11).at.shape
   subst hbL
   obtain ⟨aCa,aCn,aCc,haC⟩:=(Rc.ownI n20).at.shape
   subst haC
   obtain ⟨bCa,bCn,bCc,hbC⟩:=(Rc.ownI n21).at.shape
   subst hbC
   obtain ⟨aQa,aQn,aQc,haQ⟩:=(Rc.ownI n30).at.shape
   subst haQ
   obtain ⟨bQa,bQn,bQc,hbQ⟩:=(Rc.ownI n31).at.shape
   subst hbQ
   have honeR:=honeL.out v m L' C' Q' hod.out hwi
   clear hwi
   replace honeR:=Hd honeR
   obtain ⟨V,hVd⟩ : ∃ V : World,wc.drew = V:=⟨_,rfl⟩
   have RV : Rows w.heap.size V f9:=by rw [← hVd]; exact Rc.drew
   have bV : Below w.heap.size w V:=by rw [← hVd]; exact bc.drew
   replace hVd:=Hd hVd
   clear Rc bc
   have hS : V.cell? ⟨g9,0,none⟩ = some (.int .i64 0) ∧ V.cell? ⟨g9,1,none⟩ = some (.slice aLa aLn aLc) ∧ V.cell? ⟨g9,2,none⟩ = some (.slice aCa aCn aCc) ∧ V.cell? ⟨g9,3,none⟩ = some (.slice aQa aQn aQc) ∧ V.cell? ⟨g10,0,none⟩ = some (.int .i64 0) ∧ V.cell? ⟨g10,1,none⟩ = some (.slice bLa bLn bLc) ∧ V.cell? ⟨g10,2,none⟩ = some (.slice bCa bCn bCc) ∧ V.cell? ⟨g10,3,none⟩ = some (.slice bQa bQn bQc):=by
    obtain ⟨a0,a1,a2,a3⟩:=RV.cells4 n90
    obtain ⟨d0,d1,d2,d3⟩:=RV.cells4 n91
    exact ⟨a0,a1,a2,a3,d0,d1,d2,d3⟩
   obtain ⟨g0,g1,g2,g3⟩:=RV.cells4 n02
   have fg0:=RV.frz4 n02 0
   have fg1:=RV.frz4 n02 1
   have fg2:=RV.frz4 n02 2
   have fg3:=RV.frz4 n02 3
   have lg0:=(RV.low4 n02).1
   obtain ⟨f15,R15,m02,o15⟩:=RV.all4 n02 (.int .i64 0) (.slice aLa aLn aLc) (.slice aCa aCn aCc) (.slice aQa aQn aQc)
   replace n03:=(o15 (0,3) (by decide)).trans n03
   replace n90:=(o15 (9,0) (by decide)).trans n90
   replace n91:=(o15 (9,1) (by decide)).trans n91
   replace n10:=(o15 (1,0) (by decide)).trans n10
   replace n11:=(o15 (1,1) (by decide)).trans n11
   replace n20:=(o15 (2,0) (by decide)).trans n20
   replace n21:=(o15 (2,1) (by decide)).trans n21
   replace n30:=(o15 (3,0) (by decide)).trans n30
   replace n31:=(o15 (3,1) (by decide)).trans n31
   have b15:=Below.all4 (g:=w.heap.size + 1) bV lg0 (.int .i64 0) (.slice aLa aLn aLc) (.slice aCa aCn aCc) (.slice aQa aQn aQc)
   obtain ⟨V15,hV15⟩ : ∃ V' : World,(((V.setCell ⟨w.heap.size + 1,0,none⟩ (.int .i64 0)).setCell ⟨w.heap.size + 1,1,none⟩ (.slice aLa aLn aLc)).setCell ⟨w.heap.size + 1,2,none⟩ (.slice aCa aCn aCc)).setCell ⟨w.heap.size + 1,3,none⟩ (.slice aQa aQn aQc) = V':=⟨_,rfl⟩
   rw [hV15] at R15 b15
   have hS15 : V15.cell? ⟨g9,0,none⟩ = some (.int .i64 0) ∧ V15.cell? ⟨g9,1,none⟩ = some (.slice aLa aLn aLc) ∧ V15.cell? ⟨g9,2,none⟩ = some (.slice aCa aCn aCc) ∧ V15.cell? ⟨g9,3,none⟩ = some (.slice aQa aQn aQc) ∧ V15.cell? ⟨g10,0,none⟩ = some (.int .i64 0) ∧ V15.cell? ⟨g10,1,none⟩ = some (.slice bLa bLn bLc) ∧ V15.cell? ⟨g10,2,none⟩ = some (.slice bCa bCn bCc) ∧ V15.cell? ⟨g10,3,none⟩ = some (.slice bQa bQn bQc):=by
    obtain ⟨a0,a1,a2,a3⟩:=R15.cells4 n90
    obtain ⟨d0,d1,d2,d3⟩:=R15.cells4 n91
    exact ⟨a0,a1,a2,a3,d0,d1,d2,d3⟩
   replace hV15:=Hd hV15
   clear n02 o15 RV bV lg0
   have n02:=m02
   clear m02
   go_upto_region 8 with fail
   refine wp_region_plan (fun w' => w'.cell? ⟨g9,0,none⟩ = some (.int .i64 0) ∧ w'.cell? ⟨g9,1,none⟩ = some (.slice aLa aLn aLc) ∧ w'.cell? ⟨g9,2,none⟩ = some (.slice aCa aCn aCc) ∧ w'.cell? ⟨g9,3,none⟩ = some (.slice aQa aQn aQc) ∧ w'.cell? ⟨g10,0,none⟩ = some (.int .i64 0) ∧ w'.cell? ⟨g10,1,none⟩ = some (.slice bLa bLn bLc) ∧ w'.cell? ⟨g10,2,none⟩ = some (.slice bCa bCn bCc) ∧ w'.cell? ⟨g10,3,none⟩ = some (.slice bQa bQn bQc)) 6 [(0,true),(1,true),(2,true),(3,true),(4,false),(5,false)] (by kernel_rfl) (by kernel_rfl) ?_
   rw [hVd.out]
   refine pqY 50 hS ?_
   refine pqY 51 hS ?_
   refine pqY 52 hS ?_
   refine pqY 2 hS ?_
   refine headC rfl (fun KK hK => ?_)
   go_simp
   rw [hV15.out]
   refine hK _ _ hS15 ?_
   clear hK KK hS g0 g1 g2 g3 fg0 fg1 fg2 fg3
   obtain ⟨h0,h1,h2,h3⟩:=R15.cells4 n03
   have fh0:=R15.frz4 n03 0
   have fh1:=R15.frz4 n03 1
   have fh2:=R15.frz4 n03 2
   have fh3:=R15.frz4 n03 3
   have lh0:=(R15.low4 n03).1
   obtain ⟨f16,R16,m03,o16⟩:=R15.all4 n03 (.int .i64 0) (.slice bLa bLn bLc) (.slice bCa bCn bCc) (.slice bQa bQn bQc)
   replace n02:=(o16 (0,2) (by decide)).trans n02
   replace n90:=(o16 (9,0) (by decide)).trans n90
   replace n91:=(o16 (9,1) (by decide)).trans n91
   replace n10:=(o16 (1,0) (by decide)).trans n10
   replace n11:=(o16 (1,1) (by decide)).trans n11
   replace n20:=(o16 (2,0) (by decide)).trans n20
   replace n21:=(o16 (2,1) (by decide)).trans n21
   replace n30:=(o16 (3,0) (by decide)).trans n30
   replace n31:=(o16 (3,1) (by decide)).trans n31
   have b16:=Below.all4 (g:=w.heap.size + 2) b15 lh0 (.int .i64 0) (.slice bLa bLn bLc) (.slice bCa bCn bCc) (.slice bQa bQn bQc)
   obtain ⟨V16,hV16⟩ : ∃ V' : World,(((V15.setCell ⟨w.heap.size + 2,0,none⟩ (.int .i64 0)).setCell ⟨w.heap.size + 2,1,none⟩ (.slice bLa bLn bLc)).setCell ⟨w.heap.size + 2,2,none⟩ (.slice bCa bCn bCc)).setCell ⟨w.heap.size + 2,3,none⟩ (.slice bQa bQn bQc) = V':=⟨_,rfl⟩
   rw [hV16] at R16 b16
   have hS16 : V16.cell? ⟨g9,0,none⟩ = some (.int .i64 0) ∧ V16.cell? ⟨g9,1,none⟩ = some (.slice aLa aLn aLc) ∧ V16.cell? ⟨g9,2,none⟩ = some (.slice aCa aCn aCc) ∧ V16.cell? ⟨g9,3,none⟩ = some (.slice aQa aQn aQc) ∧ V16.cell? ⟨g10,0,none⟩ = some (.int .i64 0) ∧ V16.cell? ⟨g10,1,none⟩ = some (.slice bLa bLn bLc) ∧ V16.cell? ⟨g10,2,none⟩ = some (.slice bCa bCn bCc) ∧ V16.cell? ⟨g10,3,none⟩ = some (.slice bQa bQn bQc):=by
    obtain ⟨a0,a1,a2,a3⟩:=R16.cells4 n90
    obtain ⟨d0,d1,d2,d3⟩:=R16.cells4 n91
    exact ⟨a0,a1,a2,a3,d0,d1,d2,d3⟩
   replace hV16:=Hd hV16
   clear n03 o16 R15 b15 lh0
   have n03:=m03
   clear m03
   refine headC rfl (fun KK hK => ?_)
   go_simp
   rw [hV16.out]
   refine hK _ _ hS16 ?_
   clear hK KK hS15 h0 h1 h2 h3 fh0 fh1 fh2 fh3
   refine head0 ?_
   simp only [List.drop_succ_cons,List.drop_zero]
   clear hS16
   obtain ⟨g0,g1,g2,g3⟩:=R16.cells4 n02
   obtain ⟨h0,h1,h2,h3⟩:=R16.cells4 n03
   replace n02:=Hd n02
   replace n03:=Hd n03
   replace n90:=Hd n90
   replace n91:=Hd n91
   replace n10:=Hd n10
   replace n11:=Hd n11
   replace n20:=Hd n20
   replace n21:=Hd n21
   replace n30:=Hd n30
   replace n31:=Hd n31
   replace R16:=Hd R16
   go_wp2
   refine NoPanic.normal ?_
   go_wp2
   (try simp only [Exit.inBlock,Exit.then])
   refine bodyPost_ret (v:=.tuple #[.bool false,.agg #[.int .i64 0,.slice aLa aLn aLc,.slice aCa aCn aCc,.slice aQa aQn aQc],.agg #[.int .i64 0,.slice bLa bLn bLc,.slice bCa bCn bCc,.slice bQa bQn bQc],.nilIface]) (by simp [results,Tryz.results16,go_sem,g0,g1,g2,g3,h0,h1,h2,h3]) rfl ?_
   exact ⟨_,_,_,_,rfl,b16,rfl,.inr ⟨rfl,hno.out,L',C',Q',_,_,_,_,_,_,honeR.out,rfl,rfl,f16,R16.out,n10.out,n11.out,n20.out,n21.out,n30.out,n31.out⟩⟩
theorem WitIs.pos {G : List (List Int)} {v : Nat} {L C Q : List Nat} (h : WitIs G v L C Q) : 1 ≤ L.length ∧ 1 ≤ Q.length:=by
 obtain ⟨c,d,u1,u2,I,O,_,_,hc,_,h3,_,_,_,rfl,rfl,rfl⟩:=h
 refine ⟨?_,by simp⟩
 have he:=h3.way.ends
 obtain ⟨w',hw⟩:=h3.way.ne
 cases hd : u1.dropLast with
 | nil =>
  rw [hd,hw] at he
  simp at he
  omega
 | cons x l => simp
theorem OneIs.pos {K R : Nat} {T : List Int} {L C Q : List Nat} (h : OneIs K R T L C Q) : 1 ≤ L.length ∧ 1 ≤ Q.length:=by
 obtain ⟨_,_,_,_,_,h3⟩:=h
 exact h3.pos
/-- The answer, and the two rows' shape. -/
theorem OnePost.ans {w w' : World} {K R : Nat} {T : List Int} {yes x y e : Value} (h : OnePost w K R T yes x y e w') : e = .nilIface ∧ ∃ Y,yes = .bool Y ∧ (Y = true ↔ ¬ NotOne K R T) ∧
 ∃ a1 n1 c1 a2 n2 c2 a3 n3 c3 a4 n4 c4 a5 n5 c5 a6 n6 c6,x = .agg #[.int .i64 0,.slice a1 n1 c1,.slice a2 n2 c2,.slice a3 n3 c3] ∧ y = .agg #[.int .i64 0,.slice a4 n4 c4,.slice a5 n5 c5,.slice a6 n6 c6]:=by
 obtain ⟨rfl,⟨rfl,rfl,rfl,hn⟩ | ⟨rfl,hn,L,C,Q,aL,aC,aQ,bL,bC,bQ,_,rfl,rfl,f,hr,h1,h2,h3,h4,h5,h6⟩⟩:=h
 ·exact ⟨rfl,true,rfl,⟨fun _ => hn,fun _ => rfl⟩,_,_,_,_,_,_,_,_,_,_,_,_,_,_,_,_,_,_,rfl,rfl⟩
 ·obtain ⟨_,_,_,rfl⟩:=(hr.ownI h1).at.shape
  obtain ⟨_,_,_,rfl⟩:=(hr.ownI h2).at.shape
  obtain ⟨_,_,_,rfl⟩:=(hr.ownI h3).at.shape
  obtain ⟨_,_,_,rfl⟩:=(hr.ownI h4).at.shape
  obtain ⟨_,_,_,rfl⟩:=(hr.ownI h5).at.shape
  obtain ⟨_,_,_,rfl⟩:=(hr.ownI h6).at.shape
  exact ⟨rfl,false,rfl,⟨fun h => (by cases h),fun h => absurd hn h⟩,_,_,_,_,_,_,_,_,_,_,_,_,_,_,_,_,_,_,rfl,rfl⟩
end Go.Proofs.YtncpnaoabkjegaaGreatDoor
namespace Go.Proofs.YtncpnaoabkjegaaGreatDoor
theorem right_ext {K R : Nat} {T : List Int} (h : RuleOk K R T) (hp : unlikeP K T 1 = true) {u : List Int} (hu : Syms K u) (hl : u.length = 2 * R) {y : Int} (y0 : 0 ≤ y) (y1 : y < K) : ∃ s : Int,0 ≤ s ∧ s < K ∧ T.getD (numW K (u ++ [s])) 0 = y:=by
 have h1:=h.k1
 have hn:=numW_lt u hu
 rw [hl] at hn
 have hf:=unlikeP_full hp (numW K u * K) (by rw [h.half.2]; exact Nat.mul_lt_mul_of_pos_right hn (by omega)) (by rw [Nat.div_one,Nat.mul_mod_left])
 obtain ⟨s,hs,he⟩:=fullP_all h1 h.syms hf y.toNat (by omega)
 rw [Nat.mul_one] at he
 refine ⟨s,by omega,by omega,?_⟩
 rw [numW_snoc,Int.toNat_natCast,he]
 omega
theorem left_ext {K R : Nat} {T : List Int} (h : RuleOk K R T) (hp : unlikeP K T (T.length / K) = true) {u : List Int} (hu : Syms K u) (hl : u.length = 2 * R) {y : Int} (y0 : 0 ≤ y) (y1 : y < K) : ∃ s : Int,0 ≤ s ∧ s < K ∧ T.getD (numW K (s :: u)) 0 = y:=by
 obtain ⟨s,s0,s1,e⟩:=right_ext (mirT_ok h) (by rw [(mir_sides h).2]; exact hp) (syms_rev hu) (by rw [List.length_reverse,hl]) y0 y1
 refine ⟨s,s0,s1,?_⟩
 have sw : Syms K (u.reverse ++ [s]):=syms_snoc s0 s1 (syms_rev hu)
 rw [mirT_at h.k1 h.len _ sw (by simp [hl]),List.reverse_append,List.reverse_reverse] at e
 exact e
/-- The first place where two words differ. -/
theorem firstP_ne {a b : List Int} (hl : a.length = b.length) (hne : a ≠ b) : ∃ t,t < a.length ∧ a.getD t 0 ≠ b.getD t 0 ∧ ∀ i,i < t → a.getD i 0 = b.getD i 0:=by
 have key : ∀ n,(∃ t,t ≤ n ∧ t < a.length ∧ a.getD t 0 ≠ b.getD t 0) → ∃ t,t < a.length ∧ a.getD t 0 ≠ b.getD t 0 ∧ ∀ i,i < t → a.getD i 0 = b.getD i 0:=by
  intro n
  induction n with
  | zero => rintro ⟨t,h1,h2,h3⟩; exact ⟨t,h2,h3,fun i hi => by omega⟩
  | succ n ih =>
   rintro ⟨t,h1,h2,h3⟩
   by_cases q : ∃ t,t ≤ n ∧ t < a.length ∧ a.getD t 0 ≠ b.getD t 0
   ·exact ih q
   ·refine ⟨t,h2,h3,fun i hi => Classical.byContradiction fun r => q ⟨i,by omega,by omega,r⟩⟩
 obtain ⟨j,hj,h⟩:=ne_at hl hne
 exact key j ⟨j,Nat.le_refl _,hj,h⟩
theorem right_no_twins {K R : Nat} {T : List Int} (h : RuleOk K R T) (hp : unlikeP K T 1 = true) (a b : List Int) : ¬ IsTwins K R T a b:=fun t => by
 have hw:=(unlike_rightW h).1 hp
 have hl:=t.len
 obtain ⟨i,hi,hne,heq⟩:=firstP_ne hl t.ne
 have hi2 : 2 * R ≤ i:=by
  apply Classical.byContradiction
  intro q
  have e:=congrArg (fun l : List Int => l.getD i 0) t.front
  rw [List.getD_eq_getElem?_getD,List.getD_eq_getElem?_getD,List.getElem?_take,List.getElem?_take,if_pos (by omega),if_pos (by omega),← List.getD_eq_getElem?_getD,← List.getD_eq_getElem?_getD] at e
  exact hne e
 have hu : (a.drop (i - 2 * R)).take (2 * R) = (b.drop (i - 2 * R)).take (2 * R):=ext_getD (by simp only [List.length_take,List.length_drop]; omega) fun k hk => by
  rw [List.length_take,List.length_drop] at hk
  rw [sub_get (by omega),sub_get (by omega)]
  exact heq _ (by omega)
 have win : ∀ c : List Int,c.length = a.length → (c.drop (i - 2 * R)).take (2 * R + 1) = (c.drop (i - 2 * R)).take (2 * R) ++ [c.getD i 0]:=fun c hc => by
  have hk : 2 * R < (c.drop (i - 2 * R)).length:=by rw [List.length_drop]; omega
  rw [List.take_succ_eq_append_getElem hk]
  congr 2
  rw [List.getElem_drop]
  have : i - 2 * R + 2 * R = i:=by omega
  simp [this,List.getD,show i < c.length by omega]
 have e:=congrArg (fun l : List Int => l.getD (i - 2 * R) 0) t.img
 rw [imgP_getD _ _ _ _ _ (by omega),imgP_getD _ _ _ _ _ (by omega),win a rfl,win b hl.symm,hu] at e
 have ga:=getD_syms t.sa hi
 have gb:=getD_syms t.sb (i:=i) (by omega)
 exact hw _ (syms_take (syms_drop t.sb _) _) (by rw [List.length_take,List.length_drop]; omega) _ _ ga.1 ga.2 gb.1 gb.2 hne e
theorem side_no_twins {K R : Nat} {T : List Int} (h : RuleOk K R T) (hp : unlikeP K T (T.length / K) = true ∨ unlikeP K T 1 = true) (a b : List Int) : ¬ IsTwins K R T a b:=fun t => by
 rcases hp with hp | hp
 ·exact right_no_twins (mirT_ok h) (by rw [(mir_sides h).2]; exact hp) _ _ (mir_twins h t)
 ·exact right_no_twins h hp a b t
theorem side_onto {K R : Nat} {T : List Int} (h : RuleOk K R T) (hp : unlikeP K T (T.length / K) = true ∨ unlikeP K T 1 = true) : Onto K R T:=onto_of_no_twins h (side_no_twins h hp)
/-- Words all of whose windows have one answer. -/
def AllAt (K R : Nat) (T : List Int) (z : Int) (x : List Int) : Prop:=∀ j,j + 2 * R < x.length → T.getD (numW K ((x.drop j).take (2 * R + 1))) 0 = z
theorem all_right {K R : Nat} {T : List Int} (h : RuleOk K R T) (hp : unlikeP K T 1 = true) {z : Int} (z0 : 0 ≤ z) (z1 : z < K) {x : List Int} (sx : Syms K x) (hx : AllAt K R T z x) (hl : 2 * R ≤ x.length) : ∃ v : Int,0 ≤ v ∧ v < K ∧ AllAt K R T z (x ++ [v]):=by
 obtain ⟨v,v0,v1,e⟩:=right_ext h hp (u:=x.drop (x.length - 2 * R)) (syms_drop sx _) (by rw [List.length_drop]; omega) z0 z1
 refine ⟨v,v0,v1,fun j hj => ?_⟩
 rw [List.length_append,List.length_singleton] at hj
 by_cases q : j + 2 * R < x.length
 ·rw [List.drop_append_of_le_length (by omega),List.take_append_of_le_length (by rw [List.length_drop]; omega)]
  exact hx j q
 ·obtain rfl : j = x.length - 2 * R:=by omega
  rw [List.drop_append_of_le_length (by omega),List.take_of_length_le (by simp; omega)]
  exact e
theorem all_left {K R : Nat} {T : List Int} (h : RuleOk K R T) (hp : unlikeP K T (T.length / K) = true) {z : Int} (z0 : 0 ≤ z) (z1 : z < K) {x : List Int} (sx : Syms K x) (hx : AllAt K R T z x) (hl : 2 * R ≤ x.length) : ∃ v : Int,0 ≤ v ∧ v < K ∧ AllAt K R T z (v :: x):=by
 obtain ⟨v,v0,v1,e⟩:=left_ext h hp (u:=x.take (2 * R)) (syms_take sx _) (by rw [List.length_take]; omega) z0 z1
 refine ⟨v,v0,v1,fun j hj => ?_⟩
 rw [List.length_cons] at hj
 cases j with
 | zero => rw [List.drop_zero,List.take_succ_cons]; exact e
 | succ j => rw [List.drop_succ_cons]; exact hx j (by omega)
theorem all_word {K R : Nat} {T : List Int} (h : RuleOk K R T) (hl : unlikeP K T (T.length / K) = true) (hr : unlikeP K T 1 = true) (hK : 2 ≤ K) (hR : 1 ≤ R) {z : Int} (z0 : 0 ≤ z) (z1 : z < K) : ∀ L M,∃ x,Syms K x ∧ AllAt K R T z x ∧ x.length = L + 2 * R + M ∧ x.getD L 0 = 1:=by
 intro L
 have left : ∃ x,Syms K x ∧ AllAt K R T z x ∧ x.length = L + 2 * R ∧ x.getD L 0 = 1:=by
  induction L with
  | zero =>
   refine ⟨1 :: List.replicate (2 * R - 1) 0,fun q hq => ?_,fun j hj => ?_,by simp; omega,rfl⟩
   ·rcases List.mem_cons.1 hq with rfl | hq
    ·omega
    ·rw [List.eq_of_mem_replicate hq]; omega
   ·rw [List.length_cons,List.length_replicate] at hj; omega
  | succ L ih =>
   obtain ⟨x,sx,ax,lx,dx⟩:=ih
   obtain ⟨v,v0,v1,av⟩:=all_left h hl z0 z1 sx ax (by omega)
   exact ⟨v :: x,syms_cons v0 v1 sx,av,by simp [lx]; omega,by rw [List.getD_cons_succ]; exact dx⟩
 intro M
 induction M with
 | zero => exact left
 | succ M ih =>
  obtain ⟨x,sx,ax,lx,dx⟩:=ih
  obtain ⟨v,v0,v1,av⟩:=all_right h hr z0 z1 sx ax (by omega)
  refine ⟨x ++ [v],syms_snoc v0 v1 sx,av,by simp [lx]; omega,?_⟩
  rw [← dx]
  simp [List.getD,List.getElem?_append_left (show L < x.length by omega)]
/-- A rule that permutes at both sides is not one to one, but for one symbol or radius 0. -/
theorem sides_not_one {K R : Nat} {T : List Int} (h : RuleOk K R T) (hl : unlikeP K T (T.length / K) = true) (hr : unlikeP K T 1 = true) (hK : 2 ≤ K) (hR : 1 ≤ R) : NotOne K R T:=fun n => by
 have hT : 0 < T.length:=by rw [h.len]; exact pw_pos _ h.k1
 have gz:=getD_syms h.syms hT
 obtain ⟨x,sx,ax,lx,dx⟩:=all_word h hl hr hK hR gz.1 gz.2 n (n + 1)
 have sO : Syms K (List.replicate (2 * n + 1) (0 : Int)):=fun q hq => by rw [List.eq_of_mem_replicate hq]; omega
 refine ⟨x.take (2 * n + 1),List.replicate (2 * n + 1) 0,syms_take sx _,sO,by rw [List.length_take]; omega,by simp,?_,?_⟩
 ·rw [List.getD_eq_getElem?_getD,List.getElem?_take,if_pos (by omega),← List.getD_eq_getElem?_getD,dx]
  simp [List.getD,show n < 2 * n + 1 by omega]
 ·refine ext_getD (by rw [imgP_length,imgP_length,List.length_take]; simp; omega) fun j hj => ?_
  rw [imgP_length,List.length_take] at hj
  rw [imgP_getD _ _ _ _ _ (by rw [List.length_take]; omega),imgP_getD _ _ _ _ _ (by simp; omega)]
  have e1 : ((x.take (2 * n + 1)).drop j).take (2 * R + 1) = (x.drop j).take (2 * R + 1):=by rw [List.drop_take,List.take_take,Nat.min_eq_left (by omega)]
  rw [e1,ax j (by omega),List.drop_replicate,List.take_replicate]
  congr 1
  have key : ∀ m,numW K (List.replicate m (0 : Int)) = 0:=fun m => by
   induction m with
   | zero => rfl
   | succ m ih => rw [List.replicate_succ',numW_snoc,ih]; simp
  exact (key _).symm
open Go.RowKit
set_option maxRecDepth 100000
set_option maxHeartbeats 4000000 in
theorem permutOntos_bad (r : Nat → Addr) (k R : Int) (va : Option Addr) (vn vc : Nat) (T : List Int) (w : World) (hg : Glob r w) (hG : GlobE w) (h : IntsAt w (.slice va vn vc) T) (t : Int × List (ByteArray × Int)) (hc : checkP k R T = some t) :
 Calls Tryz.prog 3 #[.agg #[.int .i64 k,.int .i64 R,.slice va vn vc]] w (Ret1 (fun x _ => x = .bool true) w):=by
 have b0:=belowAlloc w (.cells #[.int .i64 k,.int .i64 R,.slice va vn vc] 24)
 have q : Box3 (w.alloc (.cells #[.int .i64 k,.int .i64 R,.slice va vn vc] 24)) w.heap.size (.int .i64 k) (.int .i64 R) (.slice va vn vc):=by simp [Box3,go_sem]
 replace hg:=Hd (hg.below b0)
 replace hG:=Hd (hG.below b0)
 replace h:=Hd (h.below b0)
 replace hc:=Hd hc
 go_enter Tryz.func3,Tryz.ntmps3
 go_wp2_with fail
 refine (awake19 r _ hg.out).mono ?_
 rintro e w1 ⟨_,rfl,b1,rfl⟩
 obtain ⟨⟨q_0,q_1,q_2⟩,-,-,-⟩:=(q.below b1)
 go_wp2_with fail
 refine (sides_bad r k R va vn vc T t _ (hg.out.below b1) (h.out.below b1) hc.out).mono ?_
 rintro e w2 ⟨_,_,e3,rfl,b2,rfl,rfl,he⟩
 obtain ⟨T3,p3,rfl⟩ : ∃ T a,e3 = .iface T (.pointer (some a)):=by
  unfold under at he
  exact ErrIs.some_shape he
 replace he:=Hd he
 clear q_0 q_1 q_2
 have c0_2:=Below.step b1 b2
 have bE:=Below.step b0 c0_2
 go_wp2
 go_ret
 exact ⟨_,rfl,bE,rfl⟩
set_option maxHeartbeats 4000000 in
theorem permutOntos_ok (r : Nat → Addr) (K R : Nat) (va : Option Addr) (vn vc : Nat) (T : List Int) (w : World) (hg : Glob r w) (hG : GlobE w) (h : IntsAt w (.slice va vn vc) T) (hr : RuleOk K R T) (lv rv : Bool) (hlv : unlikeP K T (T.length / K) = lv) (hrv : unlikeP K T 1 = rv) :
 Calls Tryz.prog 3 #[.agg #[.int .i64 K,.int .i64 R,.slice va vn vc]] w (Ret1 (fun x _ => x = .bool true) w):=by
 have b0:=belowAlloc w (.cells #[.int .i64 K,.int .i64 R,.slice va vn vc] 24)
 have q : Box3 (w.alloc (.cells #[.int .i64 K,.int .i64 R,.slice va vn vc] 24)) w.heap.size (.int .i64 K) (.int .i64 R) (.slice va vn vc):=by simp [Box3,go_sem]
 replace hg:=Hd (hg.below b0)
 replace hG:=Hd (hG.below b0)
 replace h:=Hd (h.below b0)
 have hk1:=hr.k1
 have hsm:=smallP_ok hr
 have hnt : lv = true ∨ rv = true → ∀ a b,¬ IsTwins K R T a b:=fun q a b => side_no_twins hr (by rw [hlv,hrv]; exact q) a b
 have hon : lv = true ∨ rv = true → Onto K R T:=fun q => side_onto hr (by rw [hlv,hrv]; exact q)
 have hno : lv = true → rv = true → 2 ≤ K → 1 ≤ R → NotOne K R T:=fun a b c d => sides_not_one hr (by rw [hlv,a]) (by rw [hrv,b]) c d
 obtain ⟨S,hS⟩ : ∃ S,subR K (pw K (2 * R)) T = S:=⟨_,rfl⟩
 replace hr:=Hd hr
 replace hlv:=Hd hlv
 replace hrv:=Hd hrv
 replace hsm:=Hd hsm
 replace hnt:=Hd hnt
 replace hon:=Hd hon
 replace hno:=Hd hno
 replace hS:=Hd hS
 go_enter Tryz.func3,Tryz.ntmps3
 go_wp2_with fail
 refine (awake19 r _ hg.out).mono ?_
 rintro e w1 ⟨_,rfl,b1,rfl⟩
 obtain ⟨⟨q_0,q_1,q_2⟩,-,-,-⟩:=(q.below b1)
 go_wp2_with fail
 refine (sides_ok K R va vn vc T _ (h.out.below b1) hr.out).mono ?_
 rintro e w2 ⟨_,_,_,rfl,b2,rfl,rfl,rfl⟩
 rw [hlv.out,hrv.out]
 clear q_0 q_1 q_2
 have c0_2:=Below.step b1 b2
 obtain ⟨⟨q_0,q_1,q_2⟩,-,-,-⟩:=(q.below c0_2)
 go_wp2_with fail
 refine (small_any r K R va vn vc T _ (hg.out.below c0_2) (h.out.below c0_2)).mono ?_
 rintro e w3 ⟨e3,rfl,b3,he⟩
 clear q_0 q_1 q_2
 rw [hsm.out] at he
 by_cases hl : T.length ≤ 256
 ·rw [if_neg (by omega)] at he
  obtain rfl:=he.none_eq
  clear he
  cases lv <;> cases rv
  ·have c0_3:=Below.step c0_2 b3
   have bE:=Below.step b0 c0_3
   go_wp2
   go_ret
   exact ⟨_,rfl,bE,rfl⟩
  ·replace hnt:=Hd (hnt.out (.inr rfl))
   replace hon:=Hd (hon.out (.inr rfl))
   have c0_3:=Below.step c0_2 b3
   obtain ⟨⟨q_0,q_1,q_2⟩,-,-,-⟩:=(q.below c0_3)
   go_wp2_with fail
   refine (sub_onto r K R va vn vc T _ (hg.out.below c0_3) (hG.out.below c0_3) (h.out.below c0_3) hr.out hl).mono ?_
   rintro e w4 ⟨_,_,_,rfl,b4,ho⟩
   clear q_0 q_1 q_2
   rw [hS.out] at ho
   cases S with
   | on sa sb =>
    obtain ⟨rfl,rfl,rfl⟩:=ho
    have c0_4:=Below.step c0_3 b4
    obtain ⟨⟨q_0,q_1,q_2⟩,-,-,-⟩:=(q.below c0_4)
    go_wp2_with fail
    refine (finite_ok r K R va vn vc T _ (hg.out.below c0_4) (h.out.below c0_4) hr.out hl).mono ?_
    rintro e w5 ⟨_,_,_,_,rfl,b5,hf⟩
    clear q_0 q_1 q_2
    obtain ⟨rfl,hf⟩:=hf
    replace hf:=hf.resolve_right (by rintro ⟨-,x1,y1,-,ht,-⟩; exact hnt.out x1 y1 ht)
    obtain ⟨rfl,rfl,rfl,-⟩:=hf
    have c0_5:=Below.step c0_4 b5
    obtain ⟨⟨q_0,q_1,q_2⟩,-,-,-⟩:=(q.below c0_5)
    have nn : ∀ w',(Builtin.len_ #[22] 3 #[.slice none 0 0]).run Tryz.prog w' = .ok (.int .i64 0) w':=(OwnI.nil 0 w).at.len
    go_wp2_with fail
    refine (one_ok r K R va vn vc T _ (hg.out.below c0_5) (h.out.below c0_5) hr.out hl).mono ?_
    rintro e w6 ⟨_,_,_,_,rfl,b6,hp⟩
    clear q_0 q_1 q_2
    obtain ⟨rfl,Y,rfl,hY,e1,f1,g1,e2,f2,g2,e3,f3,g3,e4,f4,g4,e5,f5,g5,e6,f6,g6,rfl,rfl⟩:=hp.ans
    clear hp
    have al6:=(Below.step (belowAlloc w6 (.cells #[.int .i64 0,.slice e1 f1 g1,.slice e2 f2 g2,.slice e3 f3 g3] 36)) (belowAlloc _ (.cells #[.int .i64 0,.slice e4 f4 g4,.slice e5 f5 g5,.slice e6 f6 g6] 36)))
    have d6:=Below.step b6 al6
    have c0_6:=Below.step c0_5 d6
    obtain ⟨⟨q_0,q_1,q_2⟩,-,-,-⟩:=(q.below c0_6)
    have bE:=Below.step b0 c0_6
    clear hY
    cases Y <;> (go_wp2; go_ret; exact ⟨_,rfl,bE,rfl⟩)
   | orphan wd =>
    exact absurd hon.out (sub_not_onto hr.out hS.out)
   | big =>
    obtain ⟨rfl,rfl,he⟩:=ho
    obtain ⟨T9,p9,rfl⟩:=he.some_shape
    clear he
    have c0_4:=Below.step c0_3 b4
    obtain ⟨⟨q_0,q_1,q_2⟩,-,-,-⟩:=(q.below c0_4)
    go_wp2_with fail
    refine (finite_ok r K R va vn vc T _ (hg.out.below c0_4) (h.out.below c0_4) hr.out hl).mono ?_
    rintro e w5 ⟨_,_,_,_,rfl,b5,hf⟩
    clear q_0 q_1 q_2
    obtain ⟨rfl,hf⟩:=hf
    replace hf:=hf.resolve_right (by rintro ⟨-,x1,y1,-,ht,-⟩; exact hnt.out x1 y1 ht)
    obtain ⟨rfl,rfl,rfl,-⟩:=hf
    have c0_5:=Below.step c0_4 b5
    obtain ⟨⟨q_0,q_1,q_2⟩,-,-,-⟩:=(q.below c0_5)
    have nn : ∀ w',(Builtin.len_ #[22] 3 #[.slice none 0 0]).run Tryz.prog w' = .ok (.int .i64 0) w':=(OwnI.nil 0 w).at.len
    go_wp2_with fail
    refine (one_ok r K R va vn vc T _ (hg.out.below c0_5) (h.out.below c0_5) hr.out hl).mono ?_
    rintro e w6 ⟨_,_,_,_,rfl,b6,hp⟩
    clear q_0 q_1 q_2
    obtain ⟨rfl,Y,rfl,hY,e1,f1,g1,e2,f2,g2,e3,f3,g3,e4,f4,g4,e5,f5,g5,e6,f6,g6,rfl,rfl⟩:=hp.ans
    clear hp
    have al6:=(Below.step (belowAlloc w6 (.cells #[.int .i64 0,.slice e1 f1 g1,.slice e2 f2 g2,.slice e3 f3 g3] 36)) (belowAlloc _ (.cells #[.int .i64 0,.slice e4 f4 g4,.slice e5 f5 g5,.slice e6 f6 g6] 36)))
    have d6:=Below.step b6 al6
    have c0_6:=Below.step c0_5 d6
    obtain ⟨⟨q_0,q_1,q_2⟩,-,-,-⟩:=(q.below c0_6)
    have bE:=Below.step b0 c0_6
    clear hY
    cases Y <;> (go_wp2; go_ret; exact ⟨_,rfl,bE,rfl⟩)
  ·replace hnt:=Hd (hnt.out (.inl rfl))
   replace hon:=Hd (hon.out (.inl rfl))
   have c0_3:=Below.step c0_2 b3
   obtain ⟨⟨q_0,q_1,q_2⟩,-,-,-⟩:=(q.below c0_3)
   go_wp2_with fail
   refine (sub_onto r K R va vn vc T _ (hg.out.below c0_3) (hG.out.below c0_3) (h.out.below c0_3) hr.out hl).mono ?_
   rintro e w4 ⟨_,_,_,rfl,b4,ho⟩
   clear q_0 q_1 q_2
   rw [hS.out] at ho
   cases S with
   | on sa sb =>
    obtain ⟨rfl,rfl,rfl⟩:=ho
    have c0_4:=Below.step c0_3 b4
    obtain ⟨⟨q_0,q_1,q_2⟩,-,-,-⟩:=(q.below c0_4)
    go_wp2_with fail
    refine (finite_ok r K R va vn vc T _ (hg.out.below c0_4) (h.out.below c0_4) hr.out hl).mono ?_
    rintro e w5 ⟨_,_,_,_,rfl,b5,hf⟩
    clear q_0 q_1 q_2
    obtain ⟨rfl,hf⟩:=hf
    replace hf:=hf.resolve_right (by rintro ⟨-,x1,y1,-,ht,-⟩; exact hnt.out x1 y1 ht)
    obtain ⟨rfl,rfl,rfl,-⟩:=hf
    have c0_5:=Below.step c0_4 b5
    obtain ⟨⟨q_0,q_1,q_2⟩,-,-,-⟩:=(q.below c0_5)
    have nn : ∀ w',(Builtin.len_ #[22] 3 #[.slice none 0 0]).run Tryz.prog w' = .ok (.int .i64 0) w':=(OwnI.nil 0 w).at.len
    go_wp2_with fail
    refine (one_ok r K R va vn vc T _ (hg.out.below c0_5) (h.out.below c0_5) hr.out hl).mono ?_
    rintro e w6 ⟨_,_,_,_,rfl,b6,hp⟩
    clear q_0 q_1 q_2
    obtain ⟨rfl,Y,rfl,hY,e1,f1,g1,e2,f2,g2,e3,f3,g3,e4,f4,g4,e5,f5,g5,e6,f6,g6,rfl,rfl⟩:=hp.ans
    clear hp
    have al6:=(Below.step (belowAlloc w6 (.cells #[.int .i64 0,.slice e1 f1 g1,.slice e2 f2 g2,.slice e3 f3 g3] 36)) (belowAlloc _ (.cells #[.int .i64 0,.slice e4 f4 g4,.slice e5 f5 g5,.slice e6 f6 g6] 36)))
    have d6:=Below.step b6 al6
    have c0_6:=Below.step c0_5 d6
    obtain ⟨⟨q_0,q_1,q_2⟩,-,-,-⟩:=(q.below c0_6)
    have bE:=Below.step b0 c0_6
    clear hY
    cases Y <;> (go_wp2; go_ret; exact ⟨_,rfl,bE,rfl⟩)
   | orphan wd =>
    exact absurd hon.out (sub_not_onto hr.out hS.out)
   | big =>
    obtain ⟨rfl,rfl,he⟩:=ho
    obtain ⟨T9,p9,rfl⟩:=he.some_shape
    clear he
    have c0_4:=Below.step c0_3 b4
    obtain ⟨⟨q_0,q_1,q_2⟩,-,-,-⟩:=(q.below c0_4)
    go_wp2_with fail
    refine (finite_ok r K R va vn vc T _ (hg.out.below c0_4) (h.out.below c0_4) hr.out hl).mono ?_
    rintro e w5 ⟨_,_,_,_,rfl,b5,hf⟩
    clear q_0 q_1 q_2
    obtain ⟨rfl,hf⟩:=hf
    replace hf:=hf.resolve_right (by rintro ⟨-,x1,y1,-,ht,-⟩; exact hnt.out x1 y1 ht)
    obtain ⟨rfl,rfl,rfl,-⟩:=hf
    have c0_5:=Below.step c0_4 b5
    obtain ⟨⟨q_0,q_1,q_2⟩,-,-,-⟩:=(q.below c0_5)
    have nn : ∀ w',(Builtin.len_ #[22] 3 #[.slice none 0 0]).run Tryz.prog w' = .ok (.int .i64 0) w':=(OwnI.nil 0 w).at.len
    go_wp2_with fail
    refine (one_ok r K R va vn vc T _ (hg.out.below c0_5) (h.out.below c0_5) hr.out hl).mono ?_
    rintro e w6 ⟨_,_,_,_,rfl,b6,hp⟩
    clear q_0 q_1 q_2
    obtain ⟨rfl,Y,rfl,hY,e1,f1,g1,e2,f2,g2,e3,f3,g3,e4,f4,g4,e5,f5,g5,e6,f6,g6,rfl,rfl⟩:=hp.ans
    clear hp
    have al6:=(Below.step (belowAlloc w6 (.cells #[.int .i64 0,.slice e1 f1 g1,.slice e2 f2 g2,.slice e3 f3 g3] 36)) (belowAlloc _ (.cells #[.int .i64 0,.slice e4 f4 g4,.slice e5 f5 g5,.slice e6 f6 g6] 36)))
    have d6:=Below.step b6 al6
    have c0_6:=Below.step c0_5 d6
    obtain ⟨⟨q_0,q_1,q_2⟩,-,-,-⟩:=(q.below c0_6)
    have bE:=Below.step b0 c0_6
    clear hY
    cases Y <;> (go_wp2; go_ret; exact ⟨_,rfl,bE,rfl⟩)
  ·replace hno:=Hd (hno.out rfl rfl)
   replace hnt:=Hd (hnt.out (.inl rfl))
   replace hon:=Hd (hon.out (.inl rfl))
   have c0_3:=Below.step c0_2 b3
   obtain ⟨⟨q_0,q_1,q_2⟩,-,-,-⟩:=(q.below c0_3)
   go_wp2_with fail
   refine (sub_onto r K R va vn vc T _ (hg.out.below c0_3) (hG.out.below c0_3) (h.out.below c0_3) hr.out hl).mono ?_
   rintro e w4 ⟨_,_,_,rfl,b4,ho⟩
   clear q_0 q_1 q_2
   rw [hS.out] at ho
   cases S with
   | on sa sb =>
    obtain ⟨rfl,rfl,rfl⟩:=ho
    have c0_4:=Below.step c0_3 b4
    obtain ⟨⟨q_0,q_1,q_2⟩,-,-,-⟩:=(q.below c0_4)
    go_wp2_with fail
    refine (finite_ok r K R va vn vc T _ (hg.out.below c0_4) (h.out.below c0_4) hr.out hl).mono ?_
    rintro e w5 ⟨_,_,_,_,rfl,b5,hf⟩
    clear q_0 q_1 q_2
    obtain ⟨rfl,hf⟩:=hf
    replace hf:=hf.resolve_right (by rintro ⟨-,x1,y1,-,ht,-⟩; exact hnt.out x1 y1 ht)
    obtain ⟨rfl,rfl,rfl,-⟩:=hf
    have c0_5:=Below.step c0_4 b5
    obtain ⟨⟨q_0,q_1,q_2⟩,-,-,-⟩:=(q.below c0_5)
    have nn : ∀ w',(Builtin.len_ #[22] 3 #[.slice none 0 0]).run Tryz.prog w' = .ok (.int .i64 0) w':=(OwnI.nil 0 w).at.len
    go_wp2_with fail
    refine (one_ok r K R va vn vc T _ (hg.out.below c0_5) (h.out.below c0_5) hr.out hl).mono ?_
    rintro e w6 ⟨_,_,_,_,rfl,b6,hp⟩
    clear q_0 q_1 q_2
    obtain ⟨rfl,Y,rfl,hY,e1,f1,g1,e2,f2,g2,e3,f3,g3,e4,f4,g4,e5,f5,g5,e6,f6,g6,rfl,rfl⟩:=hp.ans
    clear hp
    have al6:=(Below.step (belowAlloc w6 (.cells #[.int .i64 0,.slice e1 f1 g1,.slice e2 f2 g2,.slice e3 f3 g3] 36)) (belowAlloc _ (.cells #[.int .i64 0,.slice e4 f4 g4,.slice e5 f5 g5,.slice e6 f6 g6] 36)))
    have d6:=Below.step b6 al6
    have c0_6:=Below.step c0_5 d6
    obtain ⟨⟨q_0,q_1,q_2⟩,-,-,-⟩:=(q.below c0_6)
    have bE:=Below.step b0 c0_6
    have hfin : Y = false ∨ K = 1 ∨ R = 0:=by
     by_cases a1 : K = 1
     ·exact .inr (.inl a1)
     ·by_cases a2 : R = 0
      ·exact .inr (.inr a2)
      ·cases Y with
       | false => exact .inl rfl
       | true => exact absurd (hno.out (by omega) (by omega)) (hY.1 rfl)
    clear hY
    by_cases a1 : K = 1
    ·have dK : decide ((K : Int) = 1) = true:=decide_eq_true (by omega)
     cases Y <;> (go_wp2; go_ret; exact ⟨_,rfl,bE,rfl⟩)
    ·have dK : decide ((K : Int) = 1) = false:=decide_eq_false (by omega)
     by_cases a2 : R = 0
     ·have dR : decide ((R : Int) = 0) = true:=decide_eq_true (by omega)
      cases Y <;> (go_wp2; go_ret; exact ⟨_,rfl,bE,rfl⟩)
     ·have dR : decide ((R : Int) = 0) = false:=decide_eq_false (by omega)
      obtain rfl : Y = false:=hfin.resolve_right (fun q => q.elim a1 a2)
      go_wp2
      go_ret
      exact ⟨_,rfl,bE,rfl⟩
   | orphan wd =>
    exact absurd hon.out (sub_not_onto hr.out hS.out)
   | big =>
    obtain ⟨rfl,rfl,he⟩:=ho
    obtain ⟨T9,p9,rfl⟩:=he.some_shape
    clear he
    have c0_4:=Below.step c0_3 b4
    obtain ⟨⟨q_0,q_1,q_2⟩,-,-,-⟩:=(q.below c0_4)
    go_wp2_with fail
    refine (finite_ok r K R va vn vc T _ (hg.out.below c0_4) (h.out.below c0_4) hr.out hl).mono ?_
    rintro e w5 ⟨_,_,_,_,rfl,b5,hf⟩
    clear q_0 q_1 q_2
    obtain ⟨rfl,hf⟩:=hf
    replace hf:=hf.resolve_right (by rintro ⟨-,x1,y1,-,ht,-⟩; exact hnt.out x1 y1 ht)
    obtain ⟨rfl,rfl,rfl,-⟩:=hf
    have c0_5:=Below.step c0_4 b5
    obtain ⟨⟨q_0,q_1,q_2⟩,-,-,-⟩:=(q.below c0_5)
    have nn : ∀ w',(Builtin.len_ #[22] 3 #[.slice none 0 0]).run Tryz.prog w' = .ok (.int .i64 0) w':=(OwnI.nil 0 w).at.len
    go_wp2_with fail
    refine (one_ok r K R va vn vc T _ (hg.out.below c0_5) (h.out.below c0_5) hr.out hl).mono ?_
    rintro e w6 ⟨_,_,_,_,rfl,b6,hp⟩
    clear q_0 q_1 q_2
    obtain ⟨rfl,Y,rfl,hY,e1,f1,g1,e2,f2,g2,e3,f3,g3,e4,f4,g4,e5,f5,g5,e6,f6,g6,rfl,rfl⟩:=hp.ans
    clear hp
    have al6:=(Below.step (belowAlloc w6 (.cells #[.int .i64 0,.slice e1 f1 g1,.slice e2 f2 g2,.slice e3 f3 g3] 36)) (belowAlloc _ (.cells #[.int .i64 0,.slice e4 f4 g4,.slice e5 f5 g5,.slice e6 f6 g6] 36)))
    have d6:=Below.step b6 al6
    have c0_6:=Below.step c0_5 d6
    obtain ⟨⟨q_0,q_1,q_2⟩,-,-,-⟩:=(q.below c0_6)
    have bE:=Below.step b0 c0_6
    have hfin : Y = false ∨ K = 1 ∨ R = 0:=by
     by_cases a1 : K = 1
     ·exact .inr (.inl a1)
     ·by_cases a2 : R = 0
      ·exact .inr (.inr a2)
      ·cases Y with
       | false => exact .inl rfl
       | true => exact absurd (hno.out (by omega) (by omega)) (hY.1 rfl)
    clear hY
    by_cases a1 : K = 1
    ·have dK : decide ((K : Int) = 1) = true:=decide_eq_true (by omega)
     cases Y <;> (go_wp2; go_ret; exact ⟨_,rfl,bE,rfl⟩)
    ·have dK : decide ((K : Int) = 1) = false:=decide_eq_false (by omega)
     by_cases a2 : R = 0
     ·have dR : decide ((R : Int) = 0) = true:=decide_eq_true (by omega)
      cases Y <;> (go_wp2; go_ret; exact ⟨_,rfl,bE,rfl⟩)
     ·have dR : decide ((R : Int) = 0) = false:=decide_eq_false (by omega)
      obtain rfl : Y = false:=hfin.resolve_right (fun q => q.elim a1 a2)
      go_wp2
      go_ret
      exact ⟨_,rfl,bE,rfl⟩
 ·rw [if_pos (by omega)] at he
  obtain ⟨T4,p4,rfl⟩:=he.some_shape
  clear he
  have c0_3:=Below.step c0_2 b3
  have bE:=Below.step b0 c0_3
  go_wp2
  go_ret
  exact ⟨_,rfl,bE,rfl⟩
/-- Any rule. -/
theorem permutOntos_any (r : Nat → Addr) (k R : Int) (v : Value) (T : List Int) (w : World) (hg : Glob r w) (hG : GlobE w) (h : IntsAt w v T) :
 Calls Tryz.prog 3 #[.agg #[.int .i64 k,.int .i64 R,v]] w (Ret1 (fun x _ => x = .bool true) w):=by
 obtain ⟨va,vn,vc,rfl⟩:=h.shape
 cases hc : checkP k R T with
 | some t => exact permutOntos_bad r k R va vn vc T w hg hG h t hc
 | none =>
  obtain ⟨K,Q,rfl,rfl,hr⟩:=checkP_none hc
  exact permutOntos_ok r K Q va vn vc T w hg hG h hr _ _ rfl rfl
end Go.Proofs.YtncpnaoabkjegaaGreatDoor
namespace Go.Proofs.YtncpnaoabkjegaaGreatDoor
open Go.ChangeShapes Go.WideShapes Go.ChangeAt Go.RowKit Go.Joins
set_option maxRecDepth 100000
theorem own : ownKnob Tryz.prog.godebug = none:=by kernel_rfl
theorem laidOut : laidOutB Tryz.prog = true:=by kernel_rfl
theorem cellsInt : Tryz.prog.cellsOf 3 = 1:=by kernel_rfl
theorem uInt : Tryz.prog.underlying 3 = some (.int .i64):=by kernel_rfl
theorem bytesInt : Tryz.prog.bytesOf 3 = 8:=by kernel_rfl
theorem i64_of_wf {n : Int} (h : (Lit.int .i64 n).wf = true) : I64 n:=by
 have:=bounds_i64 h
 unfold I64
 omega
/-- A []int that came in. -/
theorem open_intsV {H : Type} {enc : TypeId × Value → H} {W : World} {held : Bool} {fuel : Nat} {v : Value} {y : DataW H × List MemPlace}
 (h : DataW.trod enc Tryz.prog W 0 (fun _ => true) held fuel 22 [v] = some y) (hw : ∀ n ∈ y.1.weights Tryz.prog 22,n ≤ reachBytes) :
 ∃ xs,IntsAt W v xs ∧ xs.length ≤ 17592186043904 ∧ ∀ x ∈ xs,I64 x:=by
 rcases open_ints uInts uInt cellsInt h with ⟨hcs,_⟩ | ⟨a,len,cap,zs,hcs,_,hl,hm,hz,hx,hcell,hwz⟩
 ·simp at hcs
  subst hcs
  exact ⟨[],(OwnI.nil 0 W).at,by simp,by simp⟩
 ·simp at hcs
  subst hcs
  simp only [if_true] at hz
  have hzl : (zs.take len).length = len:=by simp; omega
  refine ⟨zs.take len,⟨some a,cap,by rw [hzl],by rw [hzl]; exact hl,hm,(fun e => by cases e),fun i hi => ?_⟩,?_,fun x hx => i64_of_wf (hwz x (List.mem_of_mem_take hx))⟩
  ·have hi' : i < zs.length:=by rw [hzl] at hi; omega
   show W.cell? (a.add i) = _
   rw [hcell i hi']
   simp [List.getD,hi']
  ·rw [hx] at hw
   have:=hw ((lits (H:=H) .i64 (zs.take len)).length * 8 + (lits (H:=H) .i64 (zs.drop len)).length * 8) (by
    simp only [DataW.weights,uInts,bytesInt,List.mem_cons]
    left; omega)
   simp only [lits,List.length_map,reachBytes] at this
   omega
theorem weights_each3 {H : Type} {t0 t1 t2 : TypeId} {y0 y1 y2 : DataW H} {n : Nat} (h : n ∈ y2.weights Tryz.prog t2) : n ∈ DataW.weightsEach Tryz.prog [t0,t1,t2] [y0,y1,y2]:=by
 simp only [DataW.weightsEach,List.mem_append]
 exact .inr (.inr (.inl h))
/-- A rule that came in. -/
theorem open_ruleV {H : Type} {enc : TypeId × Value → H} {W : World} {held : Bool} {v : Value} {d : DataW H} {p : List MemPlace} {b0 : Nat}
 (hv : Value.okWide Tryz.prog W .any b0 24 v) (h : DataW.Trod enc Tryz.prog W 0 (fun _ => true) held 24 v d p) (hw : ∀ n ∈ d.weights Tryz.prog 24,n ≤ reachBytes) :
 ∃ (k R : Int) (u : Value) (xs : List Int),v = .agg #[.int .i64 k,.int .i64 R,u] ∧ IntsAt W u xs ∧ xs.length ≤ 17592186043904 ∧ (∀ x ∈ xs,I64 x) ∧ I64 k ∧ I64 R:=by
 obtain ⟨v0,v1,v2,y0,y1,y2,n,rfl,rfl,rfl,h0,h1,h2⟩:=open_agg3 Tryz.underlying24 (by kernel_rfl) (by kernel_rfl) hv h
 obtain ⟨a,e0,_,wa⟩:=DataW.trod_int uInt h0
 obtain ⟨b,e1,_,wb⟩:=DataW.trod_int uInt h1
 simp at e0 e1
 subst e0 e1
 obtain ⟨xs,hx,hl,hb⟩:=open_intsV h2 fun n hn => hw n (by
  simp only [DataW.weights,Tryz.underlying24]
  exact weights_each3 (t0:=3) (t1:=3) (t2:=22) hn)
 exact ⟨a,b,v2,xs,rfl,hx,hl,hb,i64_of_wf wa,i64_of_wf wb⟩
/-! The package-level errors. -/
theorem star : "*" ++ "errors.errorString" = "*errors.errorString" := by decide
theorem rowES (u : TypeId) (h : Tryz.prog.typeName? 3 u = some "*errors.errorString") : u = 322 :=
 typeName_ptr_named (nm := "errors.errorString") (by rw [star]; kernel_rfl) (by kernel_rfl) (by decide) u (by rw [star]; exact h)
theorem pES : Tryz.prog.underlying 322 = some (.pointer 340):=by kernel_rfl
theorem cES : Tryz.prog.cellsOf 340 = 1:=by kernel_rfl
theorem cStr : Tryz.prog.cellsOf 9 = 1:=by kernel_rfl
def laid12 : List (String × DataW Unit) := [("eden/api.BadRule", Rows.laid_eden_api_BadRule), ("eden/api.BadWord", Rows.laid_eden_api_BadWord), ("eden/api.BadArg", Rows.laid_eden_api_BadArg), ("eden/api.TooBig", Rows.laid_eden_api_TooBig), ("eden/api.NoBudget", Rows.laid_eden_api_NoBudget), ("eden/api.BadText", Rows.laid_eden_api_BadText), ("eden/api.BadPatch", Rows.laid_eden_api_BadPatch), ("eden/api.BadCert", Rows.laid_eden_api_BadCert), ("eden/api.NoInverse", Rows.laid_eden_api_NoInverse), ("eden/api.BadLine", Rows.laid_eden_api_BadLine), ("eden/api.BadState", Rows.laid_eden_api_BadState), ("eden/api.Unknown", Rows.laid_eden_api_Unknown)]
theorem sentinel {n : String} {text : List UInt8} {r : List (String × DataW Unit)} {W : World} {g : Nat}
 (h : laidMet Tryz.prog ((n, .iface "*errors.errorString" (.ptr (.agg [.lit (.string text)]))) :: r) W)
 (hg : Tryz.prog.globalNamed n = some g) (ht : (Tryz.prog.globals[g]?).map (·.type) = some 27) :
 (∃ a : Addr,W.cell? ⟨g,0,none⟩ = some (.iface 322 (.pointer (some a))) ∧ ∃ s,W.cell? a = some (.string s) ∧ s.data.toList = text ∧ ∃ c t,W.heap[a.block]? = some (.cells c t (0,0))) ∧ laidMet Tryz.prog r W:=by
 refine ⟨?_,h.tail⟩
 obtain ⟨ps,⟨g0,t0,cs0,f0,p0,q0,hg0,ht0,hv0,hd0,_,e0⟩,_,hrows⟩:=h
 obtain rfl:=Option.some.inj (hg.symm.trans hg0)
 obtain rfl:=Option.some.inj (ht.symm.trans ht0)
 subst e0
 obtain ⟨l0⟩:=cs0
 have ok0 : ∀ u v,l0 = [.iface u v] → Value.okWide Tryz.prog W .any 0 u v:=fun u v e => by
  subst e
  exact (hrows g 0 (by simp [MemPlace.row])).2 u v (by simpa using World.var?_cell hg hv0 0)
 obtain ⟨a0,s0,rfl,hc0,hs0,hz0,rfl⟩:=errorString_of_trod Tryz.underlying27 rowES pES Tryz.underlying340 rfl rfl Tryz.underlying9 cES cStr hd0 ok0
 exact ⟨a0,by simpa using World.var?_cell hg hv0 0,s0,hc0,hs0,(hrows a0.block a0.off (by simp [MemPlace.row])).1⟩
def txt : Nat → List UInt8
 | 1 => [98,97,100,32,114,117,108,101]
 | 2 => [98,97,100,32,119,111,114,100]
 | 3 => [98,97,100,32,97,114,103,117,109,101,110,116]
 | 4 => [116,111,111,32,98,105,103]
 | 5 => [110,111,32,98,117,100,103,101,116]
 | 6 => [98,97,100,32,116,101,120,116]
 | 7 => [98,97,100,32,112,97,116,99,104]
 | 8 => [98,97,100,32,99,101,114,116,105,102,105,99,97,116,101]
 | 9 => [110,111,32,105,110,118,101,114,115,101]
 | 10 => [98,97,100,32,108,105,110,101]
 | 11 => [98,97,100,32,115,116,97,116,101]
 | 99 => [117,110,107,110,111,119,110]
 | _ => []
theorem txt_apart : ∀ m n : Fin 12,1 ≤ m.val → 1 ≤ n.val → txt m.val = txt n.val → m = n:=by decide
theorem glob_of_laidR {W : World} {l : List (String × DataW Unit)} (h : laidMet Tryz.prog (laid12 ++ l) W) : ∃ r,Glob r W:=by
 obtain ⟨⟨a1,c1,s1,e1,t1,f1⟩,h⟩:=sentinel (text:=txt 1) h (g:=3) (by kernel_rfl) (by kernel_rfl)
 obtain ⟨⟨a2,c2,s2,e2,t2,f2⟩,h⟩:=sentinel (text:=txt 2) h (g:=4) (by kernel_rfl) (by kernel_rfl)
 obtain ⟨⟨a3,c3,s3,e3,t3,f3⟩,h⟩:=sentinel (text:=txt 3) h (g:=5) (by kernel_rfl) (by kernel_rfl)
 obtain ⟨⟨a4,c4,s4,e4,t4,f4⟩,h⟩:=sentinel (text:=txt 4) h (g:=0) (by kernel_rfl) (by kernel_rfl)
 obtain ⟨⟨a5,c5,s5,e5,t5,f5⟩,h⟩:=sentinel (text:=txt 5) h (g:=6) (by kernel_rfl) (by kernel_rfl)
 obtain ⟨⟨a6,c6,s6,e6,t6,f6⟩,h⟩:=sentinel (text:=txt 6) h (g:=7) (by kernel_rfl) (by kernel_rfl)
 obtain ⟨⟨a7,c7,s7,e7,t7,f7⟩,h⟩:=sentinel (text:=txt 7) h (g:=8) (by kernel_rfl) (by kernel_rfl)
 obtain ⟨⟨a8,c8,s8,e8,t8,f8⟩,h⟩:=sentinel (text:=txt 8) h (g:=9) (by kernel_rfl) (by kernel_rfl)
 obtain ⟨⟨a9,c9,s9,e9,t9,f9⟩,h⟩:=sentinel (text:=txt 9) h (g:=1) (by kernel_rfl) (by kernel_rfl)
 obtain ⟨⟨a10,c10,s10,e10,t10,f10⟩,h⟩:=sentinel (text:=txt 10) h (g:=10) (by kernel_rfl) (by kernel_rfl)
 obtain ⟨⟨a11,c11,s11,e11,t11,f11⟩,h⟩:=sentinel (text:=txt 11) h (g:=11) (by kernel_rfl) (by kernel_rfl)
 obtain ⟨⟨a99,c99,s99,e99,t99,f99⟩,h⟩:=sentinel (text:=txt 99) h (g:=12) (by kernel_rfl) (by kernel_rfl)
 clear h
 have key : ∀ n : Nat,(1 ≤ n ∧ n ≤ 11) ∨ n = 99 → ∃ s,W.cell? ((fun n : Nat => match n with | 1 => a1 | 2 => a2 | 3 => a3 | 4 => a4 | 5 => a5 | 6 => a6 | 7 => a7 | 8 => a8 | 9 => a9 | 10 => a10 | 11 => a11 | _ => a99) n) = some (.string s) ∧ s.data.toList = txt n ∧ ∃ c t,W.heap[((fun n : Nat => match n with | 1 => a1 | 2 => a2 | 3 => a3 | 4 => a4 | 5 => a5 | 6 => a6 | 7 => a7 | 8 => a8 | 9 => a9 | 10 => a10 | 11 => a11 | _ => a99) n).block]? = some (.cells c t (0,0)):=by
  intro n hn
  have : n = 1 ∨ n = 2 ∨ n = 3 ∨ n = 4 ∨ n = 5 ∨ n = 6 ∨ n = 7 ∨ n = 8 ∨ n = 9 ∨ n = 10 ∨ n = 11 ∨ n = 99:=by omega
  rcases this with rfl | rfl | rfl | rfl | rfl | rfl | rfl | rfl | rfl | rfl | rfl | rfl
  ·exact ⟨s1,e1,t1,f1⟩
  ·exact ⟨s2,e2,t2,f2⟩
  ·exact ⟨s3,e3,t3,f3⟩
  ·exact ⟨s4,e4,t4,f4⟩
  ·exact ⟨s5,e5,t5,f5⟩
  ·exact ⟨s6,e6,t6,f6⟩
  ·exact ⟨s7,e7,t7,f7⟩
  ·exact ⟨s8,e8,t8,f8⟩
  ·exact ⟨s9,e9,t9,f9⟩
  ·exact ⟨s10,e10,t10,f10⟩
  ·exact ⟨s11,e11,t11,f11⟩
  ·exact ⟨s99,e99,t99,f99⟩
 refine ⟨(fun n : Nat => match n with | 1 => a1 | 2 => a2 | 3 => a3 | 4 => a4 | 5 => a5 | 6 => a6 | 7 => a7 | 8 => a8 | 9 => a9 | 10 => a10 | 11 => a11 | _ => a99),c1,c2,c3,c4,c5,c6,c7,c8,c9,c10,c11,c99,(fun n hn => ?_),fun m n hm1 hm2 hn1 hn2 he => ?_,fun n hn => ?_⟩
 ·obtain ⟨s,hs,_⟩:=key n hn
  exact ⟨s,hs⟩
 ·obtain ⟨s,hs,ts,_⟩:=key m.toNat (by omega)
  obtain ⟨s',hs',ts',_⟩:=key n.toNat (by omega)
  have hss : s = s':=by
   have:=hs.symm.trans ((congrArg W.cell? he).trans hs')
   simpa using this
  subst hss
  have:=txt_apart ⟨m.toNat,by omega⟩ ⟨n.toNat,by omega⟩ (by simp; omega) (by simp; omega) (ts.symm.trans ts')
  have:=congrArg Fin.val this
  simp at this
  omega
 ·obtain ⟨_,_,_,hf⟩:=key n hn
  exact hf
theorem glob_of_laid {W : World} (h : laidMet Tryz.prog laid12 W) : ∃ r,Glob r W:=glob_of_laidR (l:=[]) h
end Go.Proofs.YtncpnaoabkjegaaGreatDoor
namespace Go.Proofs.YtncpnaoabkjegaaGreatDoor
open Go.RowKit
set_option maxRecDepth 100000
def laid13 : List (String × DataW Unit) := ("errors.errorType", Rows.laid_errors_errorType) :: laid12
theorem rtypeNo : (Tryz.prog.cutTypes.find? (·.1 == "internal/reflectlite.rtype")).map (·.2) = some 239 := by kernel_rfl
theorem errorTypeNo : Tryz.prog.globalNamed "errors.errorType" = some 2 := by kernel_rfl
theorem typesNo : Tryz.prog.types.size = 452 - 100:=by kernel_rfl
theorem oneError : ((List.range (452 - 100)).filter fun t => Tryz.prog.rowNamed t [101,114,114,111,114]) = [27]:=by kernel_rfl
theorem handleErr : typeHandle Tryz.prog 27 = .pointer (some ⟨17,27,none⟩):=by kernel_rfl
theorem glob_of_laidH {W : World} (h : laidMetH Tryz.prog laid13 W) : ∃ r,Glob r W ∧ GlobE W:=by
 have h' : laidMet Tryz.prog laid12 W ∧ handlesMet Tryz.prog [("errors.errorType", Rows.laid_errors_errorType)] W := h
 obtain ⟨r,hg⟩:=glob_of_laid h'.1
 refine ⟨r,hg,?_⟩
 obtain ⟨name,u,ty,e1,e2,e3,e4,e5⟩:=h'.2 _ (List.mem_cons_self ..)
 have en : name = [101,114,114,111,114]:=(Option.some.inj e1).symm
 subst en
 obtain rfl:=Option.some.inj (rtypeNo.symm.trans e2)
 have hm : ty ∈ (List.range (452 - 100)).filter fun t => Tryz.prog.rowNamed t [101,114,114,111,114]:=List.mem_filter.2 ⟨List.mem_range.2 (by rw [← typesNo]; exact e3),e4⟩
 rw [oneError] at hm
 obtain rfl:=List.mem_singleton.1 hm
 rw [handleErr] at e5
 simpa [GlobE] using World.var?_cell errorTypeNo e5 0
end Go.Proofs.YtncpnaoabkjegaaGreatDoor
namespace Go.Proofs.YtncpnaoabkjegaaGreatDoor
open Go.ChangeShapes Go.WideShapes Go.ChangeAt Go.RowKit Go.Joins
namespace PermutOntosP
set_option maxRecDepth 100000 in
theorem door_met (os : Os) (args : Array Value) : laidMetH Tryz.prog Rows.permutOntosRow.laid ((World.doorLaid Tryz.prog 400 os).forCall (fun _ _ => 0) ⟨#[],args,[]⟩).memory :=
 laidMetH_of_parts3 (fuel:=8) (laidMet_of_run' 8 (by kernel_rfl) (by kernel_rfl)) (by kernel_rfl) (by kernel_rfl)
set_option maxRecDepth 100000 in
theorem lifted (os : Os) (started : os.Started) (H : Type) (enc : TypeId × Value → H) :
 ReturnsInHanded {} Tryz.checked os 3 .any (fun w args => (Rows.permutOntosSpec.pre enc Tryz.prog Tryz.f3 [] false w args ∧ laidMetH Tryz.prog Rows.permutOntosRow.laid w) ∧ sizedMet enc Tryz.prog Tryz.f3 (OpenSpec.ofChange Rows.permutOntosSpec) false w args)
  (Rows.permutOntosSpec.post enc Tryz.prog Tryz.f3 false true false false):=by
 refine returnsInHanded_of_change_and (C:=Tryz.checked) (X:=fun w _ => laidMetH Tryz.prog Rows.permutOntosRow.laid w) (fun _ _ _ hh h => h.of_heap hh) own started (by kernel_rfl) Tryz.func3
  (ChangeSpec.witness_shaped (enc:=enc) (C:=Tryz.checked) (os:=os) (X:=fun w _ => laidMetH Tryz.prog Rows.permutOntosRow.laid w) false (World.doorLaid Tryz.prog 400 os) #[.agg #[.int .i64 0,.int .i64 0,.slice none 0 0]] 8 rfl (World.shaped_of_RefB (by kernel_rfl) (by kernel_rfl)) (by kernel_rfl) (by kernel_rfl) (by kernel_rfl) (door_met os _)) ?_
 intro W base args ds gs before hval0 hW _ hsz hL _
 have hval : ∀ (j : Nat) t v,Tryz.f3.params[j]? = some t → args[j]? = some v → Value.okWide Tryz.prog W .any base t v:=hval0
 have hW':=hW
 obtain ⟨p,q,hA0,hV,rfl,hfz,hnd⟩:=hW
 have hA : DataW.TrodAll enc Tryz.prog W 0 (fun _ => true) true Tryz.f3.params.toList args.toList ds p:=hA0
 rw [Tryz.params3] at hA hval hsz
 obtain ⟨v0,vs0,d0,ds0,p0,q0,hargs,rfl,rfl,g0,t0⟩:=trodAll_cons hA
 obtain ⟨rfl,rfl,rfl⟩:=trodAll_nil t0
 obtain rfl : args = #[v0]:=by cases args; simp_all
 obtain ⟨rfl,rfl⟩:=trodVars_none hV
 have kk0:=g0
 have lt0 : ∀ x ∈ p0,x.block < W.heap.size:=by obtain ⟨m,hm⟩:=kk0; exact DataW.trod_lt m _ _ _ hm
 obtain ⟨kr0,rr0,u0,x0,rfl,h0,l0,b0,bk0,br0⟩:=open_ruleV (hval 0 24 v0 rfl rfl) g0 (fun n hn => by
  have:=List.all_eq_true.1 hsz n (DataW.weights_mem_each (j:=0) (t:=24) rfl rfl n hn)
  simpa using this)
 obtain ⟨r,hg,hG⟩:=glob_of_laidH (W:=W) (by
  exact hL)
 clear hA0 hval0
 refine (permutOntos_any r _ _ _ _ _ hg hG h0).mono fun e W' ⟨x,he,bel,hxx⟩ => ?_
 subst he; subst hxx
 exact ⟨_,rfl,_,_,_,[],_,[],hW',trodAll_mk1 (shut_bool Tryz.underlying4 _),(trodAll_cons_mk (Below.trod laidOut (by kernel_rfl) (of_decide_eq_true (by kernel_rfl)) kk0 bel lt0) trodAll_mk0),rfl,bel.frame _,fun h => by cases h⟩
theorem and_t {a b : Bool} (h : a = true) (k : b = true) : (a && b) = true:=by rw [h,k]; rfl
theorem jf_wf : Rows.permutOntosRow.wf (OpenSpec.ofChange Rows.permutOntosSpec) = true:=by kernel_rfl
theorem jf_lo : laidOutB Tryz.prog = true:=by kernel_rfl
theorem jf_mr : mapsRowed Tryz.prog = true:=by kernel_rfl
theorem jf_nt : namedTie Tryz.prog Rows.permutOntosRow.named Rows.permutOntosSpec.vars = true:=by kernel_rfl
theorem jf_ip : (Rows.permutOntosRow.inPlace == Tryz.prog.inPlace 3) = true:=by kernel_rfl
theorem jf_uf : (Rows.permutOntosRow.unfollowed == Tryz.prog.unfollowed 3) = true:=by kernel_rfl
theorem jf_rc : (Rows.permutOntosRow.recurses == Tryz.prog.recurses 3) = true:=by kernel_rfl
theorem jf_nm : (Rows.permutOntosRow.named == Tryz.prog.varsNamed 3) = true:=by kernel_rfl
theorem jf_pk : (Rows.permutOntosRow.plainKeys == Tryz.prog.plainKeys) = true:=by kernel_rfl
theorem jf_sh : Tryz.prog.stopsHeard = true:=by kernel_rfl
theorem jf_me : Tryz.prog.mayEnter = true:=by kernel_rfl
theorem jf_lf : (Rows.permutOntosRow.lifted == Tryz.prog.liftsFinal) = true:=by kernel_rfl
theorem jf_mk : (Tryz.prog.make == some Rows.permutOntosRow.make) = true:=by kernel_rfl
theorem joined : joinedFacts Tryz.prog 3 Tryz.f3 Rows.permutOntosSpec Rows.permutOntosRow = true:=and_t (and_t (and_t (and_t (and_t (and_t (and_t (and_t (and_t (and_t (and_t (and_t (and_t (and_t (and_t (and_t (and_t (and_t (and_t (and_t (and_t (and_t (and_t (and_t (and_t (and_t (and_t (and_t (and_t (and_t (and_t jf_wf jf_lo) jf_mr) (by kernel_rfl)) jf_nt) (by kernel_rfl)) (by kernel_rfl)) (by kernel_rfl)) (by kernel_rfl)) jf_ip) jf_uf) jf_rc) jf_nm) (by kernel_rfl)) (by kernel_rfl)) (by kernel_rfl)) (by kernel_rfl)) (by kernel_rfl)) (by kernel_rfl)) (by kernel_rfl)) (by kernel_rfl)) (by kernel_rfl)) jf_pk) (by kernel_rfl)) jf_sh) jf_me) jf_lf) jf_mk) (by kernel_rfl)) (by kernel_rfl)) (by kernel_rfl)) (by kernel_rfl)
theorem fnamed : Tryz.prog.funcNamed Rows.permutOntosRow.func = some 3:=by kernel_rfl
theorem inst : Tryz.f3.isInstance Tryz.prog Rows.permutOntosRow.origin Rows.permutOntosRow.targs:=of_decide_eq_true (by kernel_rfl)
theorem wrapd : Tryz.f3.isWrapper Tryz.prog Rows.permutOntosRow.wrapper Rows.permutOntosRow.mainSum:=by unfold Func.isWrapper; first | (rw [if_pos (by decide +kernel)]; kernel_rfl) | (rw [if_neg (by decide +kernel)]; exact ⟨rfl,rfl⟩)
theorem over : Rows.PermutOntosSaid :=
 OpenClaim.holds_of_wide 3 Tryz.f3 rfl rfl rfl rfl rfl rfl rfl ⟨rfl,rfl,rfl,rfl,rfl⟩ rfl rfl rfl rfl rfl fnamed Tryz.func3 joined
  inst wrapd
  (fun os started H enc _ => lifted os started H enc)
theorem cw : Rows.permutOntosRow.wfByText (OpenSpec.ofChange Rows.permutOntosSpec) = true:=by kernel_rfl
theorem cm : Tryz.prog.mainIs = some (Rows.permutOntosCard.stood.harness.1,Rows.permutOntosCard.stood.harness.2.toList):=by kernel_rfl
theorem cl : Rows.permutOntosCard.stood.looks = Tryz.prog.looks []:=by kernel_rfl
theorem cg : false = Rows.permutOntosRow.goesBy Tryz.prog:=by kernel_rfl
theorem cs : ([24].all fun u => !Tryz.prog.wantsStandIn u) = true:=by kernel_rfl
/-- The tied card. -/
theorem card_holds : Rows.PermutOntosCardSaid :=
 Claim7.holds_tied_plain_at .later [] [.handle,.sentinel,.sentinel,.sentinel,.sentinel,.sentinel,.sentinel,.sentinel,.sentinel,.sentinel,.sentinel,.sentinel,.sentinel] true _ _
  over (fun _ h => by cases h) cw (fun _ h => by cases h) permutOntos_row_tie rfl ⟨rfl,rfl⟩ cm rfl
  (fun f fn hf hfn => by
    obtain rfl : f = 3:=Option.some.inj (fnamed.symm.trans hf) |>.symm
    obtain rfl : fn = Tryz.f3:=(Option.some.inj (Tryz.func3.symm.trans hfn)).symm
    exact ⟨cl,fun j t ht => by
     rw [Tryz.params3] at ht
     have hm : t ∈ [24]:=by simpa using Array.mem_of_getElem? ht
     exact (show Tryz.prog.wantsStandIn t = false by simpa using List.all_eq_true.1 cs t hm)⟩)
  cg
end PermutOntosP
#print axioms PermutOntosP.card_holds
end Go.Proofs.YtncpnaoabkjegaaGreatDoor
