/-
  Proved: the law edenlaw18.AddOntos as its tied card: it returns true and never panics, for any numbers and factors. No conditions beyond the card's own.
  Walk: inject.One: whether a rule is one to one; if not, the two rows.
  Plain mathematics of layer 20: the table that was tried takes every word's image back; if none was found, two words show why.
  Plain mathematics of layer 20: the inverse that was found is a rule; there and back, back and there.
  Plain mathematics: the least radius of a rule.
  Plain mathematics of layer 20: the inverse is the only one of its radius, is as narrow as can be, and has the rule as its inverse.
  Plain mathematics: the garden of Eden theorem: a rule that is onto has no twins (the other way is onto_of_no_twins).
  Plain mathematics of layer 26: the inverse's radius, the orphans and the sums of a mirrored rule.
  Plain mathematics of layer 18: the theorem of the sums: a sum is onto just if each prime of K leaves out a factor, one to one just if each leaves out just one.
  Plain mathematics of layer 18: the theorem of the sums: one to one just if each prime of K leaves out just one factor.
  Walk: edenlaw18.AddOntos returns true.
  Opening what a call is handed: []int, api.Rule, the package-level errors.
  From a card's list of laid variables that holds the handle of the type error: the package errors and errors.errorType.
-/
import Derived.Test.YtncpnaoabkjegaaGreatDoorMAo9
import Derived.Test.YtncpnaoabkjegaaGreatDoorRows
import Derived.ProofKit
import Derived.OpenShut
import Derived.ShutString
import Derived.ChangeOld
import Derived.LaidMore
import Derived.Stop.Joined
import Derived.Stop.LaidErr
import Derived.Lib.SmallJoins
import Derived.LaidHandle
import Derived.Test.YtncpnaoabkjegaaGreatDoorCards
import Derived.Test.YtncpnaoabkjegaaGreatDoorTie
import Derived.SevenTiedAt
namespace Go.Proofs.YtncpnaoabkjegaaGreatDoor
open Go.RowKit
set_option maxRecDepth 100000
/-- The row that holds nothing. -/
abbrev zRow : Value:=.agg #[.int .i64 0,.slice none 0 0,.slice none 0 0,.slice none 0 0]
section
variable {K N : Nat} {T : List Int}
theorem goes_pairG {x y : Nat} (hN : 0 < N) (h : Goes (adjOf (pairG K N T)) x y) (hx : x < N * N) : Goes (pairL K N T) x y ∧ y < N * N:=by
 induction h with
 | refl => exact ⟨.refl _,hx⟩
 | step h hz ih =>
  rw [pairG_adj ih.2] at hz
  exact ⟨.step ih.1 hz,((mem_pairL hN).1 hz).lt hN⟩
theorem live_pairG (hN : 0 < N) {v : Nat} (hv : v < N * N) : IsLive (N * N) (adjOf (pairG K N T)) v ↔ LiveP (N * N) (pairL K N T) v:=by
 constructor
 ·rintro ⟨⟨u,hu,⟨t,ht,h1⟩,h2⟩,⟨u',hu',⟨t',ht',h1'⟩,h2'⟩⟩
  rw [pairG_adj hu] at ht
  rw [pairG_adj hu'] at ht'
  exact ⟨⟨u,hu,⟨t,ht,(goes_pairG hN h1 (((mem_pairL hN).1 ht).lt hN)).1⟩,(goes_pairG hN h2 hu).1⟩,⟨u',hu',⟨t',ht',(goes_pairG hN h1' (((mem_pairL hN).1 ht').lt hN)).1⟩,(goes_pairG hN h2' hv).1⟩⟩
 ·rintro ⟨⟨u,hu,⟨t,ht,h1⟩,h2⟩,⟨u',hu',⟨t',ht',h1'⟩,h2'⟩⟩
  exact ⟨⟨u,hu,⟨t,by rw [pairG_adj hu]; exact ht,(pairG_goes hN h1 (((mem_pairL hN).1 ht).lt hN)).1⟩,(pairG_goes hN h2 hu).1⟩,⟨u',hu',⟨t',by rw [pairG_adj hu']; exact ht',(pairG_goes hN h1' (((mem_pairL hN).1 ht').lt hN)).1⟩,(pairG_goes hN h2' hv).1⟩⟩
end
theorem wk_notOne {K R : Nat} {T : List Int} (hK : 1 ≤ K) : NotOne K (wkR R) (wkT K R T) ↔ NotOne K R T:=by
 unfold wkR wkT
 by_cases e : R = 0
 ·subst e; rw [if_pos rfl,if_pos rfl]; exact notOne_wide (R:=0) (d:=1) hK
 ·rw [if_neg e,if_neg e]
/-- The live pairs that are apart. -/
def oddL (K R : Nat) (L : List Nat) : List Nat:=L.filter fun p => !decide (Diag (pw K (2 * wkR R)) p)
/-- Whether they tell that the rule is one to one. -/
theorem odd_none {K R : Nat} {T : List Int} {L : List Nat} (hr : RuleOk K R T) (h : LiveList (pw K (2 * wkR R) * pw K (2 * wkR R)) (adjOf (pairG K (pw K (2 * wkR R)) (wkT K R T))) L) : oddL K R L = [] ↔ ¬ NotOne K R T:=by
 have hN:=pw_pos (K:=K) (2 * wkR R) hr.k1
 rw [← wk_notOne hr.k1]
 constructor
 ·intro he hno
  obtain ⟨q,h1,h2,h3⟩:=live_of_notOne (wk_ok hr) (wk_pos R) hno
  have : q ∈ oddL K R L:=List.mem_filter.2 ⟨(h.mem q).2 ⟨h1,(live_pairG (by omega) h1).2 h2⟩,by simp [h3]⟩
  rw [he] at this; cases this
 ·intro hno
  apply Classical.byContradiction
  intro he
  obtain ⟨q,hq⟩:=List.exists_mem_of_ne_nil _ he
  obtain ⟨h1,h2⟩:=List.mem_filter.1 hq
  obtain ⟨h3,h4⟩:=(h.mem q).1 h1
  exact hno (notOne_of_live (wk_ok hr) (wk_pos R) ((live_pairG (by omega) h3).1 h4) (by simpa using h2))
/-- The witness: the first of them. -/
def OneIs (K R : Nat) (T : List Int) (L C Q : List Nat) : Prop :=
 ∃ l v m,LiveList (pw K (2 * wkR R) * pw K (2 * wkR R)) (adjOf (pairG K (pw K (2 * wkR R)) (wkT K R T))) l ∧ oddL K R l = v :: m ∧ WitIs (pairG K (pw K (2 * wkR R)) (wkT K R T)) v L C Q
/-- What One leaves at a small rule. -/
def OnePost (w : World) (K R : Nat) (T : List Int) (yes x y e : Value) (w' : World) : Prop :=
 e = .nilIface ∧ ((yes = .bool true ∧ x = zRow ∧ y = zRow ∧ ¬ NotOne K R T) ∨ (yes = .bool false ∧ NotOne K R T ∧ ∃ L C Q aL aC aQ bL bC bQ,OneIs K R T L C Q ∧ x = .agg #[.int .i64 0,aL,aC,aQ] ∧ y = .agg #[.int .i64 0,bL,bC,bQ] ∧ ∃ f,Rows w.heap.size w' f ∧
  f (1,0) = some (rowI aL (sideA K (pw K (2 * wkR R)) L)) ∧ f (1,1) = some (rowI bL (sideB K (pw K (2 * wkR R)) L)) ∧ f (2,0) = some (rowI aC (sideA K (pw K (2 * wkR R)) C)) ∧ f (2,1) = some (rowI bC (sideB K (pw K (2 * wkR R)) C)) ∧ f (3,0) = some (rowI aQ (sideA K (pw K (2 * wkR R)) Q)) ∧ f (3,1) = some (rowI bQ (sideB K (pw K (2 * wkR R)) Q))))
set_option maxHeartbeats 4000000 in
theorem one_ok (r : Nat → Addr) (K R : Nat) (va : Option Addr) (vn vc : Nat) (T : List Int) (w : World) (hg : Glob r w) (h : IntsAt w (.slice va vn vc) T) (hr : RuleOk K R T) (hl : T.length ≤ 256) :
 Calls Tryz.prog 16 #[.agg #[.int .i64 K,.int .i64 R,.slice va vn vc]] w (Ret4 (OnePost w K R T) w):=by
 have bb:=belowAlloc w (.cells #[.int .i64 K,.int .i64 R,.slice va vn vc] 24)
 have q : Box3 (w.alloc (.cells #[.int .i64 K,.int .i64 R,.slice va vn vc] 24)) w.heap.size (.int .i64 K) (.int .i64 R) (.slice va vn vc):=by simp [Box3,go_sem]
 obtain ⟨f0,R0,n02,o02⟩:=((Rows.void w.heap.size w).below bb).box4 (0,2) (by simp) 36 (.int .i64 0) (.slice none 0 0) (.slice none 0 0) (.slice none 0 0)
 obtain ⟨f1,R1,n03,o03⟩:=R0.box4 (0,3) (by simp; omega) 36 (.int .i64 0) (.slice none 0 0) (.slice none 0 0) (.slice none 0 0)
 replace n02:=(o03 (0,2) (by decide)).trans n02
 simp only [World.size_alloc] at n02 n03
 have b0 : Below w.heap.size w (((w.alloc (.cells #[.int .i64 K,.int .i64 R,.slice va vn vc] 24)).alloc (.cells #[.int .i64 0,.slice none 0 0,.slice none 0 0,.slice none 0 0] 36)).alloc (.cells #[.int .i64 0,.slice none 0 0,.slice none 0 0,.slice none 0 0] 36)):=Below.step bb (Below.step (belowAlloc _ _) (belowAlloc _ _))
 replace q:=q.below (Below.step (belowAlloc _ (.cells #[.int .i64 0,.slice none 0 0,.slice none 0 0,.slice none 0 0] 36)) (belowAlloc _ (.cells #[.int .i64 0,.slice none 0 0,.slice none 0 0,.slice none 0 0] 36)))
 clear o02 o03 R0 bb
 have hk1:=hr.k1
 have hokW:=wk_ok hr
 have hlW:=wk_small hr hl
 have hRW:=wk_pos R
 have hN81:=nodes_le hokW hRW hlW
 have hN1:=pw_pos (K:=K) (2 * wkR R) hk1
 obtain ⟨hdiv,hlen⟩:=hokW.half
 have hNK : pw K (2 * wkR R) * K ≤ 256:=by rw [← hlen]; exact hlW
 have hck:=pairG_check (K:=K) (N:=pw K (2 * wkR R)) (T:=wkT K R T) (by omega) hN81 hNK
 have hokG : GraphOk (pairG K (pw K (2 * wkR R)) (wkT K R T)):=pairG_ok (by omega)
 have hsz : ∀ k,k < (pairG K (pw K (2 * wkR R)) (wkT K R T)).length → ((pairG K (pw K (2 * wkR R)) (wkT K R T)).getD k []).length ≤ 17592186044416:=fun k hk => by
  rw [pairG_len] at hk
  rw [pairG_row hk,castI_len]
  have:=pairL_len K (pw K (2 * wkR R)) (wkT K R T) k
  have h4:=hr.k4
  have:=Nat.mul_le_mul h4 h4
  omega
 have hgraph:=fun (w' : World) (hgl : Glob r w') (hT : IntsAt w' (.slice va vn vc) T) => pgraph_ok r K R va vn vc T w' hgl hT hr hl
 have hapart:=fun (w' : World) (hgl : Glob r w') (hT : IntsAt w' (.slice va vn vc) T) => papart_ok r K R va vn vc T w' hgl hT hr hl
 have hlenG:=pairG_len (K:=K) (N:=pw K (2 * wkR R)) (T:=wkT K R T)
 have hodd:=fun (L : List Nat) (hL : LiveList (pw K (2 * wkR R) * pw K (2 * wkR R)) (adjOf (pairG K (pw K (2 * wkR R)) (wkT K R T))) L) => odd_none hr hL
 have hone : ∀ (l : List Nat) (v : Nat) (m L C Q : List Nat),LiveList (pw K (2 * wkR R) * pw K (2 * wkR R)) (adjOf (pairG K (pw K (2 * wkR R)) (wkT K R T))) l → oddL K R l = v :: m → WitIs (pairG K (pw K (2 * wkR R)) (wkT K R T)) v L C Q → OneIs K R T L C Q:=fun l v m L C Q h1 h2 h3 => ⟨l,v,m,h1,h2,h3⟩
 have hsub : ∀ (L : List Nat) (v : Nat) (m : List Nat),oddL K R L = v :: m → v ∈ L:=fun L v m e => (List.mem_filter.1 (show v ∈ oddL K R L by rw [e]; exact List.mem_cons_self)).1
 have hwit:=fun (ga : Option Addr) (gc v : Nat) (w' : World) (hgl : Glob r w') (hT : ListsAt w' (.slice ga (pairG K (pw K (2 * wkR R)) (wkT K R T)).length gc) (pairG K (pw K (2 * wkR R)) (wkT K R T))) (hv : v < (pairG K (pw K (2 * wkR R)) (wkT K R T)).length) (hli : IsLive (pairG K (pw K (2 * wkR R)) (wkT K R T)).length (adjOf (pairG K (pw K (2 * wkR R)) (wkT K R T))) v) => witness_ok r K (pw K (2 * wkR R)) ga gc _ v w' hgl hT hsz hck hokG hlenG hN1 hN81 hk1 hv hli
 replace hgraph:=Hd hgraph
 replace hapart:=Hd hapart
 replace hodd:=Hd hodd
 replace hone:=Hd hone
 replace hsub:=Hd hsub
 replace hwit:=Hd hwit
 replace hlenG:=Hd hlenG
 clear hdiv hlen hNK hck hokG hsz hokW hlW hRW hN81 hl
 replace hg:=Hd (hg.below b0)
 replace h:=Hd (h.below b0)
 replace hr:=Hd hr
 obtain ⟨⟨z0,z1,z2⟩,-,-,-⟩:=q
 have q0:=z0
 replace R1:=Hd R1
 replace n02:=Hd n02
 replace n03:=Hd n03
 replace b0:=Hd b0
 go_enter Tryz.func16,Tryz.ntmps16
 go_wp2_with fail
 refine (hgraph.out _ hg.out h.out).mono ?_
 rintro e w1 ⟨gv,y,rfl,b1,rfl,fg,vals,hrows,hwn⟩
 have hL : ListsAt w1 gv (pairG K (pw K (2 * wkR R)) (wkT K R T)):=hwn.lists hrows
 obtain ⟨ga,gc,rfl⟩:=hL.shape
 have c0 : w1.cell? ⟨w.heap.size,0,none⟩ = some (.int .i64 K):=by rw [b1.cell (World.block_lt_of_cell? _ _ z0)]; exact z0
 have c1 : w1.cell? ⟨w.heap.size,1,none⟩ = some (.int .i64 R):=by rw [b1.cell (World.block_lt_of_cell? _ _ z1)]; exact z1
 have c2 : w1.cell? ⟨w.heap.size,2,none⟩ = some (.slice va vn vc):=by rw [b1.cell (World.block_lt_of_cell? _ _ z2)]; exact z2
 have b01:=Below.step b0.out b1
 replace hL:=Hd hL
 clear hrows hwn z0 z1 z2
 rw [hlenG.out]
 generalize hM : pw K (2 * wkR R) * pw K (2 * wkR R) = M at *
 replace hM:=Hd hM
 go_wp2_with fail
 refine (hapart.out w1 (hg.out.below b1) (h.out.below b1)).mono ?_
 rintro e w2 ⟨av,y,rfl,b2,rfl,L,hLL,how⟩
 have how2 : OwnI w1.heap.size w2 av (castI (oddL K R L)):=how
 clear how
 have hnone:=hodd.out L hLL
 have b12:=Below.step b1 b2
 have b02:=Below.step b01 b2
 have R2:=R1.out.below b12
 have k0 : w2.cell? ⟨w.heap.size,0,none⟩ = some (.int .i64 K):=by rw [b2.cell (World.block_lt_of_cell? _ _ c0)]; exact c0
 have lA:=how2.at.len
 rw [castI_len] at lA
 have hsubL:=hsub.out L
 have honeL:=fun v m L' C' Q' e k => hone.out L v m L' C' Q' hLL e k
 have hmemL:=hLL.mem
 replace hLL:=Hd hLL
 replace hsubL:=Hd hsubL
 replace honeL:=Hd honeL
 replace hmemL:=Hd hmemL
 clear c0 c1 c2
 cases hod : oddL K R L with
 | nil =>
  rw [hod] at hnone how2 lA
  have hno:=hnone.1 rfl
  obtain ⟨aa,an,ac,rfl⟩:=how2.at.shape
  replace n02:=n02.out
  replace n03:=n03.out
  obtain ⟨g0,g1,g2,g3⟩:=R2.cells4 n02
  obtain ⟨h0,h1,h2,h3⟩:=R2.cells4 n03
  have fg0:=R2.frz4 n02 0
  have fh0:=R2.frz4 n03 0
  have fg1:=R2.frz4 n02 1
  have fh1:=R2.frz4 n03 1
  have fg2:=R2.frz4 n02 2
  have fh2:=R2.frz4 n03 2
  have fg3:=R2.frz4 n02 3
  have fh3:=R2.frz4 n03 3
  have c2:=R2.cells4 n02
  have c3:=R2.cells4 n03
  have lg0:=(R2.low4 n02).1
  have lh0:=(R2.low4 n03).1
  obtain ⟨f3,R3,m02,o3⟩:=R2.all4 n02 (.int .i64 0) (.slice none 0 0) (.slice none 0 0) (.slice none 0 0)
  have b15:=Below.all4 (g:=w.heap.size + 1) b02 lg0 (.int .i64 0) (.slice none 0 0) (.slice none 0 0) (.slice none 0 0)
  have b16:=Below.all4 (g:=w.heap.size + 2) b15 lh0 (.int .i64 0) (.slice none 0 0) (.slice none 0 0) (.slice none 0 0)
  replace hno:=Hd hno
  replace hod:=Hd hod
  replace how2:=Hd how2
  replace R2:=Hd R2
  replace R3:=Hd R3
  replace n02:=Hd n02
  replace n03:=Hd n03
  replace m02:=Hd m02
  clear o3 c2 c3 hnone
  go_wp2
  (try simp only [Exit.inBlock,Exit.then])
  refine bodyPost_ret (v:=.tuple #[.bool true,zRow,zRow,.nilIface]) (by simp [results,Tryz.results16,go_sem,g0,g1,g2,g3,h0,h1,h2,h3]) rfl ?_
  exact ⟨_,_,_,_,rfl,b16,rfl,.inl ⟨rfl,rfl,rfl,hno.out⟩⟩
 | cons v m =>
  rw [hod] at hnone how2 lA
  have hno : NotOne K R T:=Classical.byContradiction fun q => by have:=hnone.2 q; cases this
  obtain ⟨aa,an,ac,rfl⟩:=how2.at.shape
  have hvL:=hsubL.out v m hod
  obtain ⟨hvM,hvl⟩:=(hmemL.out v).1 hvL
  have iA : ∀ w',(Instr.indexAt 22 (.slice aa an ac) (.int .i64 0)).run Tryz.prog w' = .ok (.pointer (some (valAt (.slice aa an ac) 0))) w':=fun w' => how2.at.idx 0 (by simp [castI]) w'
  have cA:=how2.at.cellD 0 (by simp [castI])
  rw [show (castI (v :: m)).getD 0 0 = (v : Int) from rfl] at cA
  have e0 : (((v :: m).length : Nat) : Int) = (m.length : Int) + 1:=by simp
  rw [e0] at lA
  have e1 : ((m.length : Int) + 1 == 0) = false:=by rw [beq_eq_false_iff_ne]; omega
  have hwv:=fun (w' : World) (hgl : Glob r w') (hT : ListsAt w' (.slice ga M gc) (pairG K (pw K (2 * wkR R)) (wkT K R T))) => hwit.out ga gc v w' hgl (by rw [hlenG.out]; exact hT) (by rw [hlenG.out]; exact hvM) (by rw [hlenG.out]; exact hvl)
  rw [hlenG.out] at hwv
  have hG2:=hg.out.below b12
  have hL2 : ListsAt w2 (.slice ga M gc) (pairG K (pw K (2 * wkR R)) (wkT K R T)):=by
   have:=hL.out.below b2
   rwa [hlenG.out] at this
  replace hwv:=Hd hwv
  replace hG2:=Hd hG2
  replace hL2:=Hd hL2
  replace hno:=Hd hno
  replace hvL:=Hd hvL
  replace hvl:=Hd hvl
  replace how2:=Hd how2
  replace R2:=Hd R2
  clear hnone e0
  generalize valAt (.slice aa an ac) 0 = ra at *
  replace hod:=Hd hod
  go_upto_region 7 with fail
  go_cut [7,9,10] from 39 (fun s7 s9 s10 wx => s7 = .nilIface ∧ ∃ (g9 g10 : Nat) (L C Q : List Nat) (aL aC aQ bL bC bQ : Value) (f : Names),s9 = .pointer (some ⟨g9,0,none⟩) ∧ s10 = .pointer (some ⟨g10,0,none⟩) ∧ Below w.heap.size w wx ∧ WitIs (pairG K (pw K (2 * wkR R)) (wkT K R T)) v L C Q ∧ Rows w.heap.size wx f ∧ f (0,2) = some (box4 36 (w.heap.size + 1) [.int .i64 0,.slice none 0 0,.slice none 0 0,.slice none 0 0]) ∧ f (0,3) = some (box4 36 (w.heap.size + 2) [.int .i64 0,.slice none 0 0,.slice none 0 0,.slice none 0 0]) ∧ f (9,0) = some (box4 36 g9 [.int .i64 0,aL,aC,aQ]) ∧ f (9,1) = some (box4 36 g10 [.int .i64 0,bL,bC,bQ]) ∧ f (1,0) = some (rowI aL (sideA K (pw K (2 * wkR R)) L)) ∧ f (1,1) = some (rowI bL (sideB K (pw K (2 * wkR R)) L)) ∧ f (2,0) = some (rowI aC (sideA K (pw K (2 * wkR R)) C)) ∧ f (2,1) = some (rowI bC (sideB K (pw K (2 * wkR R)) C)) ∧ f (3,0) = some (rowI aQ (sideA K (pw K (2 * wkR R)) Q)) ∧ f (3,1) = some (rowI bQ (sideB K (pw K (2 * wkR R)) Q)))
  case first =>
   obtain ⟨W0,hW0⟩ : ∃ W0 : World,W0 = w2.drew:=⟨_,rfl⟩
   have b20 : Below w2.heap.size w2 W0:=by rw [hW0]; exact (Below.refl _ _).drew
   have bW0 : Below w.heap.size w W0:=by rw [hW0]; exact b02.drew
   have RW0 : Rows w.heap.size W0 f1:=by rw [hW0]; exact R2.out.drew
   have hB0:=bW0.size
   have hS0 : W0.cell? ⟨w.heap.size,0,none⟩ = some (.int .i64 K) ∧ W0.cell? ra = some (.int .i64 v):=by rw [hW0]; exact ⟨k0,cA⟩
   have hlow : w.heap.size < w2.heap.size ∧ ra.block < w2.heap.size:=⟨World.block_lt_of_cell? _ _ k0,World.block_lt_of_cell? _ _ cA⟩
   replace n02:=n02.out
   replace n03:=n03.out
   refine wp_region_noPanic ?_
   refine wp_region_any (by kernel_rfl) ?_
   change wpAny _ _ _ _ _ _ _ (World.drew _)
   rw [← hW0]
   clear hW0 k0 cA b02 R2
   refine wpAny_of_held (S:=fun w' => w'.cell? ⟨w.heap.size,0,none⟩ = some (.int .i64 K) ∧ w'.cell? ra = some (.int .i64 v)) _ _ _ _ ?_
   refine pqD 0 40 hS0 ?_
   refine pqD 1 41 hS0 ?_
   refine pqD 2 42 hS0 ?_
   refine pqD 3 43 hS0 ?_
   refine pqD 4 44 hS0 ?_
   refine pqD 5 45 hS0 ?_
   refine wpAnyH_ready (rs:=[6,11,12]) (by kernel_rfl) (by simp) (AllReadyH.cons rfl (fun KK hK => ?_) (AllReadyH.cons rfl (fun KK hK => ?_) (AllReadyH.cons rfl (fun KK hK => ?_) (AllReadyH.nil))))
   ·go_simp
    refine (hwv.out W0 (hG2.out.below b20) (hL2.out.below b20)).mono ?_
    rintro e W1 ⟨x,y,z,rfl,bb,hz,L',C',Q',aL,aC,aQ,bL,bC,bQ,hwi,rfl,rfl,fw,Rw,k10,k11,k20,k21,k30,k31⟩
    subst hz
    obtain ⟨aLa,aLn,aLc,haL⟩:=(Rw.ownI k10).at.shape
    subst haL
    obtain ⟨bLa,bLn,bLc,hbL⟩:=(Rw.ownI k11).at.shape
    subst hbL
    obtain ⟨aCa,aCn,aCc,haC⟩:=(Rw.ownI k20).at.shape
    subst haC
    obtain ⟨bCa,bCn,bCc,hbC⟩:=(Rw.ownI k21).at.shape
    subst hbC
    obtain ⟨aQa,aQn,aQc,haQ⟩:=(Rw.ownI k30).at.shape
    subst haQ
    obtain ⟨bQa,bQn,bQc,hbQ⟩:=(Rw.ownI k31).at.shape
    subst hbQ
    obtain ⟨f1,RW1,sel,oth⟩:=RW0.merge (fun i => decide (i.1 = 1 ∨ i.1 = 2 ∨ i.1 = 3)) bb Rw hB0
    replace n02:=(oth (0,2) (by decide)).trans n02
    replace n03:=(oth (0,3) (by decide)).trans n03
    have n10:=(sel (1,0) (by decide)).trans k10
    have n11:=(sel (1,1) (by decide)).trans k11
    have n20:=(sel (2,0) (by decide)).trans k20
    have n21:=(sel (2,1) (by decide)).trans k21
    have n30:=(sel (3,0) (by decide)).trans k30
    have n31:=(sel (3,1) (by decide)).trans k31
    replace hwi:=Hd hwi
    clear sel oth k10 k11 k20 k21 k30 k31 Rw
    have bW1:=bW0.trans (bb.mono hB0)
    have b21:=Below.step b20 bb
    have hB1:=bW1.size
    have hS1 : W1.cell? ⟨w.heap.size,0,none⟩ = some (.int .i64 K) ∧ W1.cell? ra = some (.int .i64 v):=⟨by rw [b21.cell hlow.1,← b20.cell hlow.1]; exact hS0.1,by rw [b21.cell hlow.2,← b20.cell hlow.2]; exact hS0.2⟩
    refine hK.out _ _ hS1 fun _ => ?_
    clear hK KK bb RW0
    refine pqD 7 39 hS1 ?_
    refine pqD 8 47 hS1 ?_
    refine pqD 9 48 hS1 ?_
    refine pqD 10 49 hS1 ?_
    refine wpAnyH_ready (rs:=[11,12]) (by kernel_rfl) (by simp) (AllReadyH.cons rfl (fun KK hK => ?_) (AllReadyH.cons rfl (fun KK hK => ?_) (AllReadyH.nil)))
    ·go_simp
     obtain ⟨f2,RW2,n90,oo⟩:=RW1.box4 (9,0) hB1 36 (.int .i64 0) (.slice none 0 0) (.slice none 0 0) (.slice none 0 0)
     replace n02:=(oo (0,2) (by decide)).trans n02
     replace n03:=(oo (0,3) (by decide)).trans n03
     replace n10:=(oo (1,0) (by decide)).trans n10
     replace n11:=(oo (1,1) (by decide)).trans n11
     replace n20:=(oo (2,0) (by decide)).trans n20
     replace n21:=(oo (2,1) (by decide)).trans n21
     replace n30:=(oo (3,0) (by decide)).trans n30
     replace n31:=(oo (3,1) (by decide)).trans n31
     have bb:=belowAlloc W1 (.cells #[.int .i64 0,.slice none 0 0,.slice none 0 0,.slice none 0 0] 36)
     obtain ⟨gb9,hgb9⟩ : ∃ g,W1.heap.size = g:=⟨_,rfl⟩
     obtain ⟨W2,hW2⟩ : ∃ W' : World,W1.alloc (.cells #[.int .i64 0,.slice none 0 0,.slice none 0 0,.slice none 0 0] 36) = W':=⟨_,rfl⟩
     have lgb9 : w2.heap.size ≤ gb9:=by rw [← hgb9]; exact b21.size
     have bW2:=bW1.trans (bb.mono hB1)
     have b22:=Below.step b21 bb
     rw [hW2] at RW2 bW2 b22 bb
     have hB2:=bW2.size
     have hS2 : W2.cell? ⟨w.heap.size,0,none⟩ = some (.int .i64 K) ∧ W2.cell? ra = some (.int .i64 v):=⟨by rw [b22.cell hlow.1,← b21.cell hlow.1]; exact hS1.1,by rw [b22.cell hlow.2,← b21.cell hlow.2]; exact hS1.2⟩
     rw [hW2,hgb9]
     rw [hgb9] at n90
     replace hW2:=Hd hW2
     replace hgb9:=Hd hgb9
     refine hK.out _ _ hS2 fun _ => ?_
     clear hK KK bb RW1 oo
     refine wpAnyH_ready (rs:=[12]) (by kernel_rfl) (by simp) (AllReadyH.cons rfl (fun KK hK => ?_) (AllReadyH.nil))
     ·go_simp
      obtain ⟨f3,RW3,n91,oo⟩:=RW2.box4 (9,1) hB2 36 (.int .i64 0) (.slice none 0 0) (.slice none 0 0) (.slice none 0 0)
      replace n02:=(oo (0,2) (by decide)).trans n02
      replace n03:=(oo (0,3) (by decide)).trans n03
      replace n10:=(oo (1,0) (by decide)).trans n10
      replace n11:=(oo (1,1) (by decide)).trans n11
      replace n20:=(oo (2,0) (by decide)).trans n20
      replace n21:=(oo (2,1) (by decide)).trans n21
      replace n30:=(oo (3,0) (by decide)).trans n30
      replace n31:=(oo (3,1) (by decide)).trans n31
      replace n90:=(oo (9,0) (by decide)).trans n90
      have bb:=belowAlloc W2 (.cells #[.int .i64 0,.slice none 0 0,.slice none 0 0,.slice none 0 0] 36)
      obtain ⟨gb10,hgb10⟩ : ∃ g,W2.heap.size = g:=⟨_,rfl⟩
      obtain ⟨W3,hW3⟩ : ∃ W' : World,W2.alloc (.cells #[.int .i64 0,.slice none 0 0,.slice none 0 0,.slice none 0 0] 36) = W':=⟨_,rfl⟩
      have lgb10 : w2.heap.size ≤ gb10:=by rw [← hgb10]; exact b22.size
      have bW3:=bW2.trans (bb.mono hB2)
      have b23:=Below.step b22 bb
      rw [hW3] at RW3 bW3 b23 bb
      have hB3:=bW3.size
      have hS3 : W3.cell? ⟨w.heap.size,0,none⟩ = some (.int .i64 K) ∧ W3.cell? ra = some (.int .i64 v):=⟨by rw [b23.cell hlow.1,← b22.cell hlow.1]; exact hS2.1,by rw [b23.cell hlow.2,← b22.cell hlow.2]; exact hS2.2⟩
      rw [hW3,hgb10]
      rw [hgb10] at n91
      replace hW3:=Hd hW3
      replace hgb10:=Hd hgb10
      refine hK.out _ _ hS3 fun _ => ?_
      clear hK KK bb RW2 oo
      obtain ⟨t0,t1,t2,t3⟩:=RW3.cells4 n90
      have ft0:=RW3.frz4 n90 0
      have ft1:=RW3.frz4 n90 1
      have ft2:=RW3.frz4 n90 2
      have ft3:=RW3.frz4 n90 3
      have lt:=(RW3.low4 n90)
      obtain ⟨f4,RW4,mm,oo⟩:=RW3.all4 n90 (.int .i64 0) (.slice aLa aLn aLc) (.slice aCa aCn aCc) (.slice aQa aQn aQc)
      replace n02:=(oo (0,2) (by decide)).trans n02
      replace n03:=(oo (0,3) (by decide)).trans n03
      replace n10:=(oo (1,0) (by decide)).trans n10
      replace n11:=(oo (1,1) (by decide)).trans n11
      replace n20:=(oo (2,0) (by decide)).trans n20
      replace n21:=(oo (2,1) (by decide)).trans n21
      replace n30:=(oo (3,0) (by decide)).trans n30
      replace n31:=(oo (3,1) (by decide)).trans n31
      replace n91:=(oo (9,1) (by decide)).trans n91
      clear n90
      have n90:=mm
      have bW4:=Below.all4 (g:=gb9) bW3 lt.1 (.int .i64 0) (.slice aLa aLn aLc) (.slice aCa aCn aCc) (.slice aQa aQn aQc)
      have b24:=Below.all4 (g:=gb9) b23 lgb9 (.int .i64 0) (.slice aLa aLn aLc) (.slice aCa aCn aCc) (.slice aQa aQn aQc)
      obtain ⟨W4,hW4⟩ : ∃ W' : World,(((W3.setCell ⟨gb9,0,none⟩ (.int .i64 0)).setCell ⟨gb9,1,none⟩ (.slice aLa aLn aLc)).setCell ⟨gb9,2,none⟩ (.slice aCa aCn aCc)).setCell ⟨gb9,3,none⟩ (.slice aQa aQn aQc) = W':=⟨_,rfl⟩
      rw [hW4] at RW4 bW4 b24
      have hS4 : W4.cell? ⟨w.heap.size,0,none⟩ = some (.int .i64 K) ∧ W4.cell? ra = some (.int .i64 v):=⟨by rw [b24.cell hlow.1,← b23.cell hlow.1]; exact hS3.1,by rw [b24.cell hlow.2,← b23.cell hlow.2]; exact hS3.2⟩
      replace hW4:=Hd hW4
      refine wpAnyH_ready (rs:=[13]) (by kernel_rfl) (by simp) (AllReadyH.cons rfl (fun KK hK => ?_) AllReadyH.nil)
      go_simp
      rw [hW4.out]
      refine hK.out _ _ hS4 fun _ => ?_
      clear hK KK t0 t1 t2 t3 ft0 ft1 ft2 ft3 mm oo lt RW3 hW4
      obtain ⟨t0,t1,t2,t3⟩:=RW4.cells4 n91
      have ft0:=RW4.frz4 n91 0
      have ft1:=RW4.frz4 n91 1
      have ft2:=RW4.frz4 n91 2
      have ft3:=RW4.frz4 n91 3
      have lt:=(RW4.low4 n91)
      obtain ⟨f5,RW5,mm,oo⟩:=RW4.all4 n91 (.int .i64 0) (.slice bLa bLn bLc) (.slice bCa bCn bCc) (.slice bQa bQn bQc)
      replace n02:=(oo (0,2) (by decide)).trans n02
      replace n03:=(oo (0,3) (by decide)).trans n03
      replace n10:=(oo (1,0) (by decide)).trans n10
      replace n11:=(oo (1,1) (by decide)).trans n11
      replace n20:=(oo (2,0) (by decide)).trans n20
      replace n21:=(oo (2,1) (by decide)).trans n21
      replace n30:=(oo (3,0) (by decide)).trans n30
      replace n31:=(oo (3,1) (by decide)).trans n31
      replace n90:=(oo (9,0) (by decide)).trans n90
      clear n91
      have n91:=mm
      have bW5:=Below.all4 (g:=gb10) bW4 lt.1 (.int .i64 0) (.slice bLa bLn bLc) (.slice bCa bCn bCc) (.slice bQa bQn bQc)
      have b25:=Below.all4 (g:=gb10) b24 lgb10 (.int .i64 0) (.slice bLa bLn bLc) (.slice bCa bCn bCc) (.slice bQa bQn bQc)
      obtain ⟨W5,hW5⟩ : ∃ W' : World,(((W4.setCell ⟨gb10,0,none⟩ (.int .i64 0)).setCell ⟨gb10,1,none⟩ (.slice bLa bLn bLc)).setCell ⟨gb10,2,none⟩ (.slice bCa bCn bCc)).setCell ⟨gb10,3,none⟩ (.slice bQa bQn bQc) = W':=⟨_,rfl⟩
      rw [hW5] at RW5 bW5 b25
      have hS5 : W5.cell? ⟨w.heap.size,0,none⟩ = some (.int .i64 K) ∧ W5.cell? ra = some (.int .i64 v):=⟨by rw [b25.cell hlow.1,← b24.cell hlow.1]; exact hS4.1,by rw [b25.cell hlow.2,← b24.cell hlow.2]; exact hS4.2⟩
      replace hW5:=Hd hW5
      refine wpAnyH_ready (rs:=[14]) (by kernel_rfl) (by simp) (AllReadyH.cons rfl (fun KK hK => ?_) AllReadyH.nil)
      go_simp
      rw [hW5.out]
      refine hK.out _ _ hS5 fun _ => ?_
      clear hK KK t0 t1 t2 t3 ft0 ft1 ft2 ft3 mm oo lt RW4 hW5
      refine pqD 15 7 hS5 ?_
      refine wpAnyH_done (by kernel_rfl) ?_ _
      refine NoPanic.normal ?_
      replace n02:=Hd n02
      replace n03:=Hd n03
      replace n90:=Hd n90
      replace n91:=Hd n91
      replace n10:=Hd n10
      replace n11:=Hd n11
      replace n20:=Hd n20
      replace n21:=Hd n21
      replace n30:=Hd n30
      replace n31:=Hd n31
      replace RW5:=Hd RW5
      go_wp2
      go_meet
      case rel => exact ⟨rfl,gb9,gb10,L',C',Q',_,_,_,_,_,_,f5,rfl,rfl,bW5,hwi.out,RW5.out,n02.out,n03.out,n90.out,n91.out,n10.out,n11.out,n20.out,n21.out,n30.out,n31.out⟩
    ·go_simp
     obtain ⟨f6,RW6,n91,oo⟩:=RW1.box4 (9,1) hB1 36 (.int .i64 0) (.slice none 0 0) (.slice none 0 0) (.slice none 0 0)
     replace n02:=(oo (0,2) (by decide)).trans n02
     replace n03:=(oo (0,3) (by decide)).trans n03
     replace n10:=(oo (1,0) (by decide)).trans n10
     replace n11:=(oo (1,1) (by decide)).trans n11
     replace n20:=(oo (2,0) (by decide)).trans n20
     replace n21:=(oo (2,1) (by decide)).trans n21
     replace n30:=(oo (3,0) (by decide)).trans n30
     replace n31:=(oo (3,1) (by decide)).trans n31
     have bb:=belowAlloc W1 (.cells #[.int .i64 0,.slice none 0 0,.slice none 0 0,.slice none 0 0] 36)
     obtain ⟨gb10,hgb10⟩ : ∃ g,W1.heap.size = g:=⟨_,rfl⟩
     obtain ⟨W6,hW6⟩ : ∃ W' : World,W1.alloc (.cells #[.int .i64 0,.slice none 0 0,.slice none 0 0,.slice none 0 0] 36) = W':=⟨_,rfl⟩
     have lgb10 : w2.heap.size ≤ gb10:=by rw [← hgb10]; exact b21.size
     have bW6:=bW1.trans (bb.mono hB1)
     have b26:=Below.step b21 bb
     rw [hW6] at RW6 bW6 b26 bb
     have hB6:=bW6.size
     have hS6 : W6.cell? ⟨w.heap.size,0,none⟩ = some (.int .i64 K) ∧ W6.cell? ra = some (.int .i64 v):=⟨by rw [b26.cell hlow.1,← b21.cell hlow.1]; exact hS1.1,by rw [b26.cell hlow.2,← b21.cell hlow.2]; exact hS1.2⟩
     rw [hW6,hgb10]
     rw [hgb10] at n91
     replace hW6:=Hd hW6
     replace hgb10:=Hd hgb10
     refine hK.out _ _ hS6 fun _ => ?_
     clear hK KK bb RW1 oo
     refine wpAnyH_ready (rs:=[11]) (by kernel_rfl) (by simp) (AllReadyH.cons rfl (fun KK hK => ?_) (AllReadyH.nil))
     ·go_simp
      obtain ⟨f7,RW7,n90,oo⟩:=RW6.box4 (9,0) hB6 36 (.int .i64 0) (.slice none 0 0) (.slice none 0 0) (.slice none 0 0)
      replace n02:=(oo (0,2) (by decide)).trans n02
      replace n03:=(oo (0,3) (by decide)).trans n03
      replace n10:=(oo (1,0) (by decide)).trans n10
      replace n11:=(oo (1,1) (by decide)).trans n11
      replace n20:=(oo (2,0) (by decide)).trans n20
      replace n21:=(oo (2,1) (by decide)).trans n21
      replace n30:=(oo (3,0) (by decide)).trans n30
      replace n31:=(oo (3,1) (by decide)).trans n31
      replace n91:=(oo (9,1) (by decide)).trans n91
      have bb:=belowAlloc W6 (.cells #[.int .i64 0,.slice none 0 0,.slice none 0 0,.slice none 0 0] 36)
      obtain ⟨gb9,hgb9⟩ : ∃ g,W6.heap.size = g:=⟨_,rfl⟩
      obtain ⟨W7,hW7⟩ : ∃ W' : World,W6.alloc (.cells #[.int .i64 0,.slice none 0 0,.slice none 0 0,.slice none 0 0] 36) = W':=⟨_,rfl⟩
      have lgb9 : w2.heap.size ≤ gb9:=by rw [← hgb9]; exact b26.size
      have bW7:=bW6.trans (bb.mono hB6)
      have b27:=Below.step b26 bb
      rw [hW7] at RW7 bW7 b27 bb
      have hB7:=bW7.size
      have hS7 : W7.cell? ⟨w.heap.size,0,none⟩ = some (.int .i64 K) ∧ W7.cell? ra = some (.int .i64 v):=⟨by rw [b27.cell hlow.1,← b26.cell hlow.1]; exact hS6.1,by rw [b27.cell hlow.2,← b26.cell hlow.2]; exact hS6.2⟩
      rw [hW7,hgb9]
      rw [hgb9] at n90
      replace hW7:=Hd hW7
      replace hgb9:=Hd hgb9
      refine hK.out _ _ hS7 fun _ => ?_
      clear hK KK bb RW6 oo
      obtain ⟨t0,t1,t2,t3⟩:=RW7.cells4 n90
      have ft0:=RW7.frz4 n90 0
      have ft1:=RW7.frz4 n90 1
      have ft2:=RW7.frz4 n90 2
      have ft3:=RW7.frz4 n90 3
      have lt:=(RW7.low4 n90)
      obtain ⟨f8,RW8,mm,oo⟩:=RW7.all4 n90 (.int .i64 0) (.slice aLa aLn aLc) (.slice aCa aCn aCc) (.slice aQa aQn aQc)
      replace n02:=(oo (0,2) (by decide)).trans n02
      replace n03:=(oo (0,3) (by decide)).trans n03
      replace n10:=(oo (1,0) (by decide)).trans n10
      replace n11:=(oo (1,1) (by decide)).trans n11
      replace n20:=(oo (2,0) (by decide)).trans n20
      replace n21:=(oo (2,1) (by decide)).trans n21
      replace n30:=(oo (3,0) (by decide)).trans n30
      replace n31:=(oo (3,1) (by decide)).trans n31
      replace n91:=(oo (9,1) (by decide)).trans n91
      clear n90
      have n90:=mm
      have bW8:=Below.all4 (g:=gb9) bW7 lt.1 (.int .i64 0) (.slice aLa aLn aLc) (.slice aCa aCn aCc) (.slice aQa aQn aQc)
      have b28:=Below.all4 (g:=gb9) b27 lgb9 (.int .i64 0) (.slice aLa aLn aLc) (.slice aCa aCn aCc) (.slice aQa aQn aQc)
      obtain ⟨W8,hW8⟩ : ∃ W' : World,(((W7.setCell ⟨gb9,0,none⟩ (.int .i64 0)).setCell ⟨gb9,1,none⟩ (.slice aLa aLn aLc)).setCell ⟨gb9,2,none⟩ (.slice aCa aCn aCc)).setCell ⟨gb9,3,none⟩ (.slice aQa aQn aQc) = W':=⟨_,rfl⟩
      rw [hW8] at RW8 bW8 b28
      have hS8 : W8.cell? ⟨w.heap.size,0,none⟩ = some (.int .i64 K) ∧ W8.cell? ra = some (.int .i64 v):=⟨by rw [b28.cell hlow.1,← b27.cell hlow.1]; exact hS7.1,by rw [b28.cell hlow.2,← b27.cell hlow.2]; exact hS7.2⟩
      replace hW8:=Hd hW8
      refine wpAnyH_ready (rs:=[13]) (by kernel_rfl) (by simp) (AllReadyH.cons rfl (fun KK hK => ?_) AllReadyH.nil)
      go_simp
      rw [hW8.out]
      refine hK.out _ _ hS8 fun _ => ?_
      clear hK KK t0 t1 t2 t3 ft0 ft1 ft2 ft3 mm oo lt RW7 hW8
      obtain ⟨t0,t1,t2,t3⟩:=RW8.cells4 n91
      have ft0:=RW8.frz4 n91 0
      have ft1:=RW8.frz4 n91 1
      have ft2:=RW8.frz4 n91 2
      have ft3:=RW8.frz4 n91 3
      have lt:=(RW8.low4 n91)
      obtain ⟨f9,RW9,mm,oo⟩:=RW8.all4 n91 (.int .i64 0) (.slice bLa bLn bLc) (.slice bCa bCn bCc) (.slice bQa bQn bQc)
      replace n02:=(oo (0,2) (by decide)).trans n02
      replace n03:=(oo (0,3) (by decide)).trans n03
      replace n10:=(oo (1,0) (by decide)).trans n10
      replace n11:=(oo (1,1) (by decide)).trans n11
      replace n20:=(oo (2,0) (by decide)).trans n20
      replace n21:=(oo (2,1) (by decide)).trans n21
      replace n30:=(oo (3,0) (by decide)).trans n30
      replace n31:=(oo (3,1) (by decide)).trans n31
      replace n90:=(oo (9,0) (by decide)).trans n90
      clear n91
      have n91:=mm
      have bW9:=Below.all4 (g:=gb10) bW8 lt.1 (.int .i64 0) (.slice bLa bLn bLc) (.slice bCa bCn bCc) (.slice bQa bQn bQc)
      have b29:=Below.all4 (g:=gb10) b28 lgb10 (.int .i64 0) (.slice bLa bLn bLc) (.slice bCa bCn bCc) (.slice bQa bQn bQc)
      obtain ⟨W9,hW9⟩ : ∃ W' : World,(((W8.setCell ⟨gb10,0,none⟩ (.int .i64 0)).setCell ⟨gb10,1,none⟩ (.slice bLa bLn bLc)).setCell ⟨gb10,2,none⟩ (.slice bCa bCn bCc)).setCell ⟨gb10,3,none⟩ (.slice bQa bQn bQc) = W':=⟨_,rfl⟩
      rw [hW9] at RW9 bW9 b29
      have hS9 : W9.cell? ⟨w.heap.size,0,none⟩ = some (.int .i64 K) ∧ W9.cell? ra = some (.int .i64 v):=⟨by rw [b29.cell hlow.1,← b28.cell hlow.1]; exact hS8.1,by rw [b29.cell hlow.2,← b28.cell hlow.2]; exact hS8.2⟩
      replace hW9:=Hd hW9
      refine wpAnyH_ready (rs:=[14]) (by kernel_rfl) (by simp) (AllReadyH.cons rfl (fun KK hK => ?_) AllReadyH.nil)
      go_simp
      rw [hW9.out]
      refine hK.out _ _ hS9 fun _ => ?_
      clear hK KK t0 t1 t2 t3 ft0 ft1 ft2 ft3 mm oo lt RW8 hW9
      refine pqD 15 7 hS9 ?_
      refine wpAnyH_done (by kernel_rfl) ?_ _
      refine NoPanic.normal ?_
      replace n02:=Hd n02
      replace n03:=Hd n03
      replace n90:=Hd n90
      replace n91:=Hd n91
      replace n10:=Hd n10
      replace n11:=Hd n11
      replace n20:=Hd n20
      replace n21:=Hd n21
      replace n30:=Hd n30
      replace n31:=Hd n31
      replace RW9:=Hd RW9
      go_wp2
      go_meet
      case rel => exact ⟨rfl,gb9,gb10,L',C',Q',_,_,_,_,_,_,f9,rfl,rfl,bW9,hwi.out,RW9.out,n02.out,n03.out,n90.out,n91.out,n10.out,n11.out,n20.out,n21.out,n30.out,n31.out⟩
   ·go_simp
    obtain ⟨f10,RW10,n90,oo⟩:=RW0.box4 (9,0) hB0 36 (.int .i64 0) (.slice none 0 0) (.slice none 0 0) (.slice none 0 0)
    replace n02:=(oo (0,2) (by decide)).trans n02
    replace n03:=(oo (0,3) (by decide)).trans n03
    have bb:=belowAlloc W0 (.cells #[.int .i64 0,.slice none 0 0,.slice none 0 0,.slice none 0 0] 36)
    obtain ⟨gb9,hgb9⟩ : ∃ g,W0.heap.size = g:=⟨_,rfl⟩
    obtain ⟨W10,hW10⟩ : ∃ W' : World,W0.alloc (.cells #[.int .i64 0,.slice none 0 0,.slice none 0 0,.slice none 0 0] 36) = W':=⟨_,rfl⟩
    have lgb9 : w2.heap.size ≤ gb9:=by rw [← hgb9]; exact b20.size
    have bW10:=bW0.trans (bb.mono hB0)
    have b210:=Below.step b20 bb
    rw [hW10] at RW10 bW10 b210 bb
    have hB10:=bW10.size
    have hS10 : W10.cell? ⟨w.heap.size,0,none⟩ = some (.int .i64 K) ∧ W10.cell? ra = some (.int .i64 v):=⟨by rw [b210.cell hlow.1,← b20.cell hlow.1]; exact hS0.1,by rw [b210.cell hlow.2,← b20.cell hlow.2]; exact hS0.2⟩
    rw [hW10,hgb9]
    rw [hgb9] at n90
    replace hW10:=Hd hW10
    replace hgb9:=Hd hgb9
    refine hK.out _ _ hS10 fun _ => ?_
    clear hK KK bb RW0 oo
    refine wpAnyH_ready (rs:=[6,12]) (by kernel_rfl) (by simp) (AllReadyH.cons rfl (fun KK hK => ?_) (AllReadyH.cons rfl (fun KK hK => ?_) (AllReadyH.nil)))
    ·go_simp
     refine (hwv.out W10 (hG2.out.below b210) (hL2.out.below b210)).mono ?_
     rintro e W11 ⟨x,y,z,rfl,bb,hz,L',C',Q',aL,aC,aQ,bL,bC,bQ,hwi,rfl,rfl,fw,Rw,k10,k11,k20,k21,k30,k31⟩
     subst hz
     obtain ⟨aLa,aLn,aLc,haL⟩:=(Rw.ownI k10).at.shape
     subst haL
     obtain ⟨bLa,bLn,bLc,hbL⟩:=(Rw.ownI k11).at.shape
     subst hbL
     obtain ⟨aCa,aCn,aCc,haC⟩:=(Rw.ownI k20).at.shape
     subst haC
     obtain ⟨bCa,bCn,bCc,hbC⟩:=(Rw.ownI k21).at.shape
     subst hbC
     obtain ⟨aQa,aQn,aQc,haQ⟩:=(Rw.ownI k30).at.shape
     subst haQ
     obtain ⟨bQa,bQn,bQc,hbQ⟩:=(Rw.ownI k31).at.shape
     subst hbQ
     obtain ⟨f11,RW11,sel,oth⟩:=RW10.merge (fun i => decide (i.1 = 1 ∨ i.1 = 2 ∨ i.1 = 3)) bb Rw hB10
     replace n02:=(oth (0,2) (by decide)).trans n02
     replace n03:=(oth (0,3) (by decide)).trans n03
     replace n90:=(oth (9,0) (by decide)).trans n90
     have n10:=(sel (1,0) (by decide)).trans k10
     have n11:=(sel (1,1) (by decide)).trans k11
     have n20:=(sel (2,0) (by decide)).trans k20
     have n21:=(sel (2,1) (by decide)).trans k21
     have n30:=(sel (3,0) (by decide)).trans k30
     have n31:=(sel (3,1) (by decide)).trans k31
     replace hwi:=Hd hwi
     clear sel oth k10 k11 k20 k21 k30 k31 Rw
     have bW11:=bW10.trans (bb.mono hB10)
     have b211:=Below.step b210 bb
     have hB11:=bW11.size
     have hS11 : W11.cell? ⟨w.heap.size,0,none⟩ = some (.int .i64 K) ∧ W11.cell? ra = some (.int .i64 v):=⟨by rw [b211.cell hlow.1,← b210.cell hlow.1]; exact hS10.1,by rw [b211.cell hlow.2,← b210.cell hlow.2]; exact hS10.2⟩
     refine hK.out _ _ hS11 fun _ => ?_
     clear hK KK bb RW10
     refine pqD 7 39 hS11 ?_
     refine pqD 8 47 hS11 ?_
     refine pqD 9 48 hS11 ?_
     refine pqD 10 49 hS11 ?_
     refine wpAnyH_ready (rs:=[12]) (by kernel_rfl) (by simp) (AllReadyH.cons rfl (fun KK hK => ?_) (AllReadyH.nil))
     ·go_simp
      obtain ⟨f12,RW12,n91,oo⟩:=RW11.box4 (9,1) hB11 36 (.int .i64 0) (.slice none 0 0) (.slice none 0 0) (.slice none 0 0)
      replace n02:=(oo (0,2) (by decide)).trans n02
      replace n03:=(oo (0,3) (by decide)).trans n03
      replace n90:=(oo (9,0) (by decide)).trans n90
      replace n10:=(oo (1,0) (by decide)).trans n10
      replace n11:=(oo (1,1) (by decide)).trans n11
      replace n20:=(oo (2,0) (by decide)).trans n20
      replace n21:=(oo (2,1) (by decide)).trans n21
      replace n30:=(oo (3,0) (by decide)).trans n30
      replace n31:=(oo (3,1) (by decide)).trans n31
      have bb:=belowAlloc W11 (.cells #[.int .i64 0,.slice none 0 0,.slice none 0 0,.slice none 0 0] 36)
      obtain ⟨gb10,hgb10⟩ : ∃ g,W11.heap.size = g:=⟨_,rfl⟩
      obtain ⟨W12,hW12⟩ : ∃ W' : World,W11.alloc (.cells #[.int .i64 0,.slice none 0 0,.slice none 0 0,.slice none 0 0] 36) = W':=⟨_,rfl⟩
      have lgb10 : w2.heap.size ≤ gb10:=by rw [← hgb10]; exact b211.size
      have bW12:=bW11.trans (bb.mono hB11)
      have b212:=Below.step b211 bb
      rw [hW12] at RW12 bW12 b212 bb
      have hB12:=bW12.size
      have hS12 : W12.cell? ⟨w.heap.size,0,none⟩ = some (.int .i64 K) ∧ W12.cell? ra = some (.int .i64 v):=⟨by rw [b212.cell hlow.1,← b211.cell hlow.1]; exact hS11.1,by rw [b212.cell hlow.2,← b211.cell hlow.2]; exact hS11.2⟩
      rw [hW12,hgb10]
      rw [hgb10] at n91
      replace hW12:=Hd hW12
      replace hgb10:=Hd hgb10
      refine hK.out _ _ hS12 fun _ => ?_
      clear hK KK bb RW11 oo
      obtain ⟨t0,t1,t2,t3⟩:=RW12.cells4 n90
      have ft0:=RW12.frz4 n90 0
      have ft1:=RW12.frz4 n90 1
      have ft2:=RW12.frz4 n90 2
      have ft3:=RW12.frz4 n90 3
      have lt:=(RW12.low4 n90)
      obtain ⟨f13,RW13,mm,oo⟩:=RW12.all4 n90 (.int .i64 0) (.slice aLa aLn aLc) (.slice aCa aCn aCc) (.slice aQa aQn aQc)
      replace n02:=(oo (0,2) (by decide)).trans n02
      replace n03:=(oo (0,3) (by decide)).trans n03
      replace n10:=(oo (1,0) (by decide)).trans n10
      replace n11:=(oo (1,1) (by decide)).trans n11
      replace n20:=(oo (2,0) (by decide)).trans n20
      replace n21:=(oo (2,1) (by decide)).trans n21
      replace n30:=(oo (3,0) (by decide)).trans n30
      replace n31:=(oo (3,1) (by decide)).trans n31
      replace n91:=(oo (9,1) (by decide)).trans n91
      clear n90
      have n90:=mm
      have bW13:=Below.all4 (g:=gb9) bW12 lt.1 (.int .i64 0) (.slice aLa aLn aLc) (.slice aCa aCn aCc) (.slice aQa aQn aQc)
      have b213:=Below.all4 (g:=gb9) b212 lgb9 (.int .i64 0) (.slice aLa aLn aLc) (.slice aCa aCn aCc) (.slice aQa aQn aQc)
      obtain ⟨W13,hW13⟩ : ∃ W' : World,(((W12.setCell ⟨gb9,0,none⟩ (.int .i64 0)).setCell ⟨gb9,1,none⟩ (.slice aLa aLn aLc)).setCell ⟨gb9,2,none⟩ (.slice aCa aCn aCc)).setCell ⟨gb9,3,none⟩ (.slice aQa aQn aQc) = W':=⟨_,rfl⟩
      rw [hW13] at RW13 bW13 b213
      have hS13 : W13.cell? ⟨w.heap.size,0,none⟩ = some (.int .i64 K) ∧ W13.cell? ra = some (.int .i64 v):=⟨by rw [b213.cell hlow.1,← b212.cell hlow.1]; exact hS12.1,by rw [b213.cell hlow.2,← b212.cell hlow.2]; exact hS12.2⟩
      replace hW13:=Hd hW13
      refine wpAnyH_ready (rs:=[13]) (by kernel_rfl) (by simp) (AllReadyH.cons rfl (fun KK hK => ?_) AllReadyH.nil)
      go_simp
      rw [hW13.out]
      refine hK.out _ _ hS13 fun _ => ?_
      clear hK KK t0 t1 t2 t3 ft0 ft1 ft2 ft3 mm oo lt RW12 hW13
      obtain ⟨t0,t1,t2,t3⟩:=RW13.cells4 n91
      have ft0:=RW13.frz4 n91 0
      have ft1:=RW13.frz4 n91 1
      have ft2:=RW13.frz4 n91 2
      have ft3:=RW13.frz4 n91 3
      have lt:=(RW13.low4 n91)
      obtain ⟨f14,RW14,mm,oo⟩:=RW13.all4 n91 (.int .i64 0) (.slice bLa bLn bLc) (.slice bCa bCn bCc) (.slice bQa bQn bQc)
      replace n02:=(oo (0,2) (by decide)).trans n02
      replace n03:=(oo (0,3) (by decide)).trans n03
      replace n90:=(oo (9,0) (by decide)).trans n90
      replace n10:=(oo (1,0) (by decide)).trans n10
      replace n11:=(oo (1,1) (by decide)).trans n11
      replace n20:=(oo (2,0) (by decide)).trans n20
      replace n21:=(oo (2,1) (by decide)).trans n21
      replace n30:=(oo (3,0) (by decide)).trans n30
      replace n31:=(oo (3,1) (by decide)).trans n31
      clear n91
      have n91:=mm
      have bW14:=Below.all4 (g:=gb10) bW13 lt.1 (.int .i64 0) (.slice bLa bLn bLc) (.slice bCa bCn bCc) (.slice bQa bQn bQc)
      have b214:=Below.all4 (g:=gb10) b213 lgb10 (.int .i64 0) (.slice bLa bLn bLc) (.slice bCa bCn bCc) (.slice bQa bQn bQc)
      obtain ⟨W14,hW14⟩ : ∃ W' : World,(((W13.setCell ⟨gb10,0,none⟩ (.int .i64 0)).setCell ⟨gb10,1,none⟩ (.slice bLa bLn bLc)).setCell ⟨gb10,2,none⟩ (.slice bCa bCn bCc)).setCell ⟨gb10,3,none⟩ (.slice bQa bQn bQc) = W':=⟨_,rfl⟩
      rw [hW14] at RW14 bW14 b214
      have hS14 : W14.cell? ⟨w.heap.size,0,none⟩ = some (.int .i64 K) ∧ W14.cell? ra = some (.int .i64 v):=⟨by rw [b214.cell hlow.1,← b213.cell hlow.1]; exact hS13.1,by rw [b214.cell hlow.2,← b213.cell hlow.2]; exact hS13.2⟩
      replace hW14:=Hd hW14
      refine wpAnyH_ready (rs:=[14]) (by kernel_rfl) (by simp) (AllReadyH.cons rfl (fun KK hK => ?_) AllReadyH.nil)
      go_simp
      rw [hW14.out]
      refine hK.out _ _ hS14 fun _ => ?_
      clear hK KK t0 t1 t2 t3 ft0 ft1 ft2 ft3 mm oo lt RW13 hW14
      refine pqD 15 7 hS14 ?_
      refine wpAnyH_done (by kernel_rfl) ?_ _
      refine NoPanic.normal ?_
      replace n02:=Hd n02
      replace n03:=Hd n03
      replace n90:=Hd n90
      replace n91:=Hd n91
      replace n10:=Hd n10
      replace n11:=Hd n11
      replace n20:=Hd n20
      replace n21:=Hd n21
      replace n30:=Hd n30
      replace n31:=Hd n31
      replace RW14:=Hd RW14
      go_wp2
      go_meet
      case rel => exact ⟨rfl,gb9,gb10,L',C',Q',_,_,_,_,_,_,f14,rfl,rfl,bW14,hwi.out,RW14.out,n02.out,n03.out,n90.out,n91.out,n10.out,n11.out,n20.out,n21.out,n30.out,n31.out⟩
    ·go_simp
     obtain ⟨f15,RW15,n91,oo⟩:=RW10.box4 (9,1) hB10 36 (.int .i64 0) (.slice none 0 0) (.slice none 0 0) (.slice none 0 0)
     replace n02:=(oo (0,2) (by decide)).trans n02
     replace n03:=(oo (0,3) (by decide)).trans n03
     replace n90:=(oo (9,0) (by decide)).trans n90
     have bb:=belowAlloc W10 (.cells #[.int .i64 0,.slice none 0 0,.slice none 0 0,.slice none 0 0] 36)
     obtain ⟨gb10,hgb10⟩ : ∃ g,W10.heap.size = g:=⟨_,rfl⟩
     obtain ⟨W15,hW15⟩ : ∃ W' : World,W10.alloc (.cells #[.int .i64 0,.slice none 0 0,.slice none 0 0,.slice none 0 0] 36) = W':=⟨_,rfl⟩
     have lgb10 : w2.heap.size ≤ gb10:=by rw [← hgb10]; exact b210.size
     have bW15:=bW10.trans (bb.mono hB10)
     have b215:=Below.step b210 bb
     rw [hW15] at RW15 bW15 b215 bb
     have hB15:=bW15.size
     have hS15 : W15.cell? ⟨w.heap.size,0,none⟩ = some (.int .i64 K) ∧ W15.cell? ra = some (.int .i64 v):=⟨by rw [b215.cell hlow.1,← b210.cell hlow.1]; exact hS10.1,by rw [b215.cell hlow.2,← b210.cell hlow.2]; exact hS10.2⟩
     rw [hW15,hgb10]
     rw [hgb10] at n91
     replace hW15:=Hd hW15
     replace hgb10:=Hd hgb10
     refine hK.out _ _ hS15 fun _ => ?_
     clear hK KK bb RW10 oo
     refine wpAnyH_ready (rs:=[6]) (by kernel_rfl) (by simp) (AllReadyH.cons rfl (fun KK hK => ?_) (AllReadyH.nil))
     ·go_simp
      refine (hwv.out W15 (hG2.out.below b215) (hL2.out.below b215)).mono ?_
      rintro e W16 ⟨x,y,z,rfl,bb,hz,L',C',Q',aL,aC,aQ,bL,bC,bQ,hwi,rfl,rfl,fw,Rw,k10,k11,k20,k21,k30,k31⟩
      subst hz
      obtain ⟨aLa,aLn,aLc,haL⟩:=(Rw.ownI k10).at.shape
      subst haL
      obtain ⟨bLa,bLn,bLc,hbL⟩:=(Rw.ownI k11).at.shape
      subst hbL
      obtain ⟨aCa,aCn,aCc,haC⟩:=(Rw.ownI k20).at.shape
      subst haC
      obtain ⟨bCa,bCn,bCc,hbC⟩:=(Rw.ownI k21).at.shape
      subst hbC
      obtain ⟨aQa,aQn,aQc,haQ⟩:=(Rw.ownI k30).at.shape
      subst haQ
      obtain ⟨bQa,bQn,bQc,hbQ⟩:=(Rw.ownI k31).at.shape
      subst hbQ
      obtain ⟨f16,RW16,sel,oth⟩:=RW15.merge (fun i => decide (i.1 = 1 ∨ i.1 = 2 ∨ i.1 = 3)) bb Rw hB15
      replace n02:=(oth (0,2) (by decide)).trans n02
      replace n03:=(oth (0,3) (by decide)).trans n03
      replace n90:=(oth (9,0) (by decide)).trans n90
      replace n91:=(oth (9,1) (by decide)).trans n91
      have n10:=(sel (1,0) (by decide)).trans k10
      have n11:=(sel (1,1) (by decide)).trans k11
      have n20:=(sel (2,0) (by decide)).trans k20
      have n21:=(sel (2,1) (by decide)).trans k21
      have n30:=(sel (3,0) (by decide)).trans k30
      have n31:=(sel (3,1) (by decide)).trans k31
      replace hwi:=Hd hwi
      clear sel oth k10 k11 k20 k21 k30 k31 Rw
      have bW16:=bW15.trans (bb.mono hB15)
      have b216:=Below.step b215 bb
      have hB16:=bW16.size
      have hS16 : W16.cell? ⟨w.heap.size,0,none⟩ = some (.int .i64 K) ∧ W16.cell? ra = some (.int .i64 v):=⟨by rw [b216.cell hlow.1,← b215.cell hlow.1]; exact hS15.1,by rw [b216.cell hlow.2,← b215.cell hlow.2]; exact hS15.2⟩
      refine hK.out _ _ hS16 fun _ => ?_
      clear hK KK bb RW15
      refine pqD 7 39 hS16 ?_
      refine pqD 8 47 hS16 ?_
      refine pqD 9 48 hS16 ?_
      refine pqD 10 49 hS16 ?_
      obtain ⟨t0,t1,t2,t3⟩:=RW16.cells4 n90
      have ft0:=RW16.frz4 n90 0
      have ft1:=RW16.frz4 n90 1
      have ft2:=RW16.frz4 n90 2
      have ft3:=RW16.frz4 n90 3
      have lt:=(RW16.low4 n90)
      obtain ⟨f17,RW17,mm,oo⟩:=RW16.all4 n90 (.int .i64 0) (.slice aLa aLn aLc) (.slice aCa aCn aCc) (.slice aQa aQn aQc)
      replace n02:=(oo (0,2) (by decide)).trans n02
      replace n03:=(oo (0,3) (by decide)).trans n03
      replace n91:=(oo (9,1) (by decide)).trans n91
      replace n10:=(oo (1,0) (by decide)).trans n10
      replace n11:=(oo (1,1) (by decide)).trans n11
      replace n20:=(oo (2,0) (by decide)).trans n20
      replace n21:=(oo (2,1) (by decide)).trans n21
      replace n30:=(oo (3,0) (by decide)).trans n30
      replace n31:=(oo (3,1) (by decide)).trans n31
      clear n90
      have n90:=mm
      have bW17:=Below.all4 (g:=gb9) bW16 lt.1 (.int .i64 0) (.slice aLa aLn aLc) (.slice aCa aCn aCc) (.slice aQa aQn aQc)
      have b217:=Below.all4 (g:=gb9) b216 lgb9 (.int .i64 0) (.slice aLa aLn aLc) (.slice aCa aCn aCc) (.slice aQa aQn aQc)
      obtain ⟨W17,hW17⟩ : ∃ W' : World,(((W16.setCell ⟨gb9,0,none⟩ (.int .i64 0)).setCell ⟨gb9,1,none⟩ (.slice aLa aLn aLc)).setCell ⟨gb9,2,none⟩ (.slice aCa aCn aCc)).setCell ⟨gb9,3,none⟩ (.slice aQa aQn aQc) = W':=⟨_,rfl⟩
      rw [hW17] at RW17 bW17 b217
      have hS17 : W17.cell? ⟨w.heap.size,0,none⟩ = some (.int .i64 K) ∧ W17.cell? ra = some (.int .i64 v):=⟨by rw [b217.cell hlow.1,← b216.cell hlow.1]; exact hS16.1,by rw [b217.cell hlow.2,← b216.cell hlow.2]; exact hS16.2⟩
      replace hW17:=Hd hW17
      refine wpAnyH_ready (rs:=[13]) (by kernel_rfl) (by simp) (AllReadyH.cons rfl (fun KK hK => ?_) AllReadyH.nil)
      go_simp
      rw [hW17.out]
      refine hK.out _ _ hS17 fun _ => ?_
      clear hK KK t0 t1 t2 t3 ft0 ft1 ft2 ft3 mm oo lt RW16 hW17
      obtain ⟨t0,t1,t2,t3⟩:=RW17.cells4 n91
      have ft0:=RW17.frz4 n91 0
      have ft1:=RW17.frz4 n91 1
      have ft2:=RW17.frz4 n91 2
      have ft3:=RW17.frz4 n91 3
      have lt:=(RW17.low4 n91)
      obtain ⟨f18,RW18,mm,oo⟩:=RW17.all4 n91 (.int .i64 0) (.slice bLa bLn bLc) (.slice bCa bCn bCc) (.slice bQa bQn bQc)
      replace n02:=(oo (0,2) (by decide)).trans n02
      replace n03:=(oo (0,3) (by decide)).trans n03
      replace n90:=(oo (9,0) (by decide)).trans n90
      replace n10:=(oo (1,0) (by decide)).trans n10
      replace n11:=(oo (1,1) (by decide)).trans n11
      replace n20:=(oo (2,0) (by decide)).trans n20
      replace n21:=(oo (2,1) (by decide)).trans n21
      replace n30:=(oo (3,0) (by decide)).trans n30
      replace n31:=(oo (3,1) (by decide)).trans n31
      clear n91
      have n91:=mm
      have bW18:=Below.all4 (g:=gb10) bW17 lt.1 (.int .i64 0) (.slice bLa bLn bLc) (.slice bCa bCn bCc) (.slice bQa bQn bQc)
      have b218:=Below.all4 (g:=gb10) b217 lgb10 (.int .i64 0) (.slice bLa bLn bLc) (.slice bCa bCn bCc) (.slice bQa bQn bQc)
      obtain ⟨W18,hW18⟩ : ∃ W' : World,(((W17.setCell ⟨gb10,0,none⟩ (.int .i64 0)).setCell ⟨gb10,1,none⟩ (.slice bLa bLn bLc)).setCell ⟨gb10,2,none⟩ (.slice bCa bCn bCc)).setCell ⟨gb10,3,none⟩ (.slice bQa bQn bQc) = W':=⟨_,rfl⟩
      rw [hW18] at RW18 bW18 b218
      have hS18 : W18.cell? ⟨w.heap.size,0,none⟩ = some (.int .i64 K) ∧ W18.cell? ra = some (.int .i64 v):=⟨by rw [b218.cell hlow.1,← b217.cell hlow.1]; exact hS17.1,by rw [b218.cell hlow.2,← b217.cell hlow.2]; exact hS17.2⟩
      replace hW18:=Hd hW18
      refine wpAnyH_ready (rs:=[14]) (by kernel_rfl) (by simp) (AllReadyH.cons rfl (fun KK hK => ?_) AllReadyH.nil)
      go_simp
      rw [hW18.out]
      refine hK.out _ _ hS18 fun _ => ?_
      clear hK KK t0 t1 t2 t3 ft0 ft1 ft2 ft3 mm oo lt RW17 hW18
      refine pqD 15 7 hS18 ?_
      refine wpAnyH_done (by kernel_rfl) ?_ _
      refine NoPanic.normal ?_
      replace n02:=Hd n02
      replace n03:=Hd n03
      replace n90:=Hd n90
      replace n91:=Hd n91
      replace n10:=Hd n10
      replace n11:=Hd n11
      replace n20:=Hd n20
      replace n21:=Hd n21
      replace n30:=Hd n30
      replace n31:=Hd n31
      replace RW18:=Hd RW18
      go_wp2
      go_meet
      case rel => exact ⟨rfl,gb9,gb10,L',C',Q',_,_,_,_,_,_,f18,rfl,rfl,bW18,hwi.out,RW18.out,n02.out,n03.out,n90.out,n91.out,n10.out,n11.out,n20.out,n21.out,n30.out,n31.out⟩
   ·go_simp
    obtain ⟨f19,RW19,n91,oo⟩:=RW0.box4 (9,1) hB0 36 (.int .i64 0) (.slice none 0 0) (.slice none 0 0) (.slice none 0 0)
    replace n02:=(oo (0,2) (by decide)).trans n02
    replace n03:=(oo (0,3) (by decide)).trans n03
    have bb:=belowAlloc W0 (.cells #[.int .i64 0,.slice none 0 0,.slice none 0 0,.slice none 0 0] 36)
    obtain ⟨gb10,hgb10⟩ : ∃ g,W0.heap.size = g:=⟨_,rfl⟩
    obtain ⟨W19,hW19⟩ : ∃ W' : World,W0.alloc (.cells #[.int .i64 0,.slice none 0 0,.slice none 0 0,.slice none 0 0] 36) = W':=⟨_,rfl⟩
    have lgb10 : w2.heap.size ≤ gb10:=by rw [← hgb10]; exact b20.size
    have bW19:=bW0.trans (bb.mono hB0)
    have b219:=Below.step b20 bb
    rw [hW19] at RW19 bW19 b219 bb
    have hB19:=bW19.size
    have hS19 : W19.cell? ⟨w.heap.size,0,none⟩ = some (.int .i64 K) ∧ W19.cell? ra = some (.int .i64 v):=⟨by rw [b219.cell hlow.1,← b20.cell hlow.1]; exact hS0.1,by rw [b219.cell hlow.2,← b20.cell hlow.2]; exact hS0.2⟩
    rw [hW19,hgb10]
    rw [hgb10] at n91
    replace hW19:=Hd hW19
    replace hgb10:=Hd hgb10
    refine hK.out _ _ hS19 fun _ => ?_
    clear hK KK bb RW0 oo
    refine wpAnyH_ready (rs:=[6,11]) (by kernel_rfl) (by simp) (AllReadyH.cons rfl (fun KK hK => ?_) (AllReadyH.cons rfl (fun KK hK => ?_) (AllReadyH.nil)))
    ·go_simp
     refine (hwv.out W19 (hG2.out.below b219) (hL2.out.below b219)).mono ?_
     rintro e W20 ⟨x,y,z,rfl,bb,hz,L',C',Q',aL,aC,aQ,bL,bC,bQ,hwi,rfl,rfl,fw,Rw,k10,k11,k20,k21,k30,k31⟩
     subst hz
     obtain ⟨aLa,aLn,aLc,haL⟩:=(Rw.ownI k10).at.shape
     subst haL
     obtain ⟨bLa,bLn,bLc,hbL⟩:=(Rw.ownI k11).at.shape
     subst hbL
     obtain ⟨aCa,aCn,aCc,haC⟩:=(Rw.ownI k20).at.shape
     subst haC
     obtain ⟨bCa,bCn,bCc,hbC⟩:=(Rw.ownI k21).at.shape
     subst hbC
     obtain ⟨aQa,aQn,aQc,haQ⟩:=(Rw.ownI k30).at.shape
     subst haQ
     obtain ⟨bQa,bQn,bQc,hbQ⟩:=(Rw.ownI k31).at.shape
     subst hbQ
     obtain ⟨f20,RW20,sel,oth⟩:=RW19.merge (fun i => decide (i.1 = 1 ∨ i.1 = 2 ∨ i.1 = 3)) bb Rw hB19
     replace n02:=(oth (0,2) (by decide)).trans n02
     replace n03:=(oth (0,3) (by decide)).trans n03
     replace n91:=(oth (9,1) (by decide)).trans n91
     have n10:=(sel (1,0) (by decide)).trans k10
     have n11:=(sel (1,1) (by decide)).trans k11
     have n20:=(sel (2,0) (by decide)).trans k20
     have n21:=(sel (2,1) (by decide)).trans k21
     have n30:=(sel (3,0) (by decide)).trans k30
     have n31:=(sel (3,1) (by decide)).trans k31
     replace hwi:=Hd hwi
     clear sel oth k10 k11 k20 k21 k30 k31 Rw
     have bW20:=bW19.trans (bb.mono hB19)
     have b220:=Below.step b219 bb
     have hB20:=bW20.size
     have hS20 : W20.cell? ⟨w.heap.size,0,none⟩ = some (.int .i64 K) ∧ W20.cell? ra = some (.int .i64 v):=⟨by rw [b220.cell hlow.1,← b219.cell hlow.1]; exact hS19.1,by rw [b220.cell hlow.2,← b219.cell hlow.2]; exact hS19.2⟩
     refine hK.out _ _ hS20 fun _ => ?_
     clear hK KK bb RW19
     refine pqD 7 39 hS20 ?_
     refine pqD 8 47 hS20 ?_
     refine pqD 9 48 hS20 ?_
     refine pqD 10 49 hS20 ?_
     refine wpAnyH_ready (rs:=[11]) (by kernel_rfl) (by simp) (AllReadyH.cons rfl (fun KK hK => ?_) (AllReadyH.nil))
     ·go_simp
      obtain ⟨f21,RW21,n90,oo⟩:=RW20.box4 (9,0) hB20 36 (.int .i64 0) (.slice none 0 0) (.slice none 0 0) (.slice none 0 0)
      replace n02:=(oo (0,2) (by decide)).trans n02
      replace n03:=(oo (0,3) (by decide)).trans n03
      replace n91:=(oo (9,1) (by decide)).trans n91
      replace n10:=(oo (1,0) (by decide)).trans n10
      replace n11:=(oo (1,1) (by decide)).trans n11
      replace n20:=(oo (2,0) (by decide)).trans n20
      replace n21:=(oo (2,1) (by decide)).trans n21
      replace n30:=(oo (3,0) (by decide)).trans n30
      replace n31:=(oo (3,1) (by decide)).trans n31
      have bb:=belowAlloc W20 (.cells #[.int .i64 0,.slice none 0 0,.slice none 0 0,.slice none 0 0] 36)
      obtain ⟨gb9,hgb9⟩ : ∃ g,W20.heap.size = g:=⟨_,rfl⟩
      obtain ⟨W21,hW21⟩ : ∃ W' : World,W20.alloc (.cells #[.int .i64 0,.slice none 0 0,.slice none 0 0,.slice none 0 0] 36) = W':=⟨_,rfl⟩
      have lgb9 : w2.heap.size ≤ gb9:=by rw [← hgb9]; exact b220.size
      have bW21:=bW20.trans (bb.mono hB20)
      have b221:=Below.step b220 bb
      rw [hW21] at RW21 bW21 b221 bb
      have hB21:=bW21.size
      have hS21 : W21.cell? ⟨w.heap.size,0,none⟩ = some (.int .i64 K) ∧ W21.cell? ra = some (.int .i64 v):=⟨by rw [b221.cell hlow.1,← b220.cell hlow.1]; exact hS20.1,by rw [b221.cell hlow.2,← b220.cell hlow.2]; exact hS20.2⟩
      rw [hW21,hgb9]
      rw [hgb9] at n90
      replace hW21:=Hd hW21
      replace hgb9:=Hd hgb9
      refine hK.out _ _ hS21 fun _ => ?_
      clear hK KK bb RW20 oo
      obtain ⟨t0,t1,t2,t3⟩:=RW21.cells4 n90
      have ft0:=RW21.frz4 n90 0
      have ft1:=RW21.frz4 n90 1
      have ft2:=RW21.frz4 n90 2
      have ft3:=RW21.frz4 n90 3
      have lt:=(RW21.low4 n90)
      obtain ⟨f22,RW22,mm,oo⟩:=RW21.all4 n90 (.int .i64 0) (.slice aLa aLn aLc) (.slice aCa aCn aCc) (.slice aQa aQn aQc)
      replace n02:=(oo (0,2) (by decide)).trans n02
      replace n03:=(oo (0,3) (by decide)).trans n03
      replace n91:=(oo (9,1) (by decide)).trans n91
      replace n10:=(oo (1,0) (by decide)).trans n10
      replace n11:=(oo (1,1) (by decide)).trans n11
      replace n20:=(oo (2,0) (by decide)).trans n20
      replace n21:=(oo (2,1) (by decide)).trans n21
      replace n30:=(oo (3,0) (by decide)).trans n30
      replace n31:=(oo (3,1) (by decide)).trans n31
      clear n90
      have n90:=mm
      have bW22:=Below.all4 (g:=gb9) bW21 lt.1 (.int .i64 0) (.slice aLa aLn aLc) (.slice aCa aCn aCc) (.slice aQa aQn aQc)
      have b222:=Below.all4 (g:=gb9) b221 lgb9 (.int .i64 0) (.slice aLa aLn aLc) (.slice aCa aCn aCc) (.slice aQa aQn aQc)
      obtain ⟨W22,hW22⟩ : ∃ W' : World,(((W21.setCell ⟨gb9,0,none⟩ (.int .i64 0)).setCell ⟨gb9,1,none⟩ (.slice aLa aLn aLc)).setCell ⟨gb9,2,none⟩ (.slice aCa aCn aCc)).setCell ⟨gb9,3,none⟩ (.slice aQa aQn aQc) = W':=⟨_,rfl⟩
      rw [hW22] at RW22 bW22 b222
      have hS22 : W22.cell? ⟨w.heap.size,0,none⟩ = some (.int .i64 K) ∧ W22.cell? ra = some (.int .i64 v):=⟨by rw [b222.cell hlow.1,← b221.cell hlow.1]; exact hS21.1,by rw [b222.cell hlow.2,← b221.cell hlow.2]; exact hS21.2⟩
      replace hW22:=Hd hW22
      refine wpAnyH_ready (rs:=[13]) (by kernel_rfl) (by simp) (AllReadyH.cons rfl (fun KK hK => ?_) AllReadyH.nil)
      go_simp
      rw [hW22.out]
      refine hK.out _ _ hS22 fun _ => ?_
      clear hK KK t0 t1 t2 t3 ft0 ft1 ft2 ft3 mm oo lt RW21 hW22
      obtain ⟨t0,t1,t2,t3⟩:=RW22.cells4 n91
      have ft0:=RW22.frz4 n91 0
      have ft1:=RW22.frz4 n91 1
      have ft2:=RW22.frz4 n91 2
      have ft3:=RW22.frz4 n91 3
      have lt:=(RW22.low4 n91)
      obtain ⟨f23,RW23,mm,oo⟩:=RW22.all4 n91 (.int .i64 0) (.slice bLa bLn bLc) (.slice bCa bCn bCc) (.slice bQa bQn bQc)
      replace n02:=(oo (0,2) (by decide)).trans n02
      replace n03:=(oo (0,3) (by decide)).trans n03
      replace n10:=(oo (1,0) (by decide)).trans n10
      replace n11:=(oo (1,1) (by decide)).trans n11
      replace n20:=(oo (2,0) (by decide)).trans n20
      replace n21:=(oo (2,1) (by decide)).trans n21
      replace n30:=(oo (3,0) (by decide)).trans n30
      replace n31:=(oo (3,1) (by decide)).trans n31
      replace n90:=(oo (9,0) (by decide)).trans n90
      clear n91
      have n91:=mm
      have bW23:=Below.all4 (g:=gb10) bW22 lt.1 (.int .i64 0) (.slice bLa bLn bLc) (.slice bCa bCn bCc) (.slice bQa bQn bQc)
      have b223:=Below.all4 (g:=gb10) b222 lgb10 (.int .i64 0) (.slice bLa bLn bLc) (.slice bCa bCn bCc) (.slice bQa bQn bQc)
      obtain ⟨W23,hW23⟩ : ∃ W' : World,(((W22.setCell ⟨gb10,0,none⟩ (.int .i64 0)).setCell ⟨gb10,1,none⟩ (.slice bLa bLn bLc)).setCell ⟨gb10,2,none⟩ (.slice bCa bCn bCc)).setCell ⟨gb10,3,none⟩ (.slice bQa bQn bQc) = W':=⟨_,rfl⟩
      rw [hW23] at RW23 bW23 b223
      have hS23 : W23.cell? ⟨w.heap.size,0,none⟩ = some (.int .i64 K) ∧ W23.cell? ra = some (.int .i64 v):=⟨by rw [b223.cell hlow.1,← b222.cell hlow.1]; exact hS22.1,by rw [b223.cell hlow.2,← b222.cell hlow.2]; exact hS22.2⟩
      replace hW23:=Hd hW23
      refine wpAnyH_ready (rs:=[14]) (by kernel_rfl) (by simp) (AllReadyH.cons rfl (fun KK hK => ?_) AllReadyH.nil)
      go_simp
      rw [hW23.out]
      refine hK.out _ _ hS23 fun _ => ?_
      clear hK KK t0 t1 t2 t3 ft0 ft1 ft2 ft3 mm oo lt RW22 hW23
      refine pqD 15 7 hS23 ?_
      refine wpAnyH_done (by kernel_rfl) ?_ _
      refine NoPanic.normal ?_
      replace n02:=Hd n02
      replace n03:=Hd n03
      replace n90:=Hd n90
      replace n91:=Hd n91
      replace n10:=Hd n10
      replace n11:=Hd n11
      replace n20:=Hd n20
      replace n21:=Hd n21
      replace n30:=Hd n30
      replace n31:=Hd n31
      replace RW23:=Hd RW23
      go_wp2
      go_meet
      case rel => exact ⟨rfl,gb9,gb10,L',C',Q',_,_,_,_,_,_,f23,rfl,rfl,bW23,hwi.out,RW23.out,n02.out,n03.out,n90.out,n91.out,n10.out,n11.out,n20.out,n21.out,n30.out,n31.out⟩
    ·go_simp
     obtain ⟨f24,RW24,n90,oo⟩:=RW19.box4 (9,0) hB19 36 (.int .i64 0) (.slice none 0 0) (.slice none 0 0) (.slice none 0 0)
     replace n02:=(oo (0,2) (by decide)).trans n02
     replace n03:=(oo (0,3) (by decide)).trans n03
     replace n91:=(oo (9,1) (by decide)).trans n91
     have bb:=belowAlloc W19 (.cells #[.int .i64 0,.slice none 0 0,.slice none 0 0,.slice none 0 0] 36)
     obtain ⟨gb9,hgb9⟩ : ∃ g,W19.heap.size = g:=⟨_,rfl⟩
     obtain ⟨W24,hW24⟩ : ∃ W' : World,W19.alloc (.cells #[.int .i64 0,.slice none 0 0,.slice none 0 0,.slice none 0 0] 36) = W':=⟨_,rfl⟩
     have lgb9 : w2.heap.size ≤ gb9:=by rw [← hgb9]; exact b219.size
     have bW24:=bW19.trans (bb.mono hB19)
     have b224:=Below.step b219 bb
     rw [hW24] at RW24 bW24 b224 bb
     have hB24:=bW24.size
     have hS24 : W24.cell? ⟨w.heap.size,0,none⟩ = some (.int .i64 K) ∧ W24.cell? ra = some (.int .i64 v):=⟨by rw [b224.cell hlow.1,← b219.cell hlow.1]; exact hS19.1,by rw [b224.cell hlow.2,← b219.cell hlow.2]; exact hS19.2⟩
     rw [hW24,hgb9]
     rw [hgb9] at n90
     replace hW24:=Hd hW24
     replace hgb9:=Hd hgb9
     refine hK.out _ _ hS24 fun _ => ?_
     clear hK KK bb RW19 oo
     refine wpAnyH_ready (rs:=[6]) (by kernel_rfl) (by simp) (AllReadyH.cons rfl (fun KK hK => ?_) (AllReadyH.nil))
     ·go_simp
      refine (hwv.out W24 (hG2.out.below b224) (hL2.out.below b224)).mono ?_
      rintro e W25 ⟨x,y,z,rfl,bb,hz,L',C',Q',aL,aC,aQ,bL,bC,bQ,hwi,rfl,rfl,fw,Rw,k10,k11,k20,k21,k30,k31⟩
      subst hz
      obtain ⟨aLa,aLn,aLc,haL⟩:=(Rw.ownI k10).at.shape
      subst haL
      obtain ⟨bLa,bLn,bLc,hbL⟩:=(Rw.ownI k11).at.shape
      subst hbL
      obtain ⟨aCa,aCn,aCc,haC⟩:=(Rw.ownI k20).at.shape
      subst haC
      obtain ⟨bCa,bCn,bCc,hbC⟩:=(Rw.ownI k21).at.shape
      subst hbC
      obtain ⟨aQa,aQn,aQc,haQ⟩:=(Rw.ownI k30).at.shape
      subst haQ
      obtain ⟨bQa,bQn,bQc,hbQ⟩:=(Rw.ownI k31).at.shape
      subst hbQ
      obtain ⟨f25,RW25,sel,oth⟩:=RW24.merge (fun i => decide (i.1 = 1 ∨ i.1 = 2 ∨ i.1 = 3)) bb Rw hB24
      replace n02:=(oth (0,2) (by decide)).trans n02
      replace n03:=(oth (0,3) (by decide)).trans n03
      replace n91:=(oth (9,1) (by decide)).trans n91
      replace n90:=(oth (9,0) (by decide)).trans n90
      have n10:=(sel (1,0) (by decide)).trans k10
      have n11:=(sel (1,1) (by decide)).trans k11
      have n20:=(sel (2,0) (by decide)).trans k20
      have n21:=(sel (2,1) (by decide)).trans k21
      have n30:=(sel (3,0) (by decide)).trans k30
      have n31:=(sel (3,1) (by decide)).trans k31
      replace hwi:=Hd hwi
      clear sel oth k10 k11 k20 k21 k30 k31 Rw
      have bW25:=bW24.trans (bb.mono hB24)
      have b225:=Below.step b224 bb
      have hB25:=bW25.size
      have hS25 : W25.cell? ⟨w.heap.size,0,none⟩ = some (.int .i64 K) ∧ W25.cell? ra = some (.int .i64 v):=⟨by rw [b225.cell hlow.1,← b224.cell hlow.1]; exact hS24.1,by rw [b225.cell hlow.2,← b224.cell hlow.2]; exact hS24.2⟩
      refine hK.out _ _ hS25 fun _ => ?_
      clear hK KK bb RW24
      refine pqD 7 39 hS25 ?_
      refine pqD 8 47 hS25 ?_
      refine pqD 9 48 hS25 ?_
      refine pqD 10 49 hS25 ?_
      obtain ⟨t0,t1,t2,t3⟩:=RW25.cells4 n90
      have ft0:=RW25.frz4 n90 0
      have ft1:=RW25.frz4 n90 1
      have ft2:=RW25.frz4 n90 2
      have ft3:=RW25.frz4 n90 3
      have lt:=(RW25.low4 n90)
      obtain ⟨f26,RW26,mm,oo⟩:=RW25.all4 n90 (.int .i64 0) (.slice aLa aLn aLc) (.slice aCa aCn aCc) (.slice aQa aQn aQc)
      replace n02:=(oo (0,2) (by decide)).trans n02
      replace n03:=(oo (0,3) (by decide)).trans n03
      replace n91:=(oo (9,1) (by decide)).trans n91
      replace n10:=(oo (1,0) (by decide)).trans n10
      replace n11:=(oo (1,1) (by decide)).trans n11
      replace n20:=(oo (2,0) (by decide)).trans n20
      replace n21:=(oo (2,1) (by decide)).trans n21
      replace n30:=(oo (3,0) (by decide)).trans n30
      replace n31:=(oo (3,1) (by decide)).trans n31
      clear n90
      have n90:=mm
      have bW26:=Below.all4 (g:=gb9) bW25 lt.1 (.int .i64 0) (.slice aLa aLn aLc) (.slice aCa aCn aCc) (.slice aQa aQn aQc)
      have b226:=Below.all4 (g:=gb9) b225 lgb9 (.int .i64 0) (.slice aLa aLn aLc) (.slice aCa aCn aCc) (.slice aQa aQn aQc)
      obtain ⟨W26,hW26⟩ : ∃ W' : World,(((W25.setCell ⟨gb9,0,none⟩ (.int .i64 0)).setCell ⟨gb9,1,none⟩ (.slice aLa aLn aLc)).setCell ⟨gb9,2,none⟩ (.slice aCa aCn aCc)).setCell ⟨gb9,3,none⟩ (.slice aQa aQn aQc) = W':=⟨_,rfl⟩
      rw [hW26] at RW26 bW26 b226
      have hS26 : W26.cell? ⟨w.heap.size,0,none⟩ = some (.int .i64 K) ∧ W26.cell? ra = some (.int .i64 v):=⟨by rw [b226.cell hlow.1,← b225.cell hlow.1]; exact hS25.1,by rw [b226.cell hlow.2,← b225.cell hlow.2]; exact hS25.2⟩
      replace hW26:=Hd hW26
      refine wpAnyH_ready (rs:=[13]) (by kernel_rfl) (by simp) (AllReadyH.cons rfl (fun KK hK => ?_) AllReadyH.nil)
      go_simp
      rw [hW26.out]
      refine hK.out _ _ hS26 fun _ => ?_
      clear hK KK t0 t1 t2 t3 ft0 ft1 ft2 ft3 mm oo lt RW25 hW26
      obtain ⟨t0,t1,t2,t3⟩:=RW26.cells4 n91
      have ft0:=RW26.frz4 n91 0
      have ft1:=RW26.frz4 n91 1
      have ft2:=RW26.frz4 n91 2
      have ft3:=RW26.frz4 n91 3
      have lt:=(RW26.low4 n91)
      obtain ⟨f27,RW27,mm,oo⟩:=RW26.all4 n91 (.int .i64 0) (.slice bLa bLn bLc) (.slice bCa bCn bCc) (.slice bQa bQn bQc)
      replace n02:=(oo (0,2) (by decide)).trans n02
      replace n03:=(oo (0,3) (by decide)).trans n03
      replace n90:=(oo (9,0) (by decide)).trans n90
      replace n10:=(oo (1,0) (by decide)).trans n10
      replace n11:=(oo (1,1) (by decide)).trans n11
      replace n20:=(oo (2,0) (by decide)).trans n20
      replace n21:=(oo (2,1) (by decide)).trans n21
      replace n30:=(oo (3,0) (by decide)).trans n30
      replace n31:=(oo (3,1) (by decide)).trans n31
      clear n91
      have n91:=mm
      have bW27:=Below.all4 (g:=gb10) bW26 lt.1 (.int .i64 0) (.slice bLa bLn bLc) (.slice bCa bCn bCc) (.slice bQa bQn bQc)
      have b227:=Below.all4 (g:=gb10) b226 lgb10 (.int .i64 0) (.slice bLa bLn bLc) (.slice bCa bCn bCc) (.slice bQa bQn bQc)
      obtain ⟨W27,hW27⟩ : ∃ W' : World,(((W26.setCell ⟨gb10,0,none⟩ (.int .i64 0)).setCell ⟨gb10,1,none⟩ (.slice bLa bLn bLc)).setCell ⟨gb10,2,none⟩ (.slice bCa bCn bCc)).setCell ⟨gb10,3,none⟩ (.slice bQa bQn bQc) = W':=⟨_,rfl⟩
      rw [hW27] at RW27 bW27 b227
      have hS27 : W27.cell? ⟨w.heap.size,0,none⟩ = some (.int .i64 K) ∧ W27.cell? ra = some (.int .i64 v):=⟨by rw [b227.cell hlow.1,← b226.cell hlow.1]; exact hS26.1,by rw [b227.cell hlow.2,← b226.cell hlow.2]; exact hS26.2⟩
      replace hW27:=Hd hW27
      refine wpAnyH_ready (rs:=[14]) (by kernel_rfl) (by simp) (AllReadyH.cons rfl (fun KK hK => ?_) AllReadyH.nil)
      go_simp
      rw [hW27.out]
      refine hK.out _ _ hS27 fun _ => ?_
      clear hK KK t0 t1 t2 t3 ft0 ft1 ft2 ft3 mm oo lt RW26 hW27
      refine pqD 15 7 hS27 ?_
      refine wpAnyH_done (by kernel_rfl) ?_ _
      refine NoPanic.normal ?_
      replace n02:=Hd n02
      replace n03:=Hd n03
      replace n90:=Hd n90
      replace n91:=Hd n91
      replace n10:=Hd n10
      replace n11:=Hd n11
      replace n20:=Hd n20
      replace n21:=Hd n21
      replace n30:=Hd n30
      replace n31:=Hd n31
      replace RW27:=Hd RW27
      go_wp2
      go_meet
      case rel => exact ⟨rfl,gb9,gb10,L',C',Q',_,_,_,_,_,_,f27,rfl,rfl,bW27,hwi.out,RW27.out,n02.out,n03.out,n90.out,n91.out,n10.out,n11.out,n20.out,n21.out,n30.out,n31.out⟩
  case rest =>
   obtain ⟨rfl,g9,g10,L',C',Q',aL,aC,aQ,bL,bC,bQ,f9,rfl,rfl,bc,hwi,Rc,n02,n03,n90,n91,n10,n11,n20,n21,n30,n31⟩:=hcut
   obtain ⟨aLa,aLn,aLc,haL⟩:=(Rc.ownI n10).at.shape
   subst haL
   obtain ⟨bLa,bLn,bLc,hbL⟩:=(Rc.ownI n11).at.shape
   subst hbL
   obtain ⟨aCa,aCn,aCc,haC⟩:=(Rc.ownI n20).at.shape
   subst haC
   obtain ⟨bCa,bCn,bCc,hbC⟩:=(Rc.ownI n21).at.shape
   subst hbC
   obtain ⟨aQa,aQn,aQc,haQ⟩:=(Rc.ownI n30).at.shape
   subst haQ
   obtain ⟨bQa,bQn,bQc,hbQ⟩:=(Rc.ownI n31).at.shape
   subst hbQ
   have honeR:=honeL.out v m L' C' Q' hod.out hwi
   clear hwi
   replace honeR:=Hd honeR
   obtain ⟨V,hVd⟩ : ∃ V : World,wc.drew = V:=⟨_,rfl⟩
   have RV : Rows w.heap.size V f9:=by rw [← hVd]; exact Rc.drew
   have bV : Below w.heap.size w V:=by rw [← hVd]; exact bc.drew
   replace hVd:=Hd hVd
   clear Rc bc
   have hS : V.cell? ⟨g9,0,none⟩ = some (.int .i64 0) ∧ V.cell? ⟨g9,1,none⟩ = some (.slice aLa aLn aLc) ∧ V.cell? ⟨g9,2,none⟩ = some (.slice aCa aCn aCc) ∧ V.cell? ⟨g9,3,none⟩ = some (.slice aQa aQn aQc) ∧ V.cell? ⟨g10,0,none⟩ = some (.int .i64 0) ∧ V.cell? ⟨g10,1,none⟩ = some (.slice bLa bLn bLc) ∧ V.cell? ⟨g10,2,none⟩ = some (.slice bCa bCn bCc) ∧ V.cell? ⟨g10,3,none⟩ = some (.slice bQa bQn bQc):=by
    obtain ⟨a0,a1,a2,a3⟩:=RV.cells4 n90
    obtain ⟨d0,d1,d2,d3⟩:=RV.cells4 n91
    exact ⟨a0,a1,a2,a3,d0,d1,d2,d3⟩
   obtain ⟨g0,g1,g2,g3⟩:=RV.cells4 n02
   have fg0:=RV.frz4 n02 0
   have fg1:=RV.frz4 n02 1
   have fg2:=RV.frz4 n02 2
   have fg3:=RV.frz4 n02 3
   have lg0:=(RV.low4 n02).1
   obtain ⟨f15,R15,m02,o15⟩:=RV.all4 n02 (.int .i64 0) (.slice aLa aLn aLc) (.slice aCa aCn aCc) (.slice aQa aQn aQc)
   replace n03:=(o15 (0,3) (by decide)).trans n03
   replace n90:=(o15 (9,0) (by decide)).trans n90
   replace n91:=(o15 (9,1) (by decide)).trans n91
   replace n10:=(o15 (1,0) (by decide)).trans n10
   replace n11:=(o15 (1,1) (by decide)).trans n11
   replace n20:=(o15 (2,0) (by decide)).trans n20
   replace n21:=(o15 (2,1) (by decide)).trans n21
   replace n30:=(o15 (3,0) (by decide)).trans n30
   replace n31:=(o15 (3,1) (by decide)).trans n31
   have b15:=Below.all4 (g:=w.heap.size + 1) bV lg0 (.int .i64 0) (.slice aLa aLn aLc) (.slice aCa aCn aCc) (.slice aQa aQn aQc)
   obtain ⟨V15,hV15⟩ : ∃ V' : World,(((V.setCell ⟨w.heap.size + 1,0,none⟩ (.int .i64 0)).setCell ⟨w.heap.size + 1,1,none⟩ (.slice aLa aLn aLc)).setCell ⟨w.heap.size + 1,2,none⟩ (.slice aCa aCn aCc)).setCell ⟨w.heap.size + 1,3,none⟩ (.slice aQa aQn aQc) = V':=⟨_,rfl⟩
   rw [hV15] at R15 b15
   have hS15 : V15.cell? ⟨g9,0,none⟩ = some (.int .i64 0) ∧ V15.cell? ⟨g9,1,none⟩ = some (.slice aLa aLn aLc) ∧ V15.cell? ⟨g9,2,none⟩ = some (.slice aCa aCn aCc) ∧ V15.cell? ⟨g9,3,none⟩ = some (.slice aQa aQn aQc) ∧ V15.cell? ⟨g10,0,none⟩ = some (.int .i64 0) ∧ V15.cell? ⟨g10,1,none⟩ = some (.slice bLa bLn bLc) ∧ V15.cell? ⟨g10,2,none⟩ = some (.slice bCa bCn bCc) ∧ V15.cell? ⟨g10,3,none⟩ = some (.slice bQa bQn bQc):=by
    obtain ⟨a0,a1,a2,a3⟩:=R15.cells4 n90
    obtain ⟨d0,d1,d2,d3⟩:=R15.cells4 n91
    exact ⟨a0,a1,a2,a3,d0,d1,d2,d3⟩
   replace hV15:=Hd hV15
   clear n02 o15 RV bV lg0
   have n02:=m02
   clear m02
   go_upto_region 8 with fail
   refine wp_region_plan (fun w' => w'.cell? ⟨g9,0,none⟩ = some (.int .i64 0) ∧ w'.cell? ⟨g9,1,none⟩ = some (.slice aLa aLn aLc) ∧ w'.cell? ⟨g9,2,none⟩ = some (.slice aCa aCn aCc) ∧ w'.cell? ⟨g9,3,none⟩ = some (.slice aQa aQn aQc) ∧ w'.cell? ⟨g10,0,none⟩ = some (.int .i64 0) ∧ w'.cell? ⟨g10,1,none⟩ = some (.slice bLa bLn bLc) ∧ w'.cell? ⟨g10,2,none⟩ = some (.slice bCa bCn bCc) ∧ w'.cell? ⟨g10,3,none⟩ = some (.slice bQa bQn bQc)) 6 [(0,true),(1,true),(2,true),(3,true),(4,false),(5,false)] (by kernel_rfl) (by kernel_rfl) ?_
   rw [hVd.out]
   refine pqY 50 hS ?_
   refine pqY 51 hS ?_
   refine pqY 52 hS ?_
   refine pqY 2 hS ?_
   refine headC rfl (fun KK hK => ?_)
   go_simp
   rw [hV15.out]
   refine hK _ _ hS15 ?_
   clear hK KK hS g0 g1 g2 g3 fg0 fg1 fg2 fg3
   obtain ⟨h0,h1,h2,h3⟩:=R15.cells4 n03
   have fh0:=R15.frz4 n03 0
   have fh1:=R15.frz4 n03 1
   have fh2:=R15.frz4 n03 2
   have fh3:=R15.frz4 n03 3
   have lh0:=(R15.low4 n03).1
   obtain ⟨f16,R16,m03,o16⟩:=R15.all4 n03 (.int .i64 0) (.slice bLa bLn bLc) (.slice bCa bCn bCc) (.slice bQa bQn bQc)
   replace n02:=(o16 (0,2) (by decide)).trans n02
   replace n90:=(o16 (9,0) (by decide)).trans n90
   replace n91:=(o16 (9,1) (by decide)).trans n91
   replace n10:=(o16 (1,0) (by decide)).trans n10
   replace n11:=(o16 (1,1) (by decide)).trans n11
   replace n20:=(o16 (2,0) (by decide)).trans n20
   replace n21:=(o16 (2,1) (by decide)).trans n21
   replace n30:=(o16 (3,0) (by decide)).trans n30
   replace n31:=(o16 (3,1) (by decide)).trans n31
   have b16:=Below.all4 (g:=w.heap.size + 2) b15 lh0 (.int .i64 0) (.slice bLa bLn bLc) (.slice bCa bCn bCc) (.slice bQa bQn bQc)
   obtain ⟨V16,hV16⟩ : ∃ V' : World,(((V15.setCell ⟨w.heap.size + 2,0,none⟩ (.int .i64 0)).setCell ⟨w.heap.size + 2,1,none⟩ (.slice bLa bLn bLc)).setCell ⟨w.heap.size + 2,2,none⟩ (.slice bCa bCn bCc)).setCell ⟨w.heap.size + 2,3,none⟩ (.slice bQa bQn bQc) = V':=⟨_,rfl⟩
   rw [hV16] at R16 b16
   have hS16 : V16.cell? ⟨g9,0,none⟩ = some (.int .i64 0) ∧ V16.cell? ⟨g9,1,none⟩ = some (.slice aLa aLn aLc) ∧ V16.cell? ⟨g9,2,none⟩ = some (.slice aCa aCn aCc) ∧ V16.cell? ⟨g9,3,none⟩ = some (.slice aQa aQn aQc) ∧ V16.cell? ⟨g10,0,none⟩ = some (.int .i64 0) ∧ V16.cell? ⟨g10,1,none⟩ = some (.slice bLa bLn bLc) ∧ V16.cell? ⟨g10,2,none⟩ = some (.slice bCa bCn bCc) ∧ V16.cell? ⟨g10,3,none⟩ = some (.slice bQa bQn bQc):=by
    obtain ⟨a0,a1,a2,a3⟩:=R16.cells4 n90
    obtain ⟨d0,d1,d2,d3⟩:=R16.cells4 n91
    exact ⟨a0,a1,a2,a3,d0,d1,d2,d3⟩
   replace hV16:=Hd hV16
   clear n03 o16 R15 b15 lh0
   have n03:=m03
   clear m03
   refine headC rfl (fun KK hK => ?_)
   go_simp
   rw [hV16.out]
   refine hK _ _ hS16 ?_
   clear hK KK hS15 h0 h1 h2 h3 fh0 fh1 fh2 fh3
   refine head0 ?_
   simp only [List.drop_succ_cons,List.drop_zero]
   clear hS16
   obtain ⟨g0,g1,g2,g3⟩:=R16.cells4 n02
   obtain ⟨h0,h1,h2,h3⟩:=R16.cells4 n03
   replace n02:=Hd n02
   replace n03:=Hd n03
   replace n90:=Hd n90
   replace n91:=Hd n91
   replace n10:=Hd n10
   replace n11:=Hd n11
   replace n20:=Hd n20
   replace n21:=Hd n21
   replace n30:=Hd n30
   replace n31:=Hd n31
   replace R16:=Hd R16
   go_wp2
   refine NoPanic.normal ?_
   go_wp2
   (try simp only [Exit.inBlock,Exit.then])
   refine bodyPost_ret (v:=.tuple #[.bool false,.agg #[.int .i64 0,.slice aLa aLn aLc,.slice aCa aCn aCc,.slice aQa aQn aQc],.agg #[.int .i64 0,.slice bLa bLn bLc,.slice bCa bCn bCc,.slice bQa bQn bQc],.nilIface]) (by simp [results,Tryz.results16,go_sem,g0,g1,g2,g3,h0,h1,h2,h3]) rfl ?_
   exact ⟨_,_,_,_,rfl,b16,rfl,.inr ⟨rfl,hno.out,L',C',Q',_,_,_,_,_,_,honeR.out,rfl,rfl,f16,R16.out,n10.out,n11.out,n20.out,n21.out,n30.out,n31.out⟩⟩
theorem WitIs.pos {G : List (List Int)} {v : Nat} {L C Q : List Nat} (h : WitIs G v L C Q) : 1 ≤ L.length ∧ 1 ≤ Q.length:=by
 obtain ⟨c,d,u1,u2,I,O,_,_,hc,_,h3,_,_,_,rfl,rfl,rfl⟩:=h
 refine ⟨?_,by simp⟩
 have he:=h3.way.ends
 obtain ⟨w',hw⟩:=h3.way.ne
 cases hd : u1.dropLast with
 | nil =>
  rw [hd,hw] at he
  simp at he
  omega
 | cons x l => simp
theorem OneIs.pos {K R : Nat} {T : List Int} {L C Q : List Nat} (h : OneIs K R T L C Q) : 1 ≤ L.length ∧ 1 ≤ Q.length:=by
 obtain ⟨_,_,_,_,_,h3⟩:=h
 exact h3.pos
/-- The answer, and the two rows' shape. -/
theorem OnePost.ans {w w' : World} {K R : Nat} {T : List Int} {yes x y e : Value} (h : OnePost w K R T yes x y e w') : e = .nilIface ∧ ∃ Y,yes = .bool Y ∧ (Y = true ↔ ¬ NotOne K R T) ∧
 ∃ a1 n1 c1 a2 n2 c2 a3 n3 c3 a4 n4 c4 a5 n5 c5 a6 n6 c6,x = .agg #[.int .i64 0,.slice a1 n1 c1,.slice a2 n2 c2,.slice a3 n3 c3] ∧ y = .agg #[.int .i64 0,.slice a4 n4 c4,.slice a5 n5 c5,.slice a6 n6 c6]:=by
 obtain ⟨rfl,⟨rfl,rfl,rfl,hn⟩ | ⟨rfl,hn,L,C,Q,aL,aC,aQ,bL,bC,bQ,_,rfl,rfl,f,hr,h1,h2,h3,h4,h5,h6⟩⟩:=h
 ·exact ⟨rfl,true,rfl,⟨fun _ => hn,fun _ => rfl⟩,_,_,_,_,_,_,_,_,_,_,_,_,_,_,_,_,_,_,rfl,rfl⟩
 ·obtain ⟨_,_,_,rfl⟩:=(hr.ownI h1).at.shape
  obtain ⟨_,_,_,rfl⟩:=(hr.ownI h2).at.shape
  obtain ⟨_,_,_,rfl⟩:=(hr.ownI h3).at.shape
  obtain ⟨_,_,_,rfl⟩:=(hr.ownI h4).at.shape
  obtain ⟨_,_,_,rfl⟩:=(hr.ownI h5).at.shape
  obtain ⟨_,_,_,rfl⟩:=(hr.ownI h6).at.shape
  exact ⟨rfl,false,rfl,⟨fun h => (by cases h),fun h => absurd hn h⟩,_,_,_,_,_,_,_,_,_,_,_,_,_,_,_,_,_,_,rfl,rfl⟩
end Go.Proofs.YtncpnaoabkjegaaGreatDoor
namespace Go.Proofs.YtncpnaoabkjegaaGreatDoor
/-- Where a stands at one of the places i * m, i < j, the other twin may be put: an image has a preimage without a at these places. -/
theorem twins_swap {K R : Nat} {T a b : List Int} (h : IsTwins K R T a b) {k : Nat} : ∀ j,j ≤ k → ∀ x,Syms K x → x.length = k * a.length + 2 * R → ∃ x',Syms K x' ∧ x'.length = x.length ∧ imgP K R T x' = imgP K R T x ∧ ∀ i,i < j → (x'.drop (i * a.length)).take a.length ≠ a
 | 0,_,x,sx,_ => ⟨x,sx,rfl,rfl,fun _ hi => absurd hi (Nat.not_lt_zero _)⟩
 | j + 1,hj,x,sx,lx => by
  obtain ⟨y,sy,ly,ey,hy⟩:=twins_swap h j (by omega) x sx lx
  by_cases e : (y.drop (j * a.length)).take a.length = a
  ·have hle : j * a.length + a.length ≤ k * a.length:=by rw [← Nat.succ_mul]; exact Nat.mul_le_mul_right _ hj
   have hsplit : y = y.take (j * a.length) ++ a ++ y.drop (j * a.length + a.length):=by
    have h1:=(List.take_append_drop (j * a.length) y).symm
    have h2:=(List.take_append_drop a.length (y.drop (j * a.length))).symm
    rw [e,List.drop_drop] at h2
    rw [List.append_assoc,← h2,← h1]
   have hlu : (y.take (j * a.length)).length = j * a.length:=by rw [List.length_take]; omega
   have hc:=h.context (y.take (j * a.length)) (y.drop (j * a.length + a.length))
   refine ⟨y.take (j * a.length) ++ b ++ y.drop (j * a.length + a.length),?_,?_,?_,fun i hi => ?_⟩
   ·intro z hz
    rcases List.mem_append.1 hz with hz | hz
    ·rcases List.mem_append.1 hz with hz | hz
     ·exact sy z (List.mem_of_mem_take hz)
     ·exact h.sb z hz
    ·exact sy z (List.mem_of_mem_drop hz)
   ·rw [← ly]
    have:=congrArg List.length hsplit
    simp only [List.length_append] at this ⊢
    rw [← h.len]; omega
   ·rw [← hc,← hsplit,ey]
   ·rcases Nat.lt_or_ge i j with hij | hij
    ·have hle2 : i * a.length + a.length ≤ j * a.length:=by rw [← Nat.succ_mul]; exact Nat.mul_le_mul_right _ hij
     have e1 : ((y.take (j * a.length) ++ b ++ y.drop (j * a.length + a.length)).drop (i * a.length)).take a.length = (y.drop (i * a.length)).take a.length:=by
      rw [List.append_assoc,List.drop_append_of_le_length (by omega),List.take_append_of_le_length (by rw [List.length_drop,hlu]; omega)]
      rw [List.drop_take,List.take_take,Nat.min_eq_left (by omega)]
     rw [e1]; exact hy i hij
    ·obtain rfl : i = j:=by omega
     have e1 : ((y.take (i * a.length) ++ b ++ y.drop (i * a.length + a.length)).drop (i * a.length)).take a.length = b:=by
      rw [List.append_assoc,List.drop_left' hlu,List.take_left' h.len.symm]
     rw [e1]; exact h.ne.symm
  ·refine ⟨y,sy,ly,ey,fun i hi => ?_⟩
   rcases Nat.lt_or_ge i j with hij | hij
   ·exact hy i hij
   ·obtain rfl : i = j:=by omega
    exact e
/-- Moore's theorem: a rule that has twins is not onto. -/
theorem IsTwins.not_onto {K R : Nat} {T a b : List Int} (hr : RuleOk K R T) (h : IsTwins K R T a b) : ¬ Onto K R T:=fun ho => by
 have hK:=hr.k1
 obtain ⟨k,hk⟩:=few (pw K a.length) (pw K (2 * R)) (pw_pos _ hK)
 have ham : a ∈ wordsL K a.length:=(mem_wordsL hK).2 ⟨h.sa,rfl⟩
 have hsub : wordsL K (k * a.length) ⊆ (avoid K a.length (2 * R) a k).map (imgP K R T):=by
  intro y hy
  obtain ⟨sy,ly⟩:=(mem_wordsL hK).1 hy
  obtain ⟨x,sx,lx,ex⟩:=ho y sy
  rw [ly] at lx
  obtain ⟨x',sx',lx',ex',hx'⟩:=twins_swap h k (Nat.le_refl _) x sx lx
  exact List.mem_map.2 ⟨x',mem_avoid hK k _ sx' (by rw [lx',lx]) hx',by rw [ex',ex]⟩
 have:=nodup_sub (wordsL_nodup (m:=k * a.length) hK) hsub
 rw [List.length_map,wordsL_len,avoid_len ham,pw_mul] at this
 omega
theorem onto_iff_no_twins {K R : Nat} {T : List Int} (hr : RuleOk K R T) : Onto K R T ↔ ∀ a b,¬ IsTwins K R T a b :=
 ⟨fun ho _ _ t => t.not_onto hr ho,onto_of_no_twins hr⟩
theorem Sm_cons (f : Nat → Int) (n : Nat) : Sm f (n + 1) = f 0 + Sm (fun i => f (i + 1)) n:=by
 induction n with
 | zero => simp [Sm]
 | succ n ih => rw [Sm,ih,Sm]; omega
/-- The sum at place j of a word, not yet reduced. -/
def sumW (f x : List Int) (j n : Nat) : Int:=Sm (fun i => f.getD i 0 * x.getD (j + i) 0) n
theorem getD_snocL {x : List Int} {v : Int} {i : Nat} (h : i < x.length) : (x ++ [v]).getD i 0 = x.getD i 0:=by simp [List.getD,List.getElem?_append_left h]
theorem getD_snocE {x : List Int} {v : Int} : (x ++ [v]).getD x.length 0 = v:=by simp [List.getD]
theorem sumW_snoc {f x : List Int} {v : Int} {j n : Nat} (h : j + n ≤ x.length) : sumW f (x ++ [v]) j n = sumW f x j n :=
 Sm_congr n fun i hi => by rw [getD_snocL (by omega)]
/-- The image of a sum. -/
theorem img_sum {K R : Nat} {f x : List Int} (hl : f.length = 2 * R + 1) (hx : Syms K x) {j : Nat} (hj : j < x.length - 2 * R) : (imgP K R (sumT K f) x).getD j 0 = sumW f x j (2 * R + 1) % K:=by
 rw [imgP_getD _ _ _ _ _ hj,sumT_at K f _ (by rw [List.length_take,List.length_drop]; omega) (syms_take (syms_drop hx _) _),hl]
 congr 1
 refine Sm_congr _ fun i hi => ?_
 rw [sub_get hi]
/-- Each word of sums can be met, where a factor has an inverse and those behind it are nought (modulo p). -/
theorem sum_solve {p : Int} (hp : 1 < p) {f : List Int} {b : Nat} {u : Int} (hu : (u * f.getD b 0) % p = 1) (y : List Int) : ∃ x,Syms p x ∧ x.length = y.length + b ∧ ∀ j,j < y.length → sumW f x j (b + 1) % p = y.getD j 0 % p:=by
 refine snoc_indI (P:=fun y => ∃ x,Syms p x ∧ x.length = y.length + b ∧ ∀ j,j < y.length → sumW f x j (b + 1) % p = y.getD j 0 % p) ?_ ?_ y
 ·exact ⟨List.replicate b 0,fun z hz => by rw [List.eq_of_mem_replicate hz]; omega,by simp,fun j hj => absurd hj (Nat.not_lt_zero _)⟩
 ·rintro y s ⟨x,sx,lx,hx⟩
  obtain ⟨S,hS⟩ : ∃ S,sumW f x y.length b = S:=⟨_,rfl⟩
  obtain ⟨v,hv⟩ : ∃ v,(u * (s - S)) % p = v:=⟨_,rfl⟩
  refine ⟨x ++ [v],fun z hz => ?_,by simp [lx]; omega,fun j hj => ?_⟩
  ·rcases List.mem_append.1 hz with hz | hz
   ·exact sx z hz
   ·rw [List.mem_singleton] at hz; subst hz
    rw [← hv]
    exact ⟨Int.emod_nonneg _ (by omega),Int.emod_lt_of_pos _ (by omega)⟩
  ·rw [List.length_append,List.length_singleton] at hj
   by_cases e : j < y.length
   ·rw [getD_snocL e,sumW_snoc (by omega)]; exact hx j e
   ·obtain rfl : j = y.length:=by omega
    rw [getD_snocE]
    unfold sumW
    rw [Sm]
    have e1 : Sm (fun i => f.getD i 0 * (x ++ [v]).getD (y.length + i) 0) b = S:=by
     rw [← hS]; exact Sm_congr b fun i hi => by rw [getD_snocL (by omega)]
    rw [e1,show y.length + b = x.length by omega,getD_snocE]
    obtain ⟨c,hc⟩ : ∃ c,f.getD b 0 = c:=⟨_,rfl⟩
    rw [hc]
    rw [hc] at hu
    have h1 : (c * v) % p = (s - S) % p:=by
     rw [← hv,Int.mul_emod,Int.emod_emod_of_dvd _ (Int.dvd_refl p),← Int.mul_emod,← Int.mul_assoc,Int.mul_comm c u,Int.mul_emod,hu,Int.one_mul,Int.emod_emod_of_dvd _ (Int.dvd_refl p)]
    rw [Int.add_emod,h1,← Int.add_emod]
    congr 1
    omega
theorem sumW_tail {p : Int} {f x : List Int} {j b n : Nat} (hb : b < n) (hz : ∀ i,b < i → i < n → f.getD i 0 % p = 0) : sumW f x j n % p = sumW f x j (b + 1) % p:=by
 obtain ⟨d,rfl⟩ : ∃ d,n = b + 1 + d:=⟨n - (b + 1),by omega⟩
 induction d with
 | zero => rfl
 | succ d ih =>
  have h1:=ih (by omega) fun i h1 h2 => hz i h1 (by omega)
  show Sm _ (b + 1 + d + 1) % p = _
  rw [Sm,Int.add_emod,Int.mul_emod,hz (b + 1 + d) (by omega) (by omega),Int.zero_mul,Int.zero_emod,Int.add_zero,Int.emod_emod_of_dvd _ (Int.dvd_refl p)]
  exact h1
theorem sumW_pad {f x z : List Int} {j n : Nat} (h : j + n ≤ x.length) : sumW f (x ++ z) j n = sumW f x j n :=
 Sm_congr n fun i hi => by
  have : j + i < x.length:=by omega
  simp [List.getD,List.getElem?_append_left this]
/-- The same, over all factors. -/
theorem sum_meet {p : Int} (hp : 1 < p) {f : List Int} {b n : Nat} (hb : b < n) {u : Int} (hu : (u * f.getD b 0) % p = 1) (hz : ∀ i,b < i → i < n → f.getD i 0 % p = 0) (y : List Int) : ∃ x,Syms p x ∧ x.length = y.length + (n - 1) ∧ ∀ j,j < y.length → sumW f x j n % p = y.getD j 0 % p:=by
 obtain ⟨x,sx,lx,hx⟩:=sum_solve hp hu y
 refine ⟨x ++ List.replicate (n - 1 - b) 0,fun z hz => ?_,by simp [lx]; omega,fun j hj => ?_⟩
 ·rcases List.mem_append.1 hz with hz | hz
  ·exact sx z hz
  ·rw [List.eq_of_mem_replicate hz]; omega
 ·rw [sumW_tail hb hz,sumW_pad (by omega)]; exact hx j hj
/-- Units. -/
theorem unit2 {c : Int} (h : c % 2 ≠ 0) : (1 * c) % 2 = 1:=by omega
theorem unit3 {c : Int} (h : c % 3 ≠ 0) : ∃ u,(u * c) % 3 = 1:=by
 rcases (by omega : c % 3 = 1 ∨ c % 3 = 2) with e | e
 ·exact ⟨1,by omega⟩
 ·exact ⟨2,by omega⟩
theorem cnt_pos {p : Int} {f : List Int} (h : 0 < cnt p f) : ∃ b,b < f.length ∧ f.getD b 0 % p ≠ 0 ∧ ∀ i,b < i → i < f.length → f.getD i 0 % p = 0:=by
 revert h
 refine snoc_indI (P:=fun f => 0 < cnt p f → ∃ b,b < f.length ∧ f.getD b 0 % p ≠ 0 ∧ ∀ i,b < i → i < f.length → f.getD i 0 % p = 0) ?_ ?_ f
 ·intro h; simp [cnt] at h
 ·intro f s ih h
  by_cases e : s % p = 0
  ·rw [cnt_snoc,if_neg (by simp [e]),Nat.add_zero] at h
   obtain ⟨b,hb,h1,h2⟩:=ih h
   refine ⟨b,by simp; omega,by rw [getD_snocL hb]; exact h1,fun i hi hl => ?_⟩
   rw [List.length_append,List.length_singleton] at hl
   by_cases e2 : i < f.length
   ·rw [getD_snocL e2]; exact h2 i hi e2
   ·obtain rfl : i = f.length:=by omega
    rw [getD_snocE]; exact e
  ·refine ⟨f.length,by simp,by rw [getD_snocE]; exact e,fun i hi hl => ?_⟩
   rw [List.length_append,List.length_singleton] at hl; omega
theorem cntO_zero {p : Int} {f : List Int} (h : cnt p f = 0) (i : Nat) : f.getD i 0 % p = 0:=by
 unfold cnt at h
 rw [List.countP_eq_zero] at h
 by_cases hi : i < f.length
 ·have:=h f[i] (List.getElem_mem hi)
  simp only [bne_iff_ne,ne_eq,Classical.not_not] at this
  simpa [List.getD,hi] using this
 ·simp [List.getD,Nat.le_of_not_lt hi]
/-- The image is y, if the sums are. -/
theorem img_is {K R : Nat} {f x y : List Int} (hl : f.length = 2 * R + 1) (hx : Syms K x) (hy : Syms K y) (lx : x.length = y.length + 2 * R) (h : ∀ j,j < y.length → sumW f x j (2 * R + 1) % K = y.getD j 0 % K) : imgP K R (sumT K f) x = y:=by
 refine ext_getD (by rw [imgP_length]; omega) fun j hj => ?_
 rw [imgP_length] at hj
 rw [img_sum hl hx hj,h j (by omega)]
 have:=getD_syms hy (i:=j) (by omega)
 exact Int.emod_eq_of_lt this.1 this.2
theorem sumW_lin {f : List Int} {m j n : Nat} {g h k : List Int} (hg : ∀ t,t < m → g.getD t 0 = h.getD t 0 + 2 * k.getD t 0) (hm : j + n ≤ m) : sumW f g j n = sumW f h j n + 2 * sumW f k j n:=by
 unfold sumW
 rw [← Sm_mulL,← Sm_add]
 refine Sm_congr n fun i hi => ?_
 rw [hg _ (by omega),Int.mul_add]
 congr 1
 rw [← Int.mul_assoc,Int.mul_comm _ 2,Int.mul_assoc]
theorem mod4 {a s e : Int} (h : (s - a) % 2 = 0) (he : e % 2 = ((s - a) / 2) % 2) : (a + 2 * e) % 4 = s % 4:=by omega
/-- A sum is onto, if each prime leaves out a factor. -/
theorem sum_onto {K R : Nat} {f : List Int} (h1 : 1 ≤ K) (h4 : K ≤ 4) (hl : f.length = 2 * R + 1) (h : wholeP mayOnto K f = true) : Onto K R (sumT K f):=by
 intro y sy
 have hK : K = 1 ∨ K = 2 ∨ K = 3 ∨ K = 4:=by omega
 have hw : ∀ p ∈ primesP K,0 < cnt p f:=fun p hp => by
  have:=List.all_eq_true.1 h p hp
  simpa [mayOnto] using this
 rcases hK with rfl | rfl | rfl | rfl
 ·have hx : Syms ((1 : Nat) : Int) (List.replicate (y.length + 2 * R) 0):=fun z hz => by rw [List.eq_of_mem_replicate hz]; omega
  refine ⟨_,hx,by simp,img_is hl hx sy (by simp) fun j _ => ?_⟩
  show _ % (1 : Int) = _ % (1 : Int)
  omega
 ·obtain ⟨b,hb,hu,hz⟩:=cnt_pos (hw 2 (by decide))
  obtain ⟨x,sx,lx,hx⟩:=sum_meet (p:=2) (by decide) (n:=2 * R + 1) (by omega) (unit2 hu) (fun i h1 h2 => hz i h1 (by omega)) y
  exact ⟨x,sx,by omega,img_is hl sx sy (by omega) hx⟩
 ·obtain ⟨b,hb,hu,hz⟩:=cnt_pos (hw 3 (by decide))
  obtain ⟨u,hu⟩:=unit3 hu
  obtain ⟨x,sx,lx,hx⟩:=sum_meet (p:=3) (by decide) (n:=2 * R + 1) (by omega) hu (fun i h1 h2 => hz i h1 (by omega)) y
  exact ⟨x,sx,by omega,img_is hl sx sy (by omega) hx⟩
 ·obtain ⟨b,hb,hu,hz⟩:=cnt_pos (hw 2 (by decide))
  have meet:=fun y => sum_meet (p:=2) (by decide) (f:=f) (n:=2 * R + 1) (by omega) (unit2 hu) (fun i h1 h2 => hz i h1 (by omega)) y
  obtain ⟨x0,s0,l0,e0⟩:=meet y
  obtain ⟨x1,s1,l1,e1⟩:=meet ((List.range y.length).map fun j => (y.getD j 0 - sumW f x0 j (2 * R + 1)) / 2)
  rw [List.length_map,List.length_range] at l1 e1
  have hg : ∀ t,t < y.length + 2 * R → ((List.range (y.length + 2 * R)).map fun t => x0.getD t 0 + 2 * x1.getD t 0).getD t 0 = x0.getD t 0 + 2 * x1.getD t 0:=fun t ht => by simp [List.getD,ht]
  have hx : Syms ((4 : Nat) : Int) ((List.range (y.length + 2 * R)).map fun t => x0.getD t 0 + 2 * x1.getD t 0):=fun z hz => by
   obtain ⟨t,ht,rfl⟩:=List.mem_map.1 hz
   have:=List.mem_range.1 ht
   have a:=getD_syms s0 (i:=t) (by omega)
   have b:=getD_syms s1 (i:=t) (by omega)
   omega
  refine ⟨_,hx,by simp,img_is hl hx sy (by simp) fun j hj => ?_⟩
  rw [sumW_lin (m:=y.length + 2 * R) hg (by omega)]
  have a0:=e0 j hj
  have a1:=e1 j hj
  have e3 : ((List.range y.length).map fun j => (y.getD j 0 - sumW f x0 j (2 * R + 1)) / 2).getD j 0 = (y.getD j 0 - sumW f x0 j (2 * R + 1)) / 2:=by simp [List.getD,hj]
  rw [e3] at a1
  exact mod4 (by omega) a1
/-- It is not, if a prime leaves out none. -/
theorem sum_not_onto {K R : Nat} {f : List Int} (h1 : 1 ≤ K) (h4 : K ≤ 4) (hl : f.length = 2 * R + 1) (h : wholeP mayOnto K f = false) : ¬ Onto K R (sumT K f):=by
 intro ho
 obtain ⟨p,hp,hc⟩ : ∃ p ∈ primesP K,cnt p f = 0:=by
  unfold wholeP at h
  rw [List.all_eq_false] at h
  obtain ⟨p,hp,hc⟩:=h
  refine ⟨p,hp,?_⟩
  simp [mayOnto] at hc
  exact hc
 have hpK : (p = 2 ∧ (K = 2 ∨ K = 4)) ∨ (p = 3 ∧ K = 3):=by
  unfold primesP at hp
  split at hp
  ·simp at hp; exact .inl ⟨hp,by omega⟩
  ·split at hp
   ·simp at hp; exact .inr ⟨hp,by omega⟩
   ·simp at hp
 obtain ⟨x,sx,lx,ex⟩:=ho [1] (fun z hz => by rw [List.mem_singleton] at hz; omega)
 have e1:=img_sum (f:=f) hl sx (j:=0) (by simp at lx; omega)
 rw [ex] at e1
 have e2 : sumW f x 0 (2 * R + 1) % p = 0:=by
  unfold sumW
  have : Sm (fun i => f.getD i 0 * x.getD (0 + i) 0) (2 * R + 1) % p = Sm (fun _ => 0) (2 * R + 1) % p:=Sm_mod _ fun i _ => by rw [Int.mul_emod,cntO_zero hc]; simp
  rw [this,Sm_zero _ fun _ _ => rfl]; simp
 simp only [List.getD_cons_zero] at e1
 obtain ⟨S,hS⟩ : ∃ S,sumW f x 0 (2 * R + 1) = S:=⟨_,rfl⟩
 rw [hS] at e1 e2
 rcases hpK with ⟨rfl,rfl | rfl⟩ | ⟨rfl,rfl⟩ <;> omega
theorem getD_takeL {x : List Int} {n i : Nat} (h : i < n) : (x.take n).getD i 0 = x.getD i 0:=by
 rw [List.getD_eq_getElem?_getD,List.getD_eq_getElem?_getD,List.getElem?_take,if_pos h]
theorem cnt_one {p : Int} {f : List Int} (h : cnt p f = 1) : ∃ b,b < f.length ∧ f.getD b 0 % p ≠ 0 ∧ ∀ i,i ≠ b → f.getD i 0 % p = 0:=by
 revert h
 refine snoc_indI (P:=fun f => cnt p f = 1 → ∃ b,b < f.length ∧ f.getD b 0 % p ≠ 0 ∧ ∀ i,i ≠ b → f.getD i 0 % p = 0) ?_ ?_ f
 ·intro h; simp [cnt] at h
 ·intro f s ih h
  rw [cnt_snoc] at h
  have out : ∀ i,f.length < i → (f ++ [s]).getD i 0 % p = 0:=fun i hi => by simp [List.getD,List.getElem?_eq_none (show (f ++ [s]).length ≤ i by simp; omega)]
  by_cases e : s % p = 0
  ·rw [if_neg (by simp [e]),Nat.add_zero] at h
   obtain ⟨b,hb,h1,h2⟩:=ih h
   refine ⟨b,by simp; omega,by rw [getD_snocL hb]; exact h1,fun i hi => ?_⟩
   rcases Nat.lt_trichotomy i f.length with q | rfl | q
   ·rw [getD_snocL q]; exact h2 i hi
   ·rw [getD_snocE]; exact e
   ·exact out i q
  ·rw [if_pos (by simpa using e)] at h
   refine ⟨f.length,by simp,by rw [getD_snocE]; exact e,fun i hi => ?_⟩
   rcases Nat.lt_trichotomy i f.length with q | rfl | q
   ·rw [getD_snocL q]; exact cntO_zero (by omega) i
   ·exact absurd rfl hi
   ·exact out i q
theorem cnt_only {p : Int} {b : Nat} {f : List Int} (h : ∀ i,i ≠ b → f.getD i 0 % p = 0) : cnt p f ≤ 1:=by
 revert h
 refine snoc_indI (P:=fun f => (∀ i,i ≠ b → f.getD i 0 % p = 0) → cnt p f ≤ 1) ?_ ?_ f
 ·intro _; simp [cnt]
 ·intro f s ih h
  rw [cnt_snoc]
  by_cases e : s % p = 0
  ·rw [if_neg (by simp [e])]
   refine ih fun i hi => ?_
   by_cases q : i < f.length
   ·rw [← getD_snocL (v:=s) q]; exact h i hi
   ·simp [List.getD,Nat.le_of_not_lt q]
  ·have hb : b = f.length:=Classical.byContradiction fun q => e (by have:=h f.length (fun r => q r.symm); rwa [getD_snocE] at this)
   have h0 : cnt p f = 0:=by
    unfold cnt
    rw [List.countP_eq_zero]
    intro x hx
    obtain ⟨i,hi,rfl⟩:=List.getElem_of_mem hx
    have:=h i (by omega)
    rw [getD_snocL hi] at this
    have e2 : f.getD i 0 = f[i]:=by simp [List.getD,hi]
    rw [e2] at this
    simp [this]
   rw [h0]; split <;> omega
theorem cnt_two {p : Int} {f : List Int} (h : 2 ≤ cnt p f) : ∃ a b,a < b ∧ b < f.length ∧ f.getD a 0 % p ≠ 0 ∧ f.getD b 0 % p ≠ 0 ∧ (∀ i,i < a → f.getD i 0 % p = 0) ∧ ∀ i,b < i → i < f.length → f.getD i 0 % p = 0:=by
 obtain ⟨b,hb,h1,h2⟩:=cnt_pos (p:=p) (f:=f) (by omega)
 have least : ∀ n,(∃ a,a ≤ n ∧ f.getD a 0 % p ≠ 0) → ∃ a,f.getD a 0 % p ≠ 0 ∧ ∀ i,i < a → f.getD i 0 % p = 0:=by
  intro n
  induction n with
  | zero => rintro ⟨a,ha,e⟩; exact ⟨a,e,fun i hi => by omega⟩
  | succ n ih =>
   rintro ⟨a,ha,e⟩
   by_cases q : ∃ c,c ≤ n ∧ f.getD c 0 % p ≠ 0
   ·exact ih q
   ·refine ⟨a,e,fun i hi => Classical.byContradiction fun r => q ⟨i,by omega,r⟩⟩
 obtain ⟨a,ha,hl⟩:=least b ⟨b,Nat.le_refl _,h1⟩
 have hab : a ≤ b:=by
  apply Classical.byContradiction
  intro q
  exact h1 (hl b (by omega))
 refine ⟨a,b,?_,hb,ha,h1,hl,h2⟩
 apply Classical.byContradiction
 intro q
 obtain rfl : a = b:=by omega
 have:=cnt_only (p:=p) (b:=a) (f:=f) fun i hi => by
  rcases Nat.lt_or_ge i a with r | r
  ·exact hl i r
  ·by_cases r2 : i < f.length
   ·exact h2 i (by omega) r2
   ·simp [List.getD,Nat.le_of_not_lt r2]
 omega
theorem Sm_split (h : Nat → Int) (a m : Nat) : Sm h (a + m) = Sm h a + Sm (fun i => h (a + i)) m:=by
 induction m with
 | zero => simp [Sm]
 | succ m ih => rw [← Nat.add_assoc,Sm,ih,Sm]; omega
/-- Words that a run of factors sends to nought. -/
def ZeroAt (p : Int) (g : Nat → Int) (w : Nat) (x : List Int) : Prop:=∀ j,j + w < x.length → Sm (fun i => g i * x.getD (j + i) 0) (w + 1) % p = 0
theorem zero_right {p : Int} (hp : 1 < p) {g : Nat → Int} {w : Nat} {u : Int} (hu : (u * g w) % p = 1) {x : List Int} (hx : ZeroAt p g w x) (hl : w ≤ x.length) : ∃ v,0 ≤ v ∧ v < p ∧ ZeroAt p g w (x ++ [v]):=by
 obtain ⟨S,hS⟩ : ∃ S,Sm (fun i => g i * x.getD (x.length - w + i) 0) w = S:=⟨_,rfl⟩
 obtain ⟨v,hv⟩ : ∃ v,(u * (0 - S)) % p = v:=⟨_,rfl⟩
 refine ⟨v,by rw [← hv]; exact Int.emod_nonneg _ (by omega),by rw [← hv]; exact Int.emod_lt_of_pos _ (by omega),fun j hj => ?_⟩
 rw [List.length_append,List.length_singleton] at hj
 by_cases e : j + w < x.length
 ·rw [show Sm (fun i => g i * (x ++ [v]).getD (j + i) 0) (w + 1) = Sm (fun i => g i * x.getD (j + i) 0) (w + 1) from Sm_congr _ fun i hi => by rw [getD_snocL (by omega)]]
  exact hx j e
 ·have hj2 : j = x.length - w:=by omega
  rw [Sm,show Sm (fun i => g i * (x ++ [v]).getD (j + i) 0) w = S by rw [← hS,hj2]; exact Sm_congr _ fun i hi => by rw [getD_snocL (by omega)],show j + w = x.length by omega,getD_snocE]
  have h1 : (g w * v) % p = (0 - S) % p:=by
   rw [← hv,Int.mul_emod,Int.emod_emod_of_dvd _ (Int.dvd_refl p),← Int.mul_emod,← Int.mul_assoc,Int.mul_comm (g w) u,Int.mul_emod,hu,Int.one_mul,Int.emod_emod_of_dvd _ (Int.dvd_refl p)]
  rw [Int.add_emod,h1,← Int.add_emod,show S + (0 - S) = 0 by omega]; simp
theorem zero_left {p : Int} (hp : 1 < p) {g : Nat → Int} {w : Nat} {u : Int} (hu : (u * g 0) % p = 1) {x : List Int} (hx : ZeroAt p g w x) : ∃ v,0 ≤ v ∧ v < p ∧ ZeroAt p g w (v :: x):=by
 obtain ⟨S,hS⟩ : ∃ S,Sm (fun i => g (i + 1) * x.getD i 0) w = S:=⟨_,rfl⟩
 obtain ⟨v,hv⟩ : ∃ v,(u * (0 - S)) % p = v:=⟨_,rfl⟩
 refine ⟨v,by rw [← hv]; exact Int.emod_nonneg _ (by omega),by rw [← hv]; exact Int.emod_lt_of_pos _ (by omega),fun j hj => ?_⟩
 rw [List.length_cons] at hj
 cases j with
 | succ j =>
  rw [show Sm (fun i => g i * (v :: x).getD (j + 1 + i) 0) (w + 1) = Sm (fun i => g i * x.getD (j + i) 0) (w + 1) from Sm_congr _ fun i hi => by rw [show j + 1 + i = (j + i) + 1 by omega,List.getD_cons_succ]]
  exact hx j (by omega)
 | zero =>
  rw [Sm_cons,show Sm (fun i => g (i + 1) * (v :: x).getD (0 + (i + 1)) 0) w = S by rw [← hS]; exact Sm_congr _ fun i hi => by rw [Nat.zero_add,List.getD_cons_succ]]
  have h1 : (g 0 * v) % p = (0 - S) % p:=by
   rw [← hv,Int.mul_emod,Int.emod_emod_of_dvd _ (Int.dvd_refl p),← Int.mul_emod,← Int.mul_assoc,Int.mul_comm (g 0) u,Int.mul_emod,hu,Int.one_mul,Int.emod_emod_of_dvd _ (Int.dvd_refl p)]
  show (g 0 * v + S) % p = 0
  rw [Int.add_emod,h1,← Int.add_emod,show 0 - S + S = 0 by omega]; simp
theorem zero_word {p : Int} (hp : 1 < p) {g : Nat → Int} {w : Nat} (hw : 1 ≤ w) {u t : Int} (hu : (u * g w) % p = 1) (ht : (t * g 0) % p = 1) : ∀ L M,∃ x,Syms p x ∧ ZeroAt p g w x ∧ x.length = L + w + M ∧ x.getD L 0 = 1:=by
 have right : ∀ L M x,Syms p x → ZeroAt p g w x → x.length = L + w → x.getD L 0 = 1 → ∃ y,Syms p y ∧ ZeroAt p g w y ∧ y.length = L + w + M ∧ y.getD L 0 = 1:=by
  intro L M
  induction M with
  | zero => intro x a b c d; exact ⟨x,a,b,c,d⟩
  | succ M ih =>
   intro x a b c d
   obtain ⟨y,sy,zy,ly,dy⟩:=ih x a b c d
   obtain ⟨v,v0,v1,zv⟩:=zero_right hp hu zy (by omega)
   refine ⟨y ++ [v],fun z hz => ?_,zv,by simp [ly]; omega,by rw [getD_snocL (by omega)]; exact dy⟩
   rcases List.mem_append.1 hz with hz | hz
   ·exact sy z hz
   ·rw [List.mem_singleton] at hz; subst hz; exact ⟨v0,v1⟩
 intro L
 have left : ∃ x,Syms p x ∧ ZeroAt p g w x ∧ x.length = L + w ∧ x.getD L 0 = 1:=by
  induction L with
  | zero =>
   refine ⟨1 :: List.replicate (w - 1) 0,fun z hz => ?_,fun j hj => ?_,by simp; omega,rfl⟩
   ·rcases List.mem_cons.1 hz with rfl | hz
    ·omega
    ·rw [List.eq_of_mem_replicate hz]; omega
   ·rw [List.length_cons,List.length_replicate] at hj; omega
  | succ L ih =>
   obtain ⟨x,sx,zx,lx,dx⟩:=ih
   obtain ⟨v,v0,v1,zv⟩:=zero_left hp ht zx
   refine ⟨v :: x,fun z hz => ?_,zv,by simp [lx]; omega,by rw [List.getD_cons_succ]; exact dx⟩
   rcases List.mem_cons.1 hz with rfl | hz
   ·exact ⟨v0,v1⟩
   ·exact sx z hz
 obtain ⟨x,a,b,c,d⟩:=left
 intro M
 exact right L M x a b c d
theorem unit_of {p c : Int} (hp : p = 2 ∨ p = 3) (h : c % p ≠ 0) : ∃ u,(u * c) % p = 1:=by
 rcases hp with rfl | rfl
 ·exact ⟨1,unit2 h⟩
 ·exact unit3 h
/-- Where a prime leaves out no factor, or more than one, a word that is 1 in its middle goes to nought. -/
theorem sum_kernel {p : Int} (hp : p = 2 ∨ p = 3) {f : List Int} (hc : cnt p f ≠ 1) (m : Nat) : ∃ x,Syms p x ∧ x.length = 2 * m + 1 ∧ x.getD m 0 = 1 ∧ ∀ j,j + f.length ≤ 2 * m + 1 → sumW f x j f.length % p = 0:=by
 have hp1 : 1 < p:=by omega
 by_cases h0 : cnt p f = 0
 ·refine ⟨(List.replicate (2 * m + 1) 0).set m 1,fun z hz => ?_,by simp,by rw [List.getD_eq_getElem?_getD,List.getElem?_set_self (by simp; omega)]; rfl,fun j _ => ?_⟩
  ·obtain ⟨i,hi,rfl⟩:=List.getElem_of_mem hz
   rw [List.getElem_set]
   split
   ·omega
   ·rw [List.getElem_replicate]; omega
  ·unfold sumW
   have : Sm (fun i => f.getD i 0 * ((List.replicate (2 * m + 1) (0 : Int)).set m 1).getD (j + i) 0) f.length % p = Sm (fun _ => 0) f.length % p:=Sm_mod _ fun i _ => by rw [Int.mul_emod,cntO_zero h0]; simp
   rw [this,Sm_zero _ fun _ _ => rfl]; simp
 ·obtain ⟨a,b,hab,hb,ha1,hb1,hlo,hhi⟩:=cnt_two (p:=p) (f:=f) (by omega)
  obtain ⟨u,hu⟩:=unit_of hp hb1
  obtain ⟨t,ht⟩:=unit_of hp ha1
  obtain ⟨x,sx,zx,lx,dx⟩:=zero_word hp1 (g:=fun i => f.getD (a + i) 0) (w:=b - a) (by omega) (u:=u) (t:=t) (by show (u * f.getD (a + (b - a)) 0) % p = 1; rw [show a + (b - a) = b by omega]; exact hu) ht m (m + 1)
  refine ⟨x.take (2 * m + 1),fun z hz => sx z (List.mem_of_mem_take hz),by rw [List.length_take]; omega,?_,fun j hj => ?_⟩
  ·rw [getD_takeL (by omega)]; exact dx
  ·have e0 : sumW f (x.take (2 * m + 1)) j f.length = sumW f x j f.length:=Sm_congr _ fun i hi => by
    rw [getD_takeL (by omega)]
   rw [e0,sumW_tail hb hhi]
   unfold sumW
   rw [show b + 1 = a + (b - a + 1) by omega,Sm_split]
   have e1 : Sm (fun i => f.getD i 0 * x.getD (j + i) 0) a % p = 0:=by
    have : Sm (fun i => f.getD i 0 * x.getD (j + i) 0) a % p = Sm (fun _ => 0) a % p:=Sm_mod _ fun i hi => by rw [Int.mul_emod,hlo i hi]; simp
    rw [this,Sm_zero _ fun _ _ => rfl]; simp
   have e2:=zx (j + a) (by omega)
   have e3 : Sm (fun i => f.getD (a + i) 0 * x.getD (j + (a + i)) 0) (b - a + 1) = Sm (fun i => f.getD (a + i) 0 * x.getD (j + a + i) 0) (b - a + 1):=Sm_congr _ fun i _ => by rw [Nat.add_assoc]
   rw [e3,Int.add_emod,e1,e2]; simp
theorem primes_cases {K : Nat} {p : Int} (hp : p ∈ primesP K) : (p = 2 ∧ (K = 2 ∨ K = 4)) ∨ (p = 3 ∧ K = 3):=by
 unfold primesP at hp
 split at hp
 ·simp at hp; exact .inl ⟨hp,by omega⟩
 ·split at hp
  ·simp at hp; exact .inr ⟨hp,by omega⟩
  ·simp at hp
theorem sumW_scale {f : List Int} {m j n : Nat} {c : Int} {X x : List Int} (h : ∀ t,t < m → X.getD t 0 = c * x.getD t 0) (hm : j + n ≤ m) : sumW f X j n = c * sumW f x j n:=by
 unfold sumW
 rw [← Sm_mulL]
 refine Sm_congr n fun i hi => ?_
 rw [h _ (by omega),← Int.mul_assoc,Int.mul_comm _ c,Int.mul_assoc]
/-- A sum is not one to one, if a prime leaves out none or more than one. -/
theorem sum_not_one {K R : Nat} {f : List Int} (hl : f.length = 2 * R + 1) (h : wholeP mayOne K f = false) : NotOne K R (sumT K f):=by
 obtain ⟨p,hp,hc⟩ : ∃ p ∈ primesP K,cnt p f ≠ 1:=by
  unfold wholeP at h
  rw [List.all_eq_false] at h
  obtain ⟨p,hp,hc⟩:=h
  refine ⟨p,hp,fun e => hc ?_⟩
  rw [e]; rfl
 have hpc:=primes_cases hp
 obtain ⟨c,hcK,hc1⟩ : ∃ c : Int,(K : Int) = c * p ∧ (c = 1 ∨ c = 2):=by
  rcases hpc with ⟨rfl,rfl | rfl⟩ | ⟨rfl,rfl⟩
  ·exact ⟨1,rfl,.inl rfl⟩
  ·exact ⟨2,rfl,.inr rfl⟩
  ·exact ⟨1,rfl,.inl rfl⟩
 have hp23 : p = 2 ∨ p = 3:=by omega
 intro m
 obtain ⟨x,sx,lx,dx,zx⟩:=sum_kernel hp23 hc m
 rw [hl] at zx
 have hX : ∀ t,t < 2 * m + 1 → ((List.range (2 * m + 1)).map fun t => c * x.getD t 0).getD t 0 = c * x.getD t 0:=fun t ht => by simp [List.getD,ht]
 have sX : Syms K ((List.range (2 * m + 1)).map fun t => c * x.getD t 0):=fun z hz => by
  obtain ⟨t,ht,rfl⟩:=List.mem_map.1 hz
  have ht':=List.mem_range.1 ht
  have a:=getD_syms sx (i:=t) (by omega)
  rcases hc1 with rfl | rfl <;> omega
 have sO : Syms K (List.replicate (2 * m + 1) 0):=fun z hz => by
  rw [List.eq_of_mem_replicate hz]
  rcases hpc with ⟨_,rfl | rfl⟩ | ⟨_,rfl⟩ <;> decide
 have hO : ∀ t,t < 2 * m + 1 → (List.replicate (2 * m + 1) (0 : Int)).getD t 0 = 0 * x.getD t 0:=fun t ht => by simp [List.getD,ht]
 refine ⟨_,_,sX,sO,by simp,by simp,?_,?_⟩
 ·rw [hX m (by omega),hO m (by omega),dx]
  rcases hc1 with rfl | rfl <;> simp
 ·refine ext_getD (by rw [imgP_length,imgP_length]; simp) fun j hj => ?_
  rw [imgP_length,List.length_map,List.length_range] at hj
  rw [img_sum hl sX (by simp; omega),img_sum hl sO (by simp; omega),sumW_scale hX (by omega),sumW_scale hO (by omega),Int.zero_mul]
  have:=zx j (by omega)
  obtain ⟨S,hS⟩ : ∃ S,sumW f x j (2 * R + 1) = S:=⟨_,rfl⟩
  rw [hS] at this ⊢
  obtain ⟨q,rfl⟩:=Int.dvd_of_emod_eq_zero this
  rw [hcK,← Int.mul_assoc,Int.mul_emod_right]; simp
theorem sumW_only {p : Int} {f x : List Int} {j b n : Nat} (hb : b < n) (hz : ∀ i,i ≠ b → f.getD i 0 % p = 0) : sumW f x j n % p = (f.getD b 0 * x.getD (j + b) 0) % p:=by
 unfold sumW
 have : Sm (fun i => f.getD i 0 * x.getD (j + i) 0) n % p = Sm (fun i => (fun _ => f.getD b 0 * x.getD (j + b) 0) i * (if i = b then 1 else 0)) n % p:=Sm_mod _ fun i _ => by
  by_cases e : i = b
  ·subst e; simp
  ·rw [Int.mul_emod,hz i e,if_neg e]; simp
 rw [this,Sm_delta,if_pos hb]
theorem cancel {p u c x y : Int} (hu : (u * c) % p = 1) (h : (c * x) % p = (c * y) % p) : x % p = y % p:=by
 have e : ∀ z : Int,(u * (c * z)) % p = z % p:=fun z => by
  rw [← Int.mul_assoc,Int.mul_emod,hu,Int.one_mul,Int.emod_emod_of_dvd _ (Int.dvd_refl p)]
 rw [← e x,← e y,Int.mul_emod,h,← Int.mul_emod]
/-- A sum is one to one, if each prime leaves out just one factor. -/
theorem sum_one {K R : Nat} {f : List Int} (h1 : 1 ≤ K) (h4 : K ≤ 4) (hl : f.length = 2 * R + 1) (h : wholeP mayOne K f = true) : ¬ NotOne K R (sumT K f):=by
 have hw : ∀ p ∈ primesP K,cnt p f = 1:=fun p hp => by
  have:=List.all_eq_true.1 h p hp
  simp [mayOne] at this
  omega
 intro hno
 have hK : K = 1 ∨ (K = 2 ∨ K = 3) ∨ K = 4:=by omega
 have img : ∀ {x y : List Int} {n : Nat},Syms K x → Syms K y → x.length = 2 * n + 1 → y.length = 2 * n + 1 → imgP K R (sumT K f) x = imgP K R (sumT K f) y → ∀ j,j < 2 * n + 1 - 2 * R → sumW f x j (2 * R + 1) % K = sumW f y j (2 * R + 1) % K:=fun sx sy lx ly e j hj => by
  rw [← img_sum hl sx (by omega),← img_sum hl sy (by omega),e]
 rcases hK with rfl | hK | rfl
 ·obtain ⟨x,y,sx,sy,lx,ly,hne,_⟩:=hno 0
  have a:=getD_syms sx (i:=0) (by omega)
  have b:=getD_syms sy (i:=0) (by omega)
  omega
 ·obtain ⟨p,hp,hpK⟩ : ∃ p : Int,p ∈ primesP K ∧ p = K:=by
   rcases hK with rfl | rfl
   ·exact ⟨2,by decide,rfl⟩
   ·exact ⟨3,by decide,rfl⟩
  obtain ⟨b,hb,hu,hz⟩:=cnt_one (hw p hp)
  obtain ⟨u,hu⟩:=unit_of (by omega) hu
  obtain ⟨x,y,sx,sy,lx,ly,hne,e⟩:=hno (2 * R)
  have e1:=img sx sy lx ly e (2 * R - b) (by omega)
  rw [← hpK,sumW_only (by omega) hz,sumW_only (by omega) hz,show 2 * R - b + b = 2 * R by omega] at e1
  have e2:=cancel hu e1
  have a:=getD_syms sx (i:=2 * R) (by omega)
  have c:=getD_syms sy (i:=2 * R) (by omega)
  rw [Int.emod_eq_of_lt a.1 (by omega),Int.emod_eq_of_lt c.1 (by omega)] at e2
  exact hne e2
 ·obtain ⟨b,hb,hu,hz⟩:=cnt_one (hw 2 (by decide))
  obtain ⟨x,y,sx,sy,lx,ly,hne,e⟩:=hno (4 * R)
  have low : ∀ t,b ≤ t → t < 6 * R + 1 + b → x.getD t 0 % 2 = y.getD t 0 % 2:=fun t ht1 ht2 => by
   have e1:=img sx sy lx ly e (t - b) (by omega)
   have a1:=sumW_only (x:=x) (j:=t - b) (n:=2 * R + 1) (by omega) hz
   have a2:=sumW_only (x:=y) (j:=t - b) (n:=2 * R + 1) (by omega) hz
   rw [show t - b + b = t by omega] at a1 a2
   exact cancel (unit2 hu) (by rw [← a1,← a2]; omega)
  have e1:=img sx sy lx ly e (4 * R - b) (by omega)
  have key : sumW f x (4 * R - b) (2 * R + 1) % 4 = (sumW f y (4 * R - b) (2 * R + 1) + f.getD b 0 * (x.getD (4 * R) 0 - y.getD (4 * R) 0)) % 4:=by
   unfold sumW
   have hd:=Sm_delta (fun _ => f.getD b 0 * (x.getD (4 * R) 0 - y.getD (4 * R) 0)) b (2 * R + 1)
   rw [if_pos (by omega)] at hd
   rw [← hd,← Sm_add]
   refine Sm_mod _ fun i hi => ?_
   by_cases q : i = b
   ·subst q
    rw [if_pos rfl,show 4 * R - i + i = 4 * R by omega,Int.mul_sub]
    congr 1; omega
   ·rw [if_neg q,Int.mul_zero,Int.add_zero]
    have h1:=low (4 * R - b + i) (by omega) (by omega)
    have h2:=hz i q
    obtain ⟨k,hk⟩ : ∃ k,f.getD i 0 = 2 * k:=⟨f.getD i 0 / 2,by omega⟩
    obtain ⟨d,hd⟩ : ∃ d,x.getD (4 * R - b + i) 0 = y.getD (4 * R - b + i) 0 + 2 * d:=⟨(x.getD (4 * R - b + i) 0 - y.getD (4 * R - b + i) 0) / 2,by omega⟩
    rw [hd,Int.mul_add,hk]
    have e4 : 2 * k * (2 * d) = 4 * (k * d):=by rw [Int.mul_assoc,← Int.mul_assoc k 2 d,Int.mul_comm k 2,Int.mul_assoc,← Int.mul_assoc]; rfl
    rw [e4]; omega
  have a:=getD_syms sx (i:=4 * R) (by omega)
  have c:=getD_syms sy (i:=4 * R) (by omega)
  obtain ⟨P,hP⟩ : ∃ P,f.getD b 0 * (x.getD (4 * R) 0 - y.getD (4 * R) 0) = P:=⟨_,rfl⟩
  rw [hP] at key
  have hP4 : P % 4 = 0:=by omega
  obtain ⟨k,r,hk,hr⟩ : ∃ k r : Int,f.getD b 0 = 4 * k + r ∧ (r = 1 ∨ r = 3):=⟨f.getD b 0 / 4,f.getD b 0 % 4,by omega,by omega⟩
  obtain ⟨D,hD⟩ : ∃ D,x.getD (4 * R) 0 - y.getD (4 * R) 0 = D:=⟨_,rfl⟩
  rw [hk,hD,Int.add_mul,Int.mul_assoc] at hP
  obtain ⟨Z,hZ⟩ : ∃ Z,k * D = Z:=⟨_,rfl⟩
  rw [hZ] at hP
  apply hne
  rcases hr with rfl | rfl <;> omega
open Go.RowKit
set_option maxRecDepth 100000
theorem bool_iff {Y Z : Bool} {p : Prop} (h : Y = true ↔ p) (k : Z = true ↔ p) : Y = Z:=by
 cases Y <;> cases Z
 ·rfl
 ·exact absurd (h.2 (k.1 rfl)) (by decide)
 ·exact absurd (k.2 (h.1 rfl)) (by decide)
 ·rfl
set_option maxHeartbeats 4000000 in
theorem addOntos_any (r : Nat → Addr) (k R : Int) (v : Value) (f : List Int) (w : World) (hg : Glob r w) (hG : GlobE w) (h : IntsAt w v f) :
 Calls Tryz.prog 4 #[.int .i64 k,.int .i64 R,v] w (Ret1 (fun x _ => x = .bool true) w):=by
 replace hg:=Hd hg
 replace hG:=Hd hG
 replace h:=Hd h
 obtain ⟨va,vn,vc,rfl⟩:=h.out.shape
 go_enter Tryz.func4,Tryz.ntmps4
 go_wp2_with fail
 refine (awake18 r _ hg.out).mono ?_
 rintro e w1 ⟨_,rfl,b1,rfl⟩
 go_wp2_with fail
 refine (made18_any r k R _ f _ (hg.out.below b1) (h.out.below b1)).mono ?_
 rintro e w2 ⟨x,y,z,rfl,b2,k1,R1,a1,n1,c1,p1,m1,d1,rfl,rfl,rfl,hm1⟩
 have al2:=(belowAlloc w2 (.cells #[.int .i64 k1,.int .i64 R1,.slice a1 n1 c1] 24))
 have d2:=Below.step b2 al2
 cases e1 : madeB k R f.length with
 | false =>
  clear hm1
  have c0_2:=Below.step b1 d2
  go_wp2
  go_ret
  exact ⟨_,rfl,c0_2,rfl⟩
 | true =>
  obtain ⟨rfl,rfl,hy1,ho1⟩:=hm1 e1
  have g1:=of_decide_eq_true e1
  obtain ⟨K,rfl⟩:=Int.eq_ofNat_of_zero_le (show 0 ≤ k1 by omega)
  obtain ⟨Q,rfl⟩:=Int.eq_ofNat_of_zero_le (show 0 ≤ R1 by omega)
  simp only [Int.toNat_natCast] at hy1 ho1
  have hk1 : 1 ≤ K:=by omega
  have hk4 : K ≤ 4:=by omega
  have hq : Q ≤ 3:=by omega
  have l1 : (modL K f (2 * Q + 1)).length = 2 * Q + 1:=modL_length _ _ _ (by omega)
  have s1:=modL_syms hk1 f (2 * Q + 1)
  generalize modL K f (2 * Q + 1) = A at *
  clear hm1 e1 g1
  have hr : RuleOk K Q (sumT K A):=sumT_ok hk1 hk4 hq l1
  have hfa : factP K A = none:=factP_of hk1 hk4 (by rw [l1]; exact oddP_mk hq) s1
  have hon : toldP mayOnto K A = true ↔ Onto K Q (sumT K A):=by
   unfold toldP; rw [hfa]
   constructor
   ·exact fun q => sum_onto hk1 hk4 l1 q
   ·intro q
    cases hw : wholeP mayOnto K A with
    | true => rfl
    | false => exact absurd q (sum_not_onto hk1 hk4 l1 hw)
  have hone : toldP mayOne K A = true ↔ ¬ NotOne K Q (sumT K A):=by
   unfold toldP; rw [hfa]
   constructor
   ·exact fun q => sum_one hk1 hk4 l1 q
   ·intro q
    cases hw : wholeP mayOne K A with
    | true => rfl
    | false => exact absurd (sum_not_one l1 hw) q
  have hmo:=onto_iff_no_twins hr
  have hsm:=smallP_ok hr
  obtain ⟨bo,hbo⟩ : ∃ b,toldP mayOnto K A = b:=⟨_,rfl⟩
  obtain ⟨bq,hbq⟩ : ∃ b,toldP mayOne K A = b:=⟨_,rfl⟩
  rw [hbo] at hon
  rw [hbq] at hone
  obtain ⟨S,hS⟩ : ∃ S,subR K (pw K (2 * Q)) (sumT K A) = S:=⟨_,rfl⟩
  replace hy1:=hy1.below al2
  replace ho1:=ho1.below al2
  have q : Box3 (w2.alloc (.cells #[.int .i64 K,.int .i64 Q,.slice a1 n1 c1] 24)) w2.heap.size (.int .i64 K) (.int .i64 Q) (.slice a1 n1 c1):=by simp [Box3,go_sem]
  have hAl : A.length ≤ 17592186044416:=by omega
  replace hr:=Hd hr
  replace hfa:=Hd hfa
  replace hon:=Hd hon
  replace hone:=Hd hone
  replace hmo:=Hd hmo
  replace hsm:=Hd hsm
  replace hbo:=Hd hbo
  replace hbq:=Hd hbq
  replace hS:=Hd hS
  replace hy1:=Hd hy1
  replace ho1:=Hd ho1
  replace s1:=Hd s1
  replace l1:=Hd l1
  obtain ⟨⟨q_0,q_1,q_2⟩,-,-,-⟩:=id q
  have c0_2:=Below.step b1 d2
  go_wp2_with fail
  refine (small_any r K Q a1 n1 c1 (sumT K A) _ (hg.out.below c0_2) ho1.out.at).mono ?_
  rintro e w3 ⟨e3,rfl,b3,he⟩
  clear q_0 q_1 q_2
  rw [hsm.out] at he
  by_cases hl : (sumT K A).length ≤ 256
  ·rw [if_neg (by omega)] at he
   obtain rfl:=he.none_eq
   clear he
   have c0_3:=Below.step c0_2 b3
   go_wp2_with fail
   refine (add_onto r K _ A _ (hg.out.below c0_3) (hy1.out.below b3).at hAl).mono ?_
   rintro e w4 ⟨_,y4,rfl,b4,rfl,he4⟩
   rw [hfa.out] at he4
   obtain rfl:=he4.none_eq
   clear he4
   rw [hbo.out]
   have c0_4:=Below.step c0_3 b4
   have c2_4:=Below.step b3 b4
   go_wp2_with fail
   refine (add_one r K _ A _ (hg.out.below c0_4) (hy1.out.below c2_4).at hAl).mono ?_
   rintro e w5 ⟨_,y5,rfl,b5,rfl,he5⟩
   rw [hfa.out] at he5
   obtain rfl:=he5.none_eq
   clear he5
   rw [hbq.out]
   have c2_5:=Below.step c2_4 b5
   obtain ⟨⟨q_0,q_1,q_2⟩,-,-,-⟩:=(q.below c2_5)
   have c0_5:=Below.step c0_4 b5
   go_wp2_with fail
   refine (finite_ok r K Q a1 n1 c1 (sumT K A) _ (hg.out.below c0_5) (ho1.out.below c2_5).at hr.out hl).mono ?_
   rintro e w6 ⟨fy,fa,fb,_,rfl,b6,hf⟩
   clear q_0 q_1 q_2
   have hf2 : fy = .bool bo ∧ (∃ a n c,fa = .slice a n c) ∧ ∃ a n c,fb = .slice a n c:=by
    obtain ⟨-,⟨rfl,rfl,rfl,hn⟩ | ⟨rfl,x1,y1,-,ht,-,-,o1,o2,-⟩⟩:=hf
    ·exact ⟨by rw [hon.out.2 (hmo.out.2 hn)],⟨_,_,_,rfl⟩,_,_,_,rfl⟩
    ·refine ⟨?_,o1.at.shape,o2.at.shape⟩
     cases bo with
     | true => exact absurd ht (hmo.out.1 (hon.out.1 rfl) x1 y1)
     | false => rfl
   obtain ⟨rfl,⟨fa1,fa2,fa3,rfl⟩,fb1,fb2,fb3,rfl⟩:=hf2
   obtain rfl:=hf.1
   clear hf
   have c2_6:=Below.step c2_5 b6
   obtain ⟨⟨q_0,q_1,q_2⟩,-,-,-⟩:=(q.below c2_6)
   have c0_6:=Below.step c0_5 b6
   go_wp2_with fail
   refine (one_ok r K Q a1 n1 c1 (sumT K A) _ (hg.out.below c0_6) (ho1.out.below c2_6).at hr.out hl).mono ?_
   rintro e w7 ⟨_,_,_,_,rfl,b7,hp⟩
   clear q_0 q_1 q_2
   obtain ⟨rfl,Y,rfl,hY,e1,f1,g1,e2,f2,g2,e3,f3,g3,e4,f4,g4,e5,f5,g5,e6,f6,g6,rfl,rfl⟩:=hp.ans
   clear hp
   obtain rfl : Y = bq:=bool_iff hY hone.out
   clear hY
   have al7:=(Below.step (belowAlloc w7 (.cells #[.int .i64 0,.slice e1 f1 g1,.slice e2 f2 g2,.slice e3 f3 g3] 36)) (belowAlloc _ (.cells #[.int .i64 0,.slice e4 f4 g4,.slice e5 f5 g5,.slice e6 f6 g6] 36)))
   have d7:=Below.step b7 al7
   have bo2 : (bo != bo) = false:=by simp
   have y2 : (Y != Y) = false:=by simp
   have c2_7:=Below.step c2_6 d7
   obtain ⟨⟨q_0,q_1,q_2⟩,-,-,-⟩:=(q.below c2_7)
   have c0_7:=Below.step c0_6 d7
   go_wp2_with fail
   refine (sub_onto r K Q a1 n1 c1 (sumT K A) _ (hg.out.below c0_7) (hG.out.below c0_7) (ho1.out.below c2_7).at hr.out hl).mono ?_
   rintro e w8 ⟨_,_,_,rfl,b8,ho⟩
   clear q_0 q_1 q_2
   have c0_8:=Below.step c0_7 b8
   rw [hS.out] at ho
   have bE:=c0_8
   cases S with
   | on sa sb =>
    obtain ⟨rfl,rfl,rfl⟩:=ho
    obtain rfl : bo = true:=hon.out.2 (sub_on hr.out hS.out)
    go_wp2
    go_ret
    exact ⟨_,rfl,bE,rfl⟩
   | orphan wd =>
    obtain ⟨rfl,rfl,ho⟩:=ho
    obtain ⟨t1,t2,t3,rfl⟩:=ho.at.shape
    clear ho
    have hb : bo = false:=by
     cases bo with
     | false => rfl
     | true => exact absurd (hon.out.1 rfl) (sub_not_onto hr.out hS.out)
    subst hb
    go_wp2
    go_ret
    exact ⟨_,rfl,bE,rfl⟩
   | big =>
    obtain ⟨rfl,rfl,he⟩:=ho
    obtain ⟨T9,p9,rfl⟩:=he.some_shape
    clear he
    go_wp2
    go_ret
    exact ⟨_,rfl,bE,rfl⟩
  ·rw [if_pos (by omega)] at he
   obtain ⟨T4,p4,rfl⟩:=he.some_shape
   clear he
   have c0_3:=Below.step c0_2 b3
   go_wp2
   go_ret
   exact ⟨_,rfl,c0_3,rfl⟩
end Go.Proofs.YtncpnaoabkjegaaGreatDoor
namespace Go.Proofs.YtncpnaoabkjegaaGreatDoor
open Go.ChangeShapes Go.WideShapes Go.ChangeAt Go.RowKit Go.Joins
set_option maxRecDepth 100000
theorem own : ownKnob Tryz.prog.godebug = none:=by kernel_rfl
theorem laidOut : laidOutB Tryz.prog = true:=by kernel_rfl
theorem cellsInt : Tryz.prog.cellsOf 3 = 1:=by kernel_rfl
theorem uInt : Tryz.prog.underlying 3 = some (.int .i64):=by kernel_rfl
theorem bytesInt : Tryz.prog.bytesOf 3 = 8:=by kernel_rfl
theorem i64_of_wf {n : Int} (h : (Lit.int .i64 n).wf = true) : I64 n:=by
 have:=bounds_i64 h
 unfold I64
 omega
/-- A []int that came in. -/
theorem open_intsV {H : Type} {enc : TypeId × Value → H} {W : World} {held : Bool} {fuel : Nat} {v : Value} {y : DataW H × List MemPlace}
 (h : DataW.trod enc Tryz.prog W 0 (fun _ => true) held fuel 22 [v] = some y) (hw : ∀ n ∈ y.1.weights Tryz.prog 22,n ≤ reachBytes) :
 ∃ xs,IntsAt W v xs ∧ xs.length ≤ 17592186043904 ∧ ∀ x ∈ xs,I64 x:=by
 rcases open_ints uInts uInt cellsInt h with ⟨hcs,_⟩ | ⟨a,len,cap,zs,hcs,_,hl,hm,hz,hx,hcell,hwz⟩
 ·simp at hcs
  subst hcs
  exact ⟨[],(OwnI.nil 0 W).at,by simp,by simp⟩
 ·simp at hcs
  subst hcs
  simp only [if_true] at hz
  have hzl : (zs.take len).length = len:=by simp; omega
  refine ⟨zs.take len,⟨some a,cap,by rw [hzl],by rw [hzl]; exact hl,hm,(fun e => by cases e),fun i hi => ?_⟩,?_,fun x hx => i64_of_wf (hwz x (List.mem_of_mem_take hx))⟩
  ·have hi' : i < zs.length:=by rw [hzl] at hi; omega
   show W.cell? (a.add i) = _
   rw [hcell i hi']
   simp [List.getD,hi']
  ·rw [hx] at hw
   have:=hw ((lits (H:=H) .i64 (zs.take len)).length * 8 + (lits (H:=H) .i64 (zs.drop len)).length * 8) (by
    simp only [DataW.weights,uInts,bytesInt,List.mem_cons]
    left; omega)
   simp only [lits,List.length_map,reachBytes] at this
   omega
theorem open_intsT {H : Type} {enc : TypeId × Value → H} {W : World} {held : Bool} {v : Value} {d : DataW H} {p : List MemPlace} {b0 : Nat}
 (hv : Value.okWide Tryz.prog W .any b0 22 v) (h : DataW.Trod enc Tryz.prog W 0 (fun _ => true) held 22 v d p) (hw : ∀ n ∈ d.weights Tryz.prog 22,n ≤ reachBytes) :
 ∃ xs,IntsAt W v xs ∧ xs.length ≤ 17592186043904 ∧ ∀ x ∈ xs,I64 x:=by
 obtain ⟨a,l,c,rfl⟩:=okWide_slice uInts hv
 obtain ⟨fuel,hf⟩:=h
 exact open_intsV (y:=(d,p)) (by simpa [Value.cells] using hf) hw
/-! The package-level errors. -/
theorem star : "*" ++ "errors.errorString" = "*errors.errorString" := by decide
theorem rowES (u : TypeId) (h : Tryz.prog.typeName? 3 u = some "*errors.errorString") : u = 322 :=
 typeName_ptr_named (nm := "errors.errorString") (by rw [star]; kernel_rfl) (by kernel_rfl) (by decide) u (by rw [star]; exact h)
theorem pES : Tryz.prog.underlying 322 = some (.pointer 340):=by kernel_rfl
theorem cES : Tryz.prog.cellsOf 340 = 1:=by kernel_rfl
theorem cStr : Tryz.prog.cellsOf 9 = 1:=by kernel_rfl
def laid12 : List (String × DataW Unit) := [("eden/api.BadRule", Rows.laid_eden_api_BadRule), ("eden/api.BadWord", Rows.laid_eden_api_BadWord), ("eden/api.BadArg", Rows.laid_eden_api_BadArg), ("eden/api.TooBig", Rows.laid_eden_api_TooBig), ("eden/api.NoBudget", Rows.laid_eden_api_NoBudget), ("eden/api.BadText", Rows.laid_eden_api_BadText), ("eden/api.BadPatch", Rows.laid_eden_api_BadPatch), ("eden/api.BadCert", Rows.laid_eden_api_BadCert), ("eden/api.NoInverse", Rows.laid_eden_api_NoInverse), ("eden/api.BadLine", Rows.laid_eden_api_BadLine), ("eden/api.BadState", Rows.laid_eden_api_BadState), ("eden/api.Unknown", Rows.laid_eden_api_Unknown)]
theorem sentinel {n : String} {text : List UInt8} {r : List (String × DataW Unit)} {W : World} {g : Nat}
 (h : laidMet Tryz.prog ((n, .iface "*errors.errorString" (.ptr (.agg [.lit (.string text)]))) :: r) W)
 (hg : Tryz.prog.globalNamed n = some g) (ht : (Tryz.prog.globals[g]?).map (·.type) = some 27) :
 (∃ a : Addr,W.cell? ⟨g,0,none⟩ = some (.iface 322 (.pointer (some a))) ∧ ∃ s,W.cell? a = some (.string s) ∧ s.data.toList = text ∧ ∃ c t,W.heap[a.block]? = some (.cells c t (0,0))) ∧ laidMet Tryz.prog r W:=by
 refine ⟨?_,h.tail⟩
 obtain ⟨ps,⟨g0,t0,cs0,f0,p0,q0,hg0,ht0,hv0,hd0,_,e0⟩,_,hrows⟩:=h
 obtain rfl:=Option.some.inj (hg.symm.trans hg0)
 obtain rfl:=Option.some.inj (ht.symm.trans ht0)
 subst e0
 obtain ⟨l0⟩:=cs0
 have ok0 : ∀ u v,l0 = [.iface u v] → Value.okWide Tryz.prog W .any 0 u v:=fun u v e => by
  subst e
  exact (hrows g 0 (by simp [MemPlace.row])).2 u v (by simpa using World.var?_cell hg hv0 0)
 obtain ⟨a0,s0,rfl,hc0,hs0,hz0,rfl⟩:=errorString_of_trod Tryz.underlying27 rowES pES Tryz.underlying340 rfl rfl Tryz.underlying9 cES cStr hd0 ok0
 exact ⟨a0,by simpa using World.var?_cell hg hv0 0,s0,hc0,hs0,(hrows a0.block a0.off (by simp [MemPlace.row])).1⟩
def txt : Nat → List UInt8
 | 1 => [98,97,100,32,114,117,108,101]
 | 2 => [98,97,100,32,119,111,114,100]
 | 3 => [98,97,100,32,97,114,103,117,109,101,110,116]
 | 4 => [116,111,111,32,98,105,103]
 | 5 => [110,111,32,98,117,100,103,101,116]
 | 6 => [98,97,100,32,116,101,120,116]
 | 7 => [98,97,100,32,112,97,116,99,104]
 | 8 => [98,97,100,32,99,101,114,116,105,102,105,99,97,116,101]
 | 9 => [110,111,32,105,110,118,101,114,115,101]
 | 10 => [98,97,100,32,108,105,110,101]
 | 11 => [98,97,100,32,115,116,97,116,101]
 | 99 => [117,110,107,110,111,119,110]
 | _ => []
theorem txt_apart : ∀ m n : Fin 12,1 ≤ m.val → 1 ≤ n.val → txt m.val = txt n.val → m = n:=by decide
theorem glob_of_laidR {W : World} {l : List (String × DataW Unit)} (h : laidMet Tryz.prog (laid12 ++ l) W) : ∃ r,Glob r W:=by
 obtain ⟨⟨a1,c1,s1,e1,t1,f1⟩,h⟩:=sentinel (text:=txt 1) h (g:=3) (by kernel_rfl) (by kernel_rfl)
 obtain ⟨⟨a2,c2,s2,e2,t2,f2⟩,h⟩:=sentinel (text:=txt 2) h (g:=4) (by kernel_rfl) (by kernel_rfl)
 obtain ⟨⟨a3,c3,s3,e3,t3,f3⟩,h⟩:=sentinel (text:=txt 3) h (g:=5) (by kernel_rfl) (by kernel_rfl)
 obtain ⟨⟨a4,c4,s4,e4,t4,f4⟩,h⟩:=sentinel (text:=txt 4) h (g:=0) (by kernel_rfl) (by kernel_rfl)
 obtain ⟨⟨a5,c5,s5,e5,t5,f5⟩,h⟩:=sentinel (text:=txt 5) h (g:=6) (by kernel_rfl) (by kernel_rfl)
 obtain ⟨⟨a6,c6,s6,e6,t6,f6⟩,h⟩:=sentinel (text:=txt 6) h (g:=7) (by kernel_rfl) (by kernel_rfl)
 obtain ⟨⟨a7,c7,s7,e7,t7,f7⟩,h⟩:=sentinel (text:=txt 7) h (g:=8) (by kernel_rfl) (by kernel_rfl)
 obtain ⟨⟨a8,c8,s8,e8,t8,f8⟩,h⟩:=sentinel (text:=txt 8) h (g:=9) (by kernel_rfl) (by kernel_rfl)
 obtain ⟨⟨a9,c9,s9,e9,t9,f9⟩,h⟩:=sentinel (text:=txt 9) h (g:=1) (by kernel_rfl) (by kernel_rfl)
 obtain ⟨⟨a10,c10,s10,e10,t10,f10⟩,h⟩:=sentinel (text:=txt 10) h (g:=10) (by kernel_rfl) (by kernel_rfl)
 obtain ⟨⟨a11,c11,s11,e11,t11,f11⟩,h⟩:=sentinel (text:=txt 11) h (g:=11) (by kernel_rfl) (by kernel_rfl)
 obtain ⟨⟨a99,c99,s99,e99,t99,f99⟩,h⟩:=sentinel (text:=txt 99) h (g:=12) (by kernel_rfl) (by kernel_rfl)
 clear h
 have key : ∀ n : Nat,(1 ≤ n ∧ n ≤ 11) ∨ n = 99 → ∃ s,W.cell? ((fun n : Nat => match n with | 1 => a1 | 2 => a2 | 3 => a3 | 4 => a4 | 5 => a5 | 6 => a6 | 7 => a7 | 8 => a8 | 9 => a9 | 10 => a10 | 11 => a11 | _ => a99) n) = some (.string s) ∧ s.data.toList = txt n ∧ ∃ c t,W.heap[((fun n : Nat => match n with | 1 => a1 | 2 => a2 | 3 => a3 | 4 => a4 | 5 => a5 | 6 => a6 | 7 => a7 | 8 => a8 | 9 => a9 | 10 => a10 | 11 => a11 | _ => a99) n).block]? = some (.cells c t (0,0)):=by
  intro n hn
  have : n = 1 ∨ n = 2 ∨ n = 3 ∨ n = 4 ∨ n = 5 ∨ n = 6 ∨ n = 7 ∨ n = 8 ∨ n = 9 ∨ n = 10 ∨ n = 11 ∨ n = 99:=by omega
  rcases this with rfl | rfl | rfl | rfl | rfl | rfl | rfl | rfl | rfl | rfl | rfl | rfl
  ·exact ⟨s1,e1,t1,f1⟩
  ·exact ⟨s2,e2,t2,f2⟩
  ·exact ⟨s3,e3,t3,f3⟩
  ·exact ⟨s4,e4,t4,f4⟩
  ·exact ⟨s5,e5,t5,f5⟩
  ·exact ⟨s6,e6,t6,f6⟩
  ·exact ⟨s7,e7,t7,f7⟩
  ·exact ⟨s8,e8,t8,f8⟩
  ·exact ⟨s9,e9,t9,f9⟩
  ·exact ⟨s10,e10,t10,f10⟩
  ·exact ⟨s11,e11,t11,f11⟩
  ·exact ⟨s99,e99,t99,f99⟩
 refine ⟨(fun n : Nat => match n with | 1 => a1 | 2 => a2 | 3 => a3 | 4 => a4 | 5 => a5 | 6 => a6 | 7 => a7 | 8 => a8 | 9 => a9 | 10 => a10 | 11 => a11 | _ => a99),c1,c2,c3,c4,c5,c6,c7,c8,c9,c10,c11,c99,(fun n hn => ?_),fun m n hm1 hm2 hn1 hn2 he => ?_,fun n hn => ?_⟩
 ·obtain ⟨s,hs,_⟩:=key n hn
  exact ⟨s,hs⟩
 ·obtain ⟨s,hs,ts,_⟩:=key m.toNat (by omega)
  obtain ⟨s',hs',ts',_⟩:=key n.toNat (by omega)
  have hss : s = s':=by
   have:=hs.symm.trans ((congrArg W.cell? he).trans hs')
   simpa using this
  subst hss
  have:=txt_apart ⟨m.toNat,by omega⟩ ⟨n.toNat,by omega⟩ (by simp; omega) (by simp; omega) (ts.symm.trans ts')
  have:=congrArg Fin.val this
  simp at this
  omega
 ·obtain ⟨_,_,_,hf⟩:=key n hn
  exact hf
theorem glob_of_laid {W : World} (h : laidMet Tryz.prog laid12 W) : ∃ r,Glob r W:=glob_of_laidR (l:=[]) h
end Go.Proofs.YtncpnaoabkjegaaGreatDoor
namespace Go.Proofs.YtncpnaoabkjegaaGreatDoor
open Go.RowKit
set_option maxRecDepth 100000
def laid13 : List (String × DataW Unit) := ("errors.errorType", Rows.laid_errors_errorType) :: laid12
theorem rtypeNo : (Tryz.prog.cutTypes.find? (·.1 == "internal/reflectlite.rtype")).map (·.2) = some 239 := by kernel_rfl
theorem errorTypeNo : Tryz.prog.globalNamed "errors.errorType" = some 2 := by kernel_rfl
theorem typesNo : Tryz.prog.types.size = 452 - 100:=by kernel_rfl
theorem oneError : ((List.range (452 - 100)).filter fun t => Tryz.prog.rowNamed t [101,114,114,111,114]) = [27]:=by kernel_rfl
theorem handleErr : typeHandle Tryz.prog 27 = .pointer (some ⟨17,27,none⟩):=by kernel_rfl
theorem glob_of_laidH {W : World} (h : laidMetH Tryz.prog laid13 W) : ∃ r,Glob r W ∧ GlobE W:=by
 have h' : laidMet Tryz.prog laid12 W ∧ handlesMet Tryz.prog [("errors.errorType", Rows.laid_errors_errorType)] W := h
 obtain ⟨r,hg⟩:=glob_of_laid h'.1
 refine ⟨r,hg,?_⟩
 obtain ⟨name,u,ty,e1,e2,e3,e4,e5⟩:=h'.2 _ (List.mem_cons_self ..)
 have en : name = [101,114,114,111,114]:=(Option.some.inj e1).symm
 subst en
 obtain rfl:=Option.some.inj (rtypeNo.symm.trans e2)
 have hm : ty ∈ (List.range (452 - 100)).filter fun t => Tryz.prog.rowNamed t [101,114,114,111,114]:=List.mem_filter.2 ⟨List.mem_range.2 (by rw [← typesNo]; exact e3),e4⟩
 rw [oneError] at hm
 obtain rfl:=List.mem_singleton.1 hm
 rw [handleErr] at e5
 simpa [GlobE] using World.var?_cell errorTypeNo e5 0
end Go.Proofs.YtncpnaoabkjegaaGreatDoor
namespace Go.Proofs.YtncpnaoabkjegaaGreatDoor
open Go.ChangeShapes Go.WideShapes Go.ChangeAt Go.RowKit Go.Joins
namespace AddOntosP
set_option maxRecDepth 100000 in
theorem door_met (os : Os) (args : Array Value) : laidMetH Tryz.prog Rows.addOntosRow.laid ((World.doorLaid Tryz.prog 400 os).forCall (fun _ _ => 0) ⟨#[],args,[]⟩).memory :=
 laidMetH_of_parts3 (fuel:=8) (laidMet_of_run' 8 (by kernel_rfl) (by kernel_rfl)) (by kernel_rfl) (by kernel_rfl)
set_option maxRecDepth 100000 in
theorem lifted (os : Os) (started : os.Started) (H : Type) (enc : TypeId × Value → H) :
 ReturnsInHanded {} Tryz.checked os 4 .any (fun w args => (Rows.addOntosSpec.pre enc Tryz.prog Tryz.f4 [] false w args ∧ laidMetH Tryz.prog Rows.addOntosRow.laid w) ∧ sizedMet enc Tryz.prog Tryz.f4 (OpenSpec.ofChange Rows.addOntosSpec) false w args)
  (Rows.addOntosSpec.post enc Tryz.prog Tryz.f4 false true false false):=by
 refine returnsInHanded_of_change_and (C:=Tryz.checked) (X:=fun w _ => laidMetH Tryz.prog Rows.addOntosRow.laid w) (fun _ _ _ hh h => h.of_heap hh) own started (by kernel_rfl) Tryz.func4
  (ChangeSpec.witness_shaped (enc:=enc) (C:=Tryz.checked) (os:=os) (X:=fun w _ => laidMetH Tryz.prog Rows.addOntosRow.laid w) false (World.doorLaid Tryz.prog 400 os) #[.int .i64 0,.int .i64 0,.slice none 0 0] 8 rfl (World.shaped_of_RefB (by kernel_rfl) (by kernel_rfl)) (by kernel_rfl) (by kernel_rfl) (by kernel_rfl) (door_met os _)) ?_
 intro W base args ds gs before hval0 hW _ hsz hL _
 have hval : ∀ (j : Nat) t v,Tryz.f4.params[j]? = some t → args[j]? = some v → Value.okWide Tryz.prog W .any base t v:=hval0
 have hW':=hW
 obtain ⟨p,q,hA0,hV,rfl,hfz,hnd⟩:=hW
 have hA : DataW.TrodAll enc Tryz.prog W 0 (fun _ => true) true Tryz.f4.params.toList args.toList ds p:=hA0
 rw [Tryz.params4] at hA hval hsz
 obtain ⟨v0,vs0,d0,ds0,p0,q0,hargs,rfl,rfl,g0,t0⟩:=trodAll_cons hA
 obtain ⟨v1,vs1,d1,ds1,p1,q1,rfl,rfl,rfl,g1,t1⟩:=trodAll_cons t0
 obtain ⟨v2,vs2,d2,ds2,p2,q2,rfl,rfl,rfl,g2,t2⟩:=trodAll_cons t1
 obtain ⟨rfl,rfl,rfl⟩:=trodAll_nil t2
 obtain rfl : args = #[v0,v1,v2]:=by cases args; simp_all
 obtain ⟨rfl,rfl⟩:=trodVars_none hV
 obtain ⟨k0,rfl,rfl,rfl,w0⟩:=open_int uInt (hval 0 3 v0 rfl rfl) g0
 have b0:=i64_of_wf w0
 obtain ⟨k1,rfl,rfl,rfl,w1⟩:=open_int uInt (hval 1 3 v1 rfl rfl) g1
 have b1:=i64_of_wf w1
 have kk2:=g2
 have lt2 : ∀ x ∈ p2,x.block < W.heap.size:=by obtain ⟨m,hm⟩:=kk2; exact DataW.trod_lt m _ _ _ hm
 obtain ⟨x2,h2,l2,b2⟩:=open_intsT (hval 2 22 v2 rfl rfl) g2 (fun n hn => by
  have:=List.all_eq_true.1 hsz n (DataW.weights_mem_each (j:=2) (t:=22) rfl rfl n hn)
  simpa using this)
 obtain ⟨r,hg,hG⟩:=glob_of_laidH (W:=W) (by
  exact hL)
 clear hA0 hval0
 refine (addOntos_any r _ _ _ _ _ hg hG h2).mono fun e W' ⟨x,he,bel,hxx⟩ => ?_
 subst he; subst hxx
 exact ⟨_,rfl,_,_,_,[],_,[],hW',trodAll_mk1 (shut_bool Tryz.underlying4 _),(trodAll_cons_mk (shut_int uInt w0) (trodAll_cons_mk (shut_int uInt w1) (trodAll_cons_mk (Below.trod laidOut (by kernel_rfl) (of_decide_eq_true (by kernel_rfl)) kk2 bel lt2) trodAll_mk0))),rfl,bel.frame _,fun h => by cases h⟩
theorem and_t {a b : Bool} (h : a = true) (k : b = true) : (a && b) = true:=by rw [h,k]; rfl
theorem jf_wf : Rows.addOntosRow.wf (OpenSpec.ofChange Rows.addOntosSpec) = true:=by kernel_rfl
theorem jf_lo : laidOutB Tryz.prog = true:=by kernel_rfl
theorem jf_mr : mapsRowed Tryz.prog = true:=by kernel_rfl
theorem jf_nt : namedTie Tryz.prog Rows.addOntosRow.named Rows.addOntosSpec.vars = true:=by kernel_rfl
theorem jf_ip : (Rows.addOntosRow.inPlace == Tryz.prog.inPlace 4) = true:=by kernel_rfl
theorem jf_uf : (Rows.addOntosRow.unfollowed == Tryz.prog.unfollowed 4) = true:=by kernel_rfl
theorem jf_rc : (Rows.addOntosRow.recurses == Tryz.prog.recurses 4) = true:=by kernel_rfl
theorem jf_nm : (Rows.addOntosRow.named == Tryz.prog.varsNamed 4) = true:=by kernel_rfl
theorem jf_pk : (Rows.addOntosRow.plainKeys == Tryz.prog.plainKeys) = true:=by kernel_rfl
theorem jf_sh : Tryz.prog.stopsHeard = true:=by kernel_rfl
theorem jf_me : Tryz.prog.mayEnter = true:=by kernel_rfl
theorem jf_lf : (Rows.addOntosRow.lifted == Tryz.prog.liftsFinal) = true:=by kernel_rfl
theorem jf_mk : (Tryz.prog.make == some Rows.addOntosRow.make) = true:=by kernel_rfl
theorem joined : joinedFacts Tryz.prog 4 Tryz.f4 Rows.addOntosSpec Rows.addOntosRow = true:=and_t (and_t (and_t (and_t (and_t (and_t (and_t (and_t (and_t (and_t (and_t (and_t (and_t (and_t (and_t (and_t (and_t (and_t (and_t (and_t (and_t (and_t (and_t (and_t (and_t (and_t (and_t (and_t (and_t (and_t (and_t jf_wf jf_lo) jf_mr) (by kernel_rfl)) jf_nt) (by kernel_rfl)) (by kernel_rfl)) (by kernel_rfl)) (by kernel_rfl)) jf_ip) jf_uf) jf_rc) jf_nm) (by kernel_rfl)) (by kernel_rfl)) (by kernel_rfl)) (by kernel_rfl)) (by kernel_rfl)) (by kernel_rfl)) (by kernel_rfl)) (by kernel_rfl)) (by kernel_rfl)) jf_pk) (by kernel_rfl)) jf_sh) jf_me) jf_lf) jf_mk) (by kernel_rfl)) (by kernel_rfl)) (by kernel_rfl)) (by kernel_rfl)
theorem fnamed : Tryz.prog.funcNamed Rows.addOntosRow.func = some 4:=by kernel_rfl
theorem inst : Tryz.f4.isInstance Tryz.prog Rows.addOntosRow.origin Rows.addOntosRow.targs:=of_decide_eq_true (by kernel_rfl)
theorem wrapd : Tryz.f4.isWrapper Tryz.prog Rows.addOntosRow.wrapper Rows.addOntosRow.mainSum:=by unfold Func.isWrapper; first | (rw [if_pos (by decide +kernel)]; kernel_rfl) | (rw [if_neg (by decide +kernel)]; exact ⟨rfl,rfl⟩)
theorem over : Rows.AddOntosSaid :=
 OpenClaim.holds_of_wide 4 Tryz.f4 rfl rfl rfl rfl rfl rfl rfl ⟨rfl,rfl,rfl,rfl,rfl⟩ rfl rfl rfl rfl rfl fnamed Tryz.func4 joined
  inst wrapd
  (fun os started H enc _ => lifted os started H enc)
theorem cw : Rows.addOntosRow.wfByText (OpenSpec.ofChange Rows.addOntosSpec) = true:=by kernel_rfl
theorem cm : Tryz.prog.mainIs = some (Rows.addOntosCard.stood.harness.1,Rows.addOntosCard.stood.harness.2.toList):=by kernel_rfl
theorem cl : Rows.addOntosCard.stood.looks = Tryz.prog.looks []:=by kernel_rfl
theorem cg : false = Rows.addOntosRow.goesBy Tryz.prog:=by kernel_rfl
theorem cs : ([3,3,22].all fun u => !Tryz.prog.wantsStandIn u) = true:=by kernel_rfl
/-- The tied card. -/
theorem card_holds : Rows.AddOntosCardSaid :=
 Claim7.holds_tied_plain_at .later [] [.handle,.sentinel,.sentinel,.sentinel,.sentinel,.sentinel,.sentinel,.sentinel,.sentinel,.sentinel,.sentinel,.sentinel,.sentinel] true _ _
  over (fun _ h => by cases h) cw (fun _ h => by cases h) addOntos_row_tie rfl ⟨rfl,rfl⟩ cm rfl
  (fun f fn hf hfn => by
    obtain rfl : f = 4:=Option.some.inj (fnamed.symm.trans hf) |>.symm
    obtain rfl : fn = Tryz.f4:=(Option.some.inj (Tryz.func4.symm.trans hfn)).symm
    exact ⟨cl,fun j t ht => by
     rw [Tryz.params4] at ht
     have hm : t ∈ [3,3,22]:=by simpa using Array.mem_of_getElem? ht
     exact (show Tryz.prog.wantsStandIn t = false by simpa using List.all_eq_true.1 cs t hm)⟩)
  cg
end AddOntosP
#print axioms AddOntosP.card_holds
end Go.Proofs.YtncpnaoabkjegaaGreatDoor
