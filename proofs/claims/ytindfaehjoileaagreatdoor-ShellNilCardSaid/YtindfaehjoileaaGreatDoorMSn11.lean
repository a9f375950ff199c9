/-
  Texts that the proof leans on.
-/
import Derived.Test.YtindfaehjoileaaGreatDoorMSn10
import Derived.Shelf.Strings.Trim
import Derived.RangeFuncBox
import Derived.RangeFuncLeaves
import Derived.Shelf.Abstract
import Derived.OwnWalkIn
import Derived.TacticsInMore
import Derived.LoopNIn
import Derived.LoopIn
import Derived.OrdersIn
import Derived.TacticsIn
import Derived.RangeFuncCalls
import Derived.Lib.OthersKept
import Derived.Deep.Cut
namespace Go.Proofs.YtindfaehjoileaaGreatDoor
open Go.RowKit
set_option maxRecDepth 100000
set_option maxHeartbeats 8000000
abbrev zRow:Value:=.agg #[.int .i64 0,.slice none 0 0,.slice none 0 0,.slice none 0 0]
section
variable {K N:Nat} {T:List Int}
theorem goes_pairG {x y:Nat} (hN:0<N) (h:Goes (adjOf (pairG K N T)) x y) (hx:x<N*N):Goes (pairL K N T) x y∧y<N*N:=by
 induction h with
 | refl=>exact ⟨.refl _,hx⟩
 | step h hz ih =>
  rw [pairG_adj ih.2] at hz
  exact ⟨.step ih.1 hz,((mem_pairL hN).1 hz).lt hN⟩
theorem live_pairG (hN:0<N) {v:Nat} (hv:v<N*N):IsLive (N*N) (adjOf (pairG K N T)) v↔LiveP (N*N) (pairL K N T) v:=by
 constructor
 ·rintro ⟨⟨u,hu,⟨t,ht,h1⟩,h2⟩,⟨u',hu',⟨t',ht',h1'⟩,h2'⟩⟩
  rw [pairG_adj hu] at ht
  rw [pairG_adj hu'] at ht'
  exact ⟨⟨u,hu,⟨t,ht,(goes_pairG hN h1 (((mem_pairL hN).1 ht).lt hN)).1⟩,(goes_pairG hN h2 hu).1⟩,⟨u',hu',⟨t',ht',(goes_pairG hN h1' (((mem_pairL hN).1 ht').lt hN)).1⟩,(goes_pairG hN h2' hv).1⟩⟩
 ·rintro ⟨⟨u,hu,⟨t,ht,h1⟩,h2⟩,⟨u',hu',⟨t',ht',h1'⟩,h2'⟩⟩
  exact ⟨⟨u,hu,⟨t,by rw [pairG_adj hu]; exact ht,(pairG_goes hN h1 (((mem_pairL hN).1 ht).lt hN)).1⟩,(pairG_goes hN h2 hu).1⟩,⟨u',hu',⟨t',by rw [pairG_adj hu']; exact ht',(pairG_goes hN h1' (((mem_pairL hN).1 ht').lt hN)).1⟩,(pairG_goes hN h2' hv).1⟩⟩
end
theorem wk_notOne {K R:Nat} {T:List Int} (hK:1≤K):NotOne K (wkR R) (wkT K R T)↔NotOne K R T:=by
 unfold wkR wkT
 by_cases e:R=0
 ·subst e; rw [if_pos rfl,if_pos rfl]; exact notOne_wide (R:=0) (d:=1) hK
 ·rw [if_neg e,if_neg e]
def oddL (K R:Nat) (L:List Nat):List Nat:=L.filter fun p=>!decide (Diag (pw K (2*wkR R)) p)
theorem odd_none {K R:Nat} {T:List Int} {L:List Nat} (hr:RuleOk K R T) (h:LiveList (pw K (2*wkR R)*pw K (2*wkR R)) (adjOf (pairG K (pw K (2*wkR R)) (wkT K R T))) L):oddL K R L=[]↔¬ NotOne K R T:=by
 have hN:=pw_pos (K:=K) (2*wkR R) hr.k1
 rw [← wk_notOne hr.k1]
 constructor
 ·intro he hno
  obtain ⟨q,h1,h2,h3⟩:=live_of_notOne (wk_ok hr) (wk_pos R) hno
  have:q∈oddL K R L:=List.mem_filter.2 ⟨(h.mem q).2 ⟨h1,(live_pairG (by omega) h1).2 h2⟩,by simp [h3]⟩
  rw [he] at this; cases this
 ·intro hno
  apply Classical.byContradiction
  intro he
  obtain ⟨q,hq⟩:=List.exists_mem_of_ne_nil _ he
  obtain ⟨h1,h2⟩:=List.mem_filter.1 hq
  obtain ⟨h3,h4⟩:=(h.mem q).1 h1
  exact hno (notOne_of_live (wk_ok hr) (wk_pos R) ((live_pairG (by omega) h3).1 h4) (by simpa using h2))
def OneIs (K R:Nat) (T:List Int) (L C Q:List Nat):Prop :=
 ∃ l v m,LiveList (pw K (2*wkR R)*pw K (2*wkR R)) (adjOf (pairG K (pw K (2*wkR R)) (wkT K R T))) l∧oddL K R l=v::m∧WitIs (pairG K (pw K (2*wkR R)) (wkT K R T)) v L C Q
theorem OneIs.unique {K R:Nat} {T:List Int} {L C Q L' C' Q':List Nat} (h:OneIs K R T L C Q) (k:OneIs K R T L' C' Q'):L=L'∧C=C'∧Q=Q':=by
 obtain ⟨l,v,m,h1,h2,h3⟩:=h
 obtain ⟨l',v',m',k1,k2,k3⟩:=k
 obtain rfl:=h1.unique k1
 rw [h2] at k2
 injection k2 with e _
 subst e
 exact h3.unique k3
def OnePost (w:World) (K R:Nat) (T:List Int) (yes x y e:Value) (w':World):Prop :=
 e=.nilIface∧((yes=.bool true∧x=zRow∧y=zRow∧¬ NotOne K R T)∨(yes=.bool false∧NotOne K R T∧∃ L C Q aL aC aQ bL bC bQ,OneIs K R T L C Q∧x=.agg #[.int .i64 0,aL,aC,aQ]∧y=.agg #[.int .i64 0,bL,bC,bQ]∧∃ f,Rows w.heap.size w' f ∧
  f (1,0)=some (rowI aL (sideA K (pw K (2*wkR R)) L))∧f (1,1)=some (rowI bL (sideB K (pw K (2*wkR R)) L))∧f (2,0)=some (rowI aC (sideA K (pw K (2*wkR R)) C))∧f (2,1)=some (rowI bC (sideB K (pw K (2*wkR R)) C))∧f (3,0)=some (rowI aQ (sideA K (pw K (2*wkR R)) Q))∧f (3,1)=some (rowI bQ (sideB K (pw K (2*wkR R)) Q))))
structure OW (w w2 W:World) (ra:Addr) (K v:Nat) (f:Names):Prop where
 bW:Below w.heap.size w W
 b2:Below w2.heap.size w2 W
 lo:w.heap.size<w2.heap.size∧ra.block<w2.heap.size
 c:W.cell? ⟨w.heap.size,0,none⟩=some (.int .i64 K)∧W.cell? ra=some (.int .i64 v)
 R:Rows w.heap.size W f
 n2:f (0,2)=some (box4 144 (w.heap.size+1) [.int .i64 0,.slice none 0 0,.slice none 0 0,.slice none 0 0])
 n3:f (0,3)=some (box4 144 (w.heap.size+2) [.int .i64 0,.slice none 0 0,.slice none 0 0,.slice none 0 0])
structure OX (K R:Nat) (L C Q:List Nat) (aL aC aQ bL bC bQ:Value) (f:Names):Prop where
 a0:f (1,0)=some (rowI aL (sideA K (pw K (2*wkR R)) L))
 b0:f (1,1)=some (rowI bL (sideB K (pw K (2*wkR R)) L))
 a1:f (2,0)=some (rowI aC (sideA K (pw K (2*wkR R)) C))
 b1:f (2,1)=some (rowI bC (sideB K (pw K (2*wkR R)) C))
 a2:f (3,0)=some (rowI aQ (sideA K (pw K (2*wkR R)) Q))
 b2:f (3,1)=some (rowI bQ (sideB K (pw K (2*wkR R)) Q))
section
variable {w w2 W W':World} {ra:Addr} {K v R:Nat} {f f':Names} {L C Q:List Nat} {aL aC aQ bL bC bQ:Value}
theorem OX.congr (h:OX K R L C Q aL aC aQ bL bC bQ f) (e:∀ j:Nat×Nat,j.1=1∨j.1=2∨j.1=3→f' j=f j):OX K R L C Q aL aC aQ bL bC bQ f' :=
 ⟨(e _ (by decide)).trans h.a0,(e _ (by decide)).trans h.b0,(e _ (by decide)).trans h.a1,(e _ (by decide)).trans h.b1,(e _ (by decide)).trans h.a2,(e _ (by decide)).trans h.b2⟩
theorem OX.box (h:OX K R L C Q aL aC aQ bL bC bQ f) {k:Nat} (e:∀ j:Nat×Nat,j≠(9,k)→f' j=f j):OX K R L C Q aL aC aQ bL bC bQ f' :=
 h.congr fun j hj=>e j (by intro q; rw [q] at hj; simp at hj)
theorem OW.step (h:OW w w2 W ra K v f) (b2:Below w2.heap.size w2 W') (bW:Below w.heap.size w W') (R:Rows w.heap.size W' f') (e:∀ j:Nat×Nat,j.1=0→f' j=f j):OW w w2 W' ra K v f' :=
 ⟨bW,b2,h.lo,⟨by rw [b2.cell h.lo.1,← h.b2.cell h.lo.1]; exact h.c.1,by rw [b2.cell h.lo.2,← h.b2.cell h.lo.2]; exact h.c.2⟩,R,(e _ rfl).trans h.n2,(e _ rfl).trans h.n3⟩
theorem OW.alloc (h:OW w w2 W ra K v f) (k:Nat):∃ g W',W.heap.size=g∧W.alloc (.cells #[.int .i64 0,.slice none 0 0,.slice none 0 0,.slice none 0 0] 144)=W'∧w2.heap.size≤g ∧
 ∃ f',OW w w2 W' ra K v f'∧f' (9,k)=some (box4 144 g [.int .i64 0,.slice none 0 0,.slice none 0 0,.slice none 0 0])∧∀ j,j≠(9,k)→f' j=f j:=by
 obtain ⟨f',R',n,oo⟩:=h.R.box4 (9,k) h.bW.size 144 (.int .i64 0) (.slice none 0 0) (.slice none 0 0) (.slice none 0 0)
 have bb:=belowAlloc W (.cells #[.int .i64 0,.slice none 0 0,.slice none 0 0,.slice none 0 0] 144)
 exact ⟨_,_,rfl,rfl,h.b2.size,f',h.step (Below.step h.b2 bb) (h.bW.trans (bb.mono h.bW.size)) R' fun j hj=>oo j (by intro q; rw [q] at hj; cases hj),n,oo⟩
theorem OW.call (h:OW w w2 W ra K v f) (bb:Below W.heap.size W W') {fw:Names} (Rw:Rows W.heap.size W' fw):∃ f',OW w w2 W' ra K v f'∧(∀ j:Nat×Nat,j.1=1∨j.1=2∨j.1=3→f' j=fw j)∧∀ k:Nat,f' (9,k)=f (9,k):=by
 obtain ⟨f',R',sel,oth⟩:=h.R.merge (fun i=>decide (i.1=1∨i.1=2∨i.1=3)) bb Rw h.bW.size
 exact ⟨f',h.step (Below.step h.b2 bb) (h.bW.trans (bb.mono h.bW.size)) R' fun j hj=>oth j (by simp [hj]),fun j hj=>sel j (by simpa using hj),fun k=>oth _ (by simp)⟩
def set4 (W:World) (g:Nat) (a b c d:Value):World:=(((W.setCell ⟨g,0,none⟩ a).setCell ⟨g,1,none⟩ b).setCell ⟨g,2,none⟩ c).setCell ⟨g,3,none⟩ d
theorem OW.st4 (h:OW w w2 W ra K v f) {g k:Nat} {x0 x1 x2 x3:Value} (n:f (9,k)=some (box4 144 g [x0,x1,x2,x3])) (hg:w2.heap.size≤g) (a b c d:Value) :
 ((W.cell? ⟨g,0,none⟩=some x0∧W.cell? ⟨g,1,none⟩=some x1∧W.cell? ⟨g,2,none⟩=some x2∧W.cell? ⟨g,3,none⟩=some x3)∧W.frozen? ⟨g,0,none⟩=false∧W.frozen? ⟨g,1,none⟩=false∧W.frozen? ⟨g,2,none⟩=false∧W.frozen? ⟨g,3,none⟩=false) ∧
 ∃ W',set4 W g a b c d=W'∧∃ f',OW w w2 W' ra K v f'∧f' (9,k)=some (box4 144 g [a,b,c,d])∧∀ j,j≠(9,k)→f' j=f j:=by
 obtain ⟨f',R',m,oo⟩:=h.R.all4 n a b c d
 obtain ⟨c0,c1,c2,c3⟩:=h.R.cells4 n
 exact ⟨⟨⟨c0,c1,c2,c3⟩,h.R.frz4 n 0,h.R.frz4 n 1,h.R.frz4 n 2,h.R.frz4 n 3⟩,_,rfl,f',h.step (Below.all4 (g:=g) h.b2 hg a b c d) (Below.all4 (g:=g) h.bW (h.R.low4 n).1 a b c d) R' fun j hj=>oo j (by intro q; rw [q] at hj; cases hj),m,oo⟩
end
theorem one_ok (r:Nat→Addr) (K R:Nat) (va:Option Addr) (vn vc:Nat) (T:List Int) (w:World) (hg:Glob r w) (h:IntsAt w (.slice va vn vc) T) (hr:RuleOk K R T) (hl:T.length≤256) :
 Calls Tryz.prog 69 #[.agg #[.int .i64 K,.int .i64 R,.slice va vn vc]] w (Ret4 (OnePost w K R T) w):=by
 have bb:=belowAlloc w (.cells #[.int .i64 K,.int .i64 R,.slice va vn vc] 124)
 have q:Box3 (w.alloc (.cells #[.int .i64 K,.int .i64 R,.slice va vn vc] 124)) w.heap.size (.int .i64 K) (.int .i64 R) (.slice va vn vc):=by simp [Box3,go_sem]
 obtain ⟨f0,R0,n02,o02⟩:=((Rows.void w.heap.size w).below bb).box4 (0,2) (by simp) 144 (.int .i64 0) (.slice none 0 0) (.slice none 0 0) (.slice none 0 0)
 obtain ⟨f1,R1,n03,o03⟩:=R0.box4 (0,3) (by simp; omega) 144 (.int .i64 0) (.slice none 0 0) (.slice none 0 0) (.slice none 0 0)
 replace n02:=(o03 (0,2) (by decide)).trans n02
 simp only [World.size_alloc] at n02 n03
 have b0:Below w.heap.size w (((w.alloc (.cells #[.int .i64 K,.int .i64 R,.slice va vn vc] 124)).alloc (.cells #[.int .i64 0,.slice none 0 0,.slice none 0 0,.slice none 0 0] 144)).alloc (.cells #[.int .i64 0,.slice none 0 0,.slice none 0 0,.slice none 0 0] 144)):=Below.step bb (Below.step (belowAlloc _ _) (belowAlloc _ _))
 replace q:=q.below (Below.step (belowAlloc _ (.cells #[.int .i64 0,.slice none 0 0,.slice none 0 0,.slice none 0 0] 144)) (belowAlloc _ (.cells #[.int .i64 0,.slice none 0 0,.slice none 0 0,.slice none 0 0] 144)))
 clear o02 o03 R0 bb
 have hk1:=hr.k1
 have hokW:=wk_ok hr
 have hlW:=wk_small hr hl
 have hRW:=wk_pos R
 have hN81:=nodes_le hokW hRW hlW
 have hN1:=pw_pos (K:=K) (2*wkR R) hk1
 obtain ⟨hdiv,hlen⟩:=hokW.half
 have hNK:pw K (2*wkR R)*K≤256:=by rw [← hlen]; exact hlW
 have hck:=pairG_check (K:=K) (N:=pw K (2*wkR R)) (T:=wkT K R T) (by omega) hN81 hNK
 have hokG:GraphOk (pairG K (pw K (2*wkR R)) (wkT K R T)):=pairG_ok (by omega)
 have hsz:∀ k,k<(pairG K (pw K (2*wkR R)) (wkT K R T)).length→((pairG K (pw K (2*wkR R)) (wkT K R T)).getD k []).length≤17592186044416:=fun k hk=>by
  rw [pairG_len] at hk
  rw [pairG_row hk,castI_len]
  have:=pairL_len K (pw K (2*wkR R)) (wkT K R T) k
  have h4:=hr.k4
  have:=Nat.mul_le_mul h4 h4
  omega
 have hgraph:=fun (w':World) (hgl:Glob r w') (hT:IntsAt w' (.slice va vn vc) T)=>pgraph_ok r K R va vn vc T w' hgl hT hr hl
 have hapart:=fun (w':World) (hgl:Glob r w') (hT:IntsAt w' (.slice va vn vc) T)=>papart_ok r K R va vn vc T w' hgl hT hr hl
 have hlenG:=pairG_len (K:=K) (N:=pw K (2*wkR R)) (T:=wkT K R T)
 have hodd:=fun (L:List Nat) (hL:LiveList (pw K (2*wkR R)*pw K (2*wkR R)) (adjOf (pairG K (pw K (2*wkR R)) (wkT K R T))) L)=>odd_none hr hL
 have hone:∀ (l:List Nat) (v:Nat) (m L C Q:List Nat),LiveList (pw K (2*wkR R)*pw K (2*wkR R)) (adjOf (pairG K (pw K (2*wkR R)) (wkT K R T))) l→oddL K R l=v::m→WitIs (pairG K (pw K (2*wkR R)) (wkT K R T)) v L C Q→OneIs K R T L C Q:=fun l v m L C Q h1 h2 h3=>⟨l,v,m,h1,h2,h3⟩
 have hsub:∀ (L:List Nat) (v:Nat) (m:List Nat),oddL K R L=v::m→v∈L:=fun L v m e=>(List.mem_filter.1 (show v∈oddL K R L by rw [e]; exact List.mem_cons_self)).1
 have hwit:=fun (ga:Option Addr) (gc v:Nat) (w':World) (hgl:Glob r w') (hT:ListsAt w' (.slice ga (pairG K (pw K (2*wkR R)) (wkT K R T)).length gc) (pairG K (pw K (2*wkR R)) (wkT K R T))) (hv:v<(pairG K (pw K (2*wkR R)) (wkT K R T)).length) (hli:IsLive (pairG K (pw K (2*wkR R)) (wkT K R T)).length (adjOf (pairG K (pw K (2*wkR R)) (wkT K R T))) v)=>witness_ok r K (pw K (2*wkR R)) ga gc _ v w' hgl hT hsz hck hokG hlenG hN1 hN81 hk1 hv hli
 replace hgraph:=Hd hgraph
 replace hapart:=Hd hapart
 replace hodd:=Hd hodd
 replace hone:=Hd hone
 replace hsub:=Hd hsub
 replace hwit:=Hd hwit
 replace hlenG:=Hd hlenG
 clear hdiv hlen hNK hck hokG hsz hokW hlW hRW hN81 hl
 replace hg:=Hd (hg.below b0)
 replace h:=Hd (h.below b0)
 replace hr:=Hd hr
 obtain ⟨⟨z0,z1,z2⟩,-,-,-⟩:=q
 have q0:=z0
 replace R1:=Hd R1
 replace n02:=Hd n02
 replace n03:=Hd n03
 replace b0:=Hd b0
 go_enter Tryz.func69,Tryz.ntmps69
 go_wp2_with fail
 refine (hgraph.out _ hg.out h.out).mono ?_
 rintro e w1 ⟨gv,y,rfl,b1,rfl,fg,vals,hrows,hwn⟩
 have hL:ListsAt w1 gv (pairG K (pw K (2*wkR R)) (wkT K R T)):=hwn.lists hrows
 obtain ⟨ga,gc,rfl⟩:=hL.shape
 have c0:w1.cell? ⟨w.heap.size,0,none⟩=some (.int .i64 K):=by rw [b1.cell (World.block_lt_of_cell? _ _ z0)]; exact z0
 have c1:w1.cell? ⟨w.heap.size,1,none⟩=some (.int .i64 R):=by rw [b1.cell (World.block_lt_of_cell? _ _ z1)]; exact z1
 have c2:w1.cell? ⟨w.heap.size,2,none⟩=some (.slice va vn vc):=by rw [b1.cell (World.block_lt_of_cell? _ _ z2)]; exact z2
 have b01:=Below.step b0.out b1
 replace hL:=Hd hL
 clear hrows hwn z0 z1 z2
 rw [hlenG.out]
 generalize hM:pw K (2*wkR R)*pw K (2*wkR R)=M at *
 replace hM:=Hd hM
 go_wp2_with fail
 refine (hapart.out w1 (hg.out.below b1) (h.out.below b1)).mono ?_
 rintro e w2 ⟨av,y,rfl,b2,rfl,L,hLL,how⟩
 have how2:OwnI w1.heap.size w2 av (castI (oddL K R L)):=how
 clear how
 have hnone:=hodd.out L hLL
 have b12:=Below.step b1 b2
 have b02:=Below.step b01 b2
 have R2:=R1.out.below b12
 have k0:w2.cell? ⟨w.heap.size,0,none⟩=some (.int .i64 K):=by rw [b2.cell (World.block_lt_of_cell? _ _ c0)]; exact c0
 have lA:=how2.at.len
 rw [castI_len] at lA
 have hsubL:=hsub.out L
 have honeL:=fun v m L' C' Q' e k=>hone.out L v m L' C' Q' hLL e k
 have hmemL:=hLL.mem
 replace hLL:=Hd hLL
 replace hsubL:=Hd hsubL
 replace honeL:=Hd honeL
 replace hmemL:=Hd hmemL
 clear c0 c1 c2
 cases hod:oddL K R L with
 | nil =>
  rw [hod] at hnone how2 lA
  have hno:=hnone.1 rfl
  obtain ⟨aa,an,ac,rfl⟩:=how2.at.shape
  replace n02:=n02.out
  replace n03:=n03.out
  obtain ⟨g0,g1,g2,g3⟩:=R2.cells4 n02
  obtain ⟨h0,h1,h2,h3⟩:=R2.cells4 n03
  have fg0:=R2.frz4 n02 0
  have fh0:=R2.frz4 n03 0
  have fg1:=R2.frz4 n02 1
  have fh1:=R2.frz4 n03 1
  have fg2:=R2.frz4 n02 2
  have fh2:=R2.frz4 n03 2
  have fg3:=R2.frz4 n02 3
  have fh3:=R2.frz4 n03 3
  have c2:=R2.cells4 n02
  have c3:=R2.cells4 n03
  have lg0:=(R2.low4 n02).1
  have lh0:=(R2.low4 n03).1
  obtain ⟨f3,R3,m02,o3⟩:=R2.all4 n02 (.int .i64 0) (.slice none 0 0) (.slice none 0 0) (.slice none 0 0)
  have b15:=Below.all4 (g:=w.heap.size+1) b02 lg0 (.int .i64 0) (.slice none 0 0) (.slice none 0 0) (.slice none 0 0)
  have b16:=Below.all4 (g:=w.heap.size+2) b15 lh0 (.int .i64 0) (.slice none 0 0) (.slice none 0 0) (.slice none 0 0)
  replace hno:=Hd hno
  replace hod:=Hd hod
  replace how2:=Hd how2
  replace R2:=Hd R2
  replace R3:=Hd R3
  replace n02:=Hd n02
  replace n03:=Hd n03
  replace m02:=Hd m02
  clear o3 c2 c3 hnone
  go_wp2
  (try simp only [Exit.inBlock,Exit.then])
  refine bodyPost_ret (v:=.tuple #[.bool true,zRow,zRow,.nilIface]) (by simp [results,Tryz.results69,go_sem,g0,g1,g2,g3,h0,h1,h2,h3]) rfl ?_
  exact ⟨_,_,_,_,rfl,b16,rfl,.inl ⟨rfl,rfl,rfl,hno.out⟩⟩
 | cons v m =>
  rw [hod] at hnone how2 lA
  have hno:NotOne K R T:=Classical.byContradiction fun q=>by have:=hnone.2 q; cases this
  obtain ⟨aa,an,ac,rfl⟩:=how2.at.shape
  have hvL:=hsubL.out v m hod
  obtain ⟨hvM,hvl⟩:=(hmemL.out v).1 hvL
  have iA:∀ w',(Instr.indexAt 30 (.slice aa an ac) (.int .i64 0)).run Tryz.prog w'=.ok (.pointer (some (valAt (.slice aa an ac) 0))) w':=fun w'=>how2.at.idx 0 (by simp [castI]) w'
  have cA:=how2.at.cellD 0 (by simp [castI])
  rw [show (castI (v::m)).getD 0 0=(v:Int) from rfl] at cA
  have e0:(((v::m).length:Nat):Int)=(m.length:Int)+1:=by simp
  rw [e0] at lA
  have e1:((m.length:Int)+1==0)=false:=by rw [beq_eq_false_iff_ne]; omega
  have hwv:=fun (w':World) (hgl:Glob r w') (hT:ListsAt w' (.slice ga M gc) (pairG K (pw K (2*wkR R)) (wkT K R T)))=>hwit.out ga gc v w' hgl (by rw [hlenG.out]; exact hT) (by rw [hlenG.out]; exact hvM) (by rw [hlenG.out]; exact hvl)
  rw [hlenG.out] at hwv
  have hG2:=hg.out.below b12
  have hL2:ListsAt w2 (.slice ga M gc) (pairG K (pw K (2*wkR R)) (wkT K R T)):=by
   have:=hL.out.below b2
   rwa [hlenG.out] at this
  replace hwv:=Hd hwv
  replace hG2:=Hd hG2
  replace hL2:=Hd hL2
  replace hno:=Hd hno
  replace hvL:=Hd hvL
  replace hvl:=Hd hvl
  replace how2:=Hd how2
  replace R2:=Hd R2
  clear hnone e0
  generalize valAt (.slice aa an ac) 0=ra at *
  replace hod:=Hd hod
  go_upto_region 7 with fail
  go_cut [7,9,10] from 39 (fun s7 s9 s10 wx=>s7=.nilIface∧∃ (g9 g10:Nat) (L C Q:List Nat) (aL aC aQ bL bC bQ:Value) (f:Names),s9=.pointer (some ⟨g9,0,none⟩)∧s10=.pointer (some ⟨g10,0,none⟩)∧Below w.heap.size w wx∧WitIs (pairG K (pw K (2*wkR R)) (wkT K R T)) v L C Q∧Rows w.heap.size wx f∧f (0,2)=some (box4 144 (w.heap.size+1) [.int .i64 0,.slice none 0 0,.slice none 0 0,.slice none 0 0])∧f (0,3)=some (box4 144 (w.heap.size+2) [.int .i64 0,.slice none 0 0,.slice none 0 0,.slice none 0 0])∧f (9,0)=some (box4 144 g9 [.int .i64 0,aL,aC,aQ])∧f (9,1)=some (box4 144 g10 [.int .i64 0,bL,bC,bQ])∧OX K R L C Q aL aC aQ bL bC bQ f)
  case first =>
   obtain ⟨W0,hW0⟩:∃ W0:World,W0=w2.drew:=⟨_,rfl⟩
   have b20:Below w2.heap.size w2 W0:=by rw [hW0]; exact (Below.refl _ _).drew
   have bW0:Below w.heap.size w W0:=by rw [hW0]; exact b02.drew
   have RW0:Rows w.heap.size W0 f1:=by rw [hW0]; exact R2.out.drew
   have hS0:W0.cell? ⟨w.heap.size,0,none⟩=some (.int .i64 K)∧W0.cell? ra=some (.int .i64 v):=by rw [hW0]; exact ⟨k0,cA⟩
   have hlow:w.heap.size<w2.heap.size∧ra.block<w2.heap.size:=⟨World.block_lt_of_cell? _ _ k0,World.block_lt_of_cell? _ _ cA⟩
   replace n02:=n02.out
   replace n03:=n03.out
   refine wp_region_noPanic ?_
   refine wp_region_any (by kernel_rfl) ?_
   change wpAny _ _ _ _ _ _ _ (World.drew _)
   rw [← hW0]
   clear hW0 k0 cA b02 R2
   have H0:OW w w2 W0 ra K v f1:=⟨bW0,b20,hlow,hS0,RW0,n02,n03⟩
   clear bW0 b20 RW0 n02 n03 hlow
   refine wpAny_of_held (S:=fun w'=>w'.cell? ⟨w.heap.size,0,none⟩=some (.int .i64 K)∧w'.cell? ra=some (.int .i64 v)) _ _ _ _ ?_
   refine pqD 0 40 hS0 ?_
   refine pqD 1 41 hS0 ?_
   refine pqD 2 42 hS0 ?_
   refine pqD 3 43 hS0 ?_
   refine pqD 4 44 hS0 ?_
   refine pqD 5 45 hS0 ?_
   refine wpAnyH_ready (rs:=[6,11,12]) (by kernel_rfl) (by simp) (AllReadyH.cons rfl (fun KK hK=>?_) (AllReadyH.cons rfl (fun KK hK=>?_) (AllReadyH.cons rfl (fun KK hK=>?_) (AllReadyH.nil))))
   ·go_simp
    refine (hwv.out W0 (hG2.out.below H0.b2) (hL2.out.below H0.b2)).mono ?_
    rintro e W1 ⟨x,y,z,rfl,bb,hz,L',C',Q',aL,aC,aQ,bL,bC,bQ,hwi,rfl,rfl,fw,Rw,k10,k11,k20,k21,k30,k31⟩
    subst hz
    obtain ⟨aLa,aLn,aLc,rfl⟩:=(Rw.ownI k10).at.shape
    obtain ⟨bLa,bLn,bLc,rfl⟩:=(Rw.ownI k11).at.shape
    obtain ⟨aCa,aCn,aCc,rfl⟩:=(Rw.ownI k20).at.shape
    obtain ⟨bCa,bCn,bCc,rfl⟩:=(Rw.ownI k21).at.shape
    obtain ⟨aQa,aQn,aQc,rfl⟩:=(Rw.ownI k30).at.shape
    obtain ⟨bQa,bQn,bQc,rfl⟩:=(Rw.ownI k31).at.shape
    obtain ⟨f1,H1,sel,oth⟩:=H0.call bb Rw
    have nS:=OX.congr ⟨k10,k11,k20,k21,k30,k31⟩ sel
    replace hwi:=Hd hwi
    refine hK.out _ _ H1.c fun _=>?_
    clear hK KK bb H0 sel oth k10 k11 k20 k21 k30 k31 Rw
    refine pqD 7 39 H1.c ?_
    refine pqD 8 47 H1.c ?_
    refine pqD 9 48 H1.c ?_
    refine pqD 10 49 H1.c ?_
    refine wpAnyH_ready (rs:=[11,12]) (by kernel_rfl) (by simp) (AllReadyH.cons rfl (fun KK hK=>?_) (AllReadyH.cons rfl (fun KK hK=>?_) (AllReadyH.nil)))
    ·go_simp
     obtain ⟨gb9,W2,eg,eW,lgb9,f2,H2,n90,oo⟩:=H1.alloc 0
     rw [eW,eg]
     replace nS:=nS.box oo
     refine hK.out _ _ H2.c fun _=>?_
     clear hK KK eg eW H1 oo
     refine wpAnyH_ready (rs:=[12]) (by kernel_rfl) (by simp) (AllReadyH.cons rfl (fun KK hK=>?_) (AllReadyH.nil))
     ·go_simp
      obtain ⟨gb10,W3,eg,eW,lgb10,f3,H3,n91,oo⟩:=H2.alloc 1
      rw [eW,eg]
      replace nS:=nS.box oo
      replace n90:=(oo (9,0) (by decide)).trans n90
      refine hK.out _ _ H3.c fun _=>?_
      clear hK KK eg eW H2 oo
      obtain ⟨⟨⟨t0,t1,t2,t3⟩,u0,u1,u2,u3⟩,W4,e4,f4,H4,m,oo⟩:=H3.st4 n90 lgb9 (.int .i64 0) (.slice aLa aLn aLc) (.slice aCa aCn aCc) (.slice aQa aQn aQc)
      replace nS:=nS.box oo
      replace n91:=(oo (9,1) (by decide)).trans n91
      replace n90:=m
      unfold set4 at e4
      replace e4:=Hd e4
      refine wpAnyH_ready (rs:=[13]) (by kernel_rfl) (by simp) (AllReadyH.cons rfl (fun KK hK=>?_) AllReadyH.nil)
      go_simp
      rw [e4.out]
      refine hK.out _ _ H4.c fun _=>?_
      clear hK KK t0 t1 t2 t3 u0 u1 u2 u3 m oo H3 e4
      obtain ⟨⟨⟨t0,t1,t2,t3⟩,u0,u1,u2,u3⟩,W5,e5,f5,H5,m,oo⟩:=H4.st4 n91 lgb10 (.int .i64 0) (.slice bLa bLn bLc) (.slice bCa bCn bCc) (.slice bQa bQn bQc)
      replace nS:=nS.box oo
      replace n90:=(oo (9,0) (by decide)).trans n90
      replace n91:=m
      unfold set4 at e5
      replace e5:=Hd e5
      refine wpAnyH_ready (rs:=[14]) (by kernel_rfl) (by simp) (AllReadyH.cons rfl (fun KK hK=>?_) AllReadyH.nil)
      go_simp
      rw [e5.out]
      refine hK.out _ _ H5.c fun _=>?_
      clear hK KK t0 t1 t2 t3 u0 u1 u2 u3 m oo H4 e5
      refine pqD 15 7 H5.c ?_
      refine wpAnyH_done (by kernel_rfl) ?_ _
      refine NoPanic.normal ?_
      replace H5:=Hd H5
      replace nS:=Hd nS
      replace n90:=Hd n90
      replace n91:=Hd n91
      go_wp2
      go_meet
      case rel=>exact ⟨rfl,gb9,gb10,L',C',Q',_,_,_,_,_,_,f5,rfl,rfl,H5.out.bW,hwi.out,H5.out.R,H5.out.n2,H5.out.n3,n90.out,n91.out,nS.out⟩
    ·go_simp
     obtain ⟨gb10,W6,eg,eW,lgb10,f6,H6,n91,oo⟩:=H1.alloc 1
     rw [eW,eg]
     replace nS:=nS.box oo
     refine hK.out _ _ H6.c fun _=>?_
     clear hK KK eg eW H1 oo
     refine wpAnyH_ready (rs:=[11]) (by kernel_rfl) (by simp) (AllReadyH.cons rfl (fun KK hK=>?_) (AllReadyH.nil))
     ·go_simp
      obtain ⟨gb9,W7,eg,eW,lgb9,f7,H7,n90,oo⟩:=H6.alloc 0
      rw [eW,eg]
      replace nS:=nS.box oo
      replace n91:=(oo (9,1) (by decide)).trans n91
      refine hK.out _ _ H7.c fun _=>?_
      clear hK KK eg eW H6 oo
      obtain ⟨⟨⟨t0,t1,t2,t3⟩,u0,u1,u2,u3⟩,W8,e8,f8,H8,m,oo⟩:=H7.st4 n90 lgb9 (.int .i64 0) (.slice aLa aLn aLc) (.slice aCa aCn aCc) (.slice aQa aQn aQc)
      replace nS:=nS.box oo
      replace n91:=(oo (9,1) (by decide)).trans n91
      replace n90:=m
      unfold set4 at e8
      replace e8:=Hd e8
      refine wpAnyH_ready (rs:=[13]) (by kernel_rfl) (by simp) (AllReadyH.cons rfl (fun KK hK=>?_) AllReadyH.nil)
      go_simp
      rw [e8.out]
      refine hK.out _ _ H8.c fun _=>?_
      clear hK KK t0 t1 t2 t3 u0 u1 u2 u3 m oo H7 e8
      obtain ⟨⟨⟨t0,t1,t2,t3⟩,u0,u1,u2,u3⟩,W9,e9,f9,H9,m,oo⟩:=H8.st4 n91 lgb10 (.int .i64 0) (.slice bLa bLn bLc) (.slice bCa bCn bCc) (.slice bQa bQn bQc)
      replace nS:=nS.box oo
      replace n90:=(oo (9,0) (by decide)).trans n90
      replace n91:=m
      unfold set4 at e9
      replace e9:=Hd e9
      refine wpAnyH_ready (rs:=[14]) (by kernel_rfl) (by simp) (AllReadyH.cons rfl (fun KK hK=>?_) AllReadyH.nil)
      go_simp
      rw [e9.out]
      refine hK.out _ _ H9.c fun _=>?_
      clear hK KK t0 t1 t2 t3 u0 u1 u2 u3 m oo H8 e9
      refine pqD 15 7 H9.c ?_
      refine wpAnyH_done (by kernel_rfl) ?_ _
      refine NoPanic.normal ?_
      replace H9:=Hd H9
      replace nS:=Hd nS
      replace n90:=Hd n90
      replace n91:=Hd n91
      go_wp2
      go_meet
      case rel=>exact ⟨rfl,gb9,gb10,L',C',Q',_,_,_,_,_,_,f9,rfl,rfl,H9.out.bW,hwi.out,H9.out.R,H9.out.n2,H9.out.n3,n90.out,n91.out,nS.out⟩
   ·go_simp
    obtain ⟨gb9,W10,eg,eW,lgb9,f10,H10,n90,oo⟩:=H0.alloc 0
    rw [eW,eg]
    refine hK.out _ _ H10.c fun _=>?_
    clear hK KK eg eW H0 oo
    refine wpAnyH_ready (rs:=[6,12]) (by kernel_rfl) (by simp) (AllReadyH.cons rfl (fun KK hK=>?_) (AllReadyH.cons rfl (fun KK hK=>?_) (AllReadyH.nil)))
    ·go_simp
     refine (hwv.out W10 (hG2.out.below H10.b2) (hL2.out.below H10.b2)).mono ?_
     rintro e W11 ⟨x,y,z,rfl,bb,hz,L',C',Q',aL,aC,aQ,bL,bC,bQ,hwi,rfl,rfl,fw,Rw,k10,k11,k20,k21,k30,k31⟩
     subst hz
     obtain ⟨aLa,aLn,aLc,rfl⟩:=(Rw.ownI k10).at.shape
     obtain ⟨bLa,bLn,bLc,rfl⟩:=(Rw.ownI k11).at.shape
     obtain ⟨aCa,aCn,aCc,rfl⟩:=(Rw.ownI k20).at.shape
     obtain ⟨bCa,bCn,bCc,rfl⟩:=(Rw.ownI k21).at.shape
     obtain ⟨aQa,aQn,aQc,rfl⟩:=(Rw.ownI k30).at.shape
     obtain ⟨bQa,bQn,bQc,rfl⟩:=(Rw.ownI k31).at.shape
     obtain ⟨f11,H11,sel,oth⟩:=H10.call bb Rw
     have nS:=OX.congr ⟨k10,k11,k20,k21,k30,k31⟩ sel
     replace n90:=(oth 0).trans n90
     replace hwi:=Hd hwi
     refine hK.out _ _ H11.c fun _=>?_
     clear hK KK bb H10 sel oth k10 k11 k20 k21 k30 k31 Rw
     refine pqD 7 39 H11.c ?_
     refine pqD 8 47 H11.c ?_
     refine pqD 9 48 H11.c ?_
     refine pqD 10 49 H11.c ?_
     refine wpAnyH_ready (rs:=[12]) (by kernel_rfl) (by simp) (AllReadyH.cons rfl (fun KK hK=>?_) (AllReadyH.nil))
     ·go_simp
      obtain ⟨gb10,W12,eg,eW,lgb10,f12,H12,n91,oo⟩:=H11.alloc 1
      rw [eW,eg]
      replace nS:=nS.box oo
      replace n90:=(oo (9,0) (by decide)).trans n90
      refine hK.out _ _ H12.c fun _=>?_
      clear hK KK eg eW H11 oo
      obtain ⟨⟨⟨t0,t1,t2,t3⟩,u0,u1,u2,u3⟩,W13,e13,f13,H13,m,oo⟩:=H12.st4 n90 lgb9 (.int .i64 0) (.slice aLa aLn aLc) (.slice aCa aCn aCc) (.slice aQa aQn aQc)
      replace nS:=nS.box oo
      replace n91:=(oo (9,1) (by decide)).trans n91
      replace n90:=m
      unfold set4 at e13
      replace e13:=Hd e13
      refine wpAnyH_ready (rs:=[13]) (by kernel_rfl) (by simp) (AllReadyH.cons rfl (fun KK hK=>?_) AllReadyH.nil)
      go_simp
      rw [e13.out]
      refine hK.out _ _ H13.c fun _=>?_
      clear hK KK t0 t1 t2 t3 u0 u1 u2 u3 m oo H12 e13
      obtain ⟨⟨⟨t0,t1,t2,t3⟩,u0,u1,u2,u3⟩,W14,e14,f14,H14,m,oo⟩:=H13.st4 n91 lgb10 (.int .i64 0) (.slice bLa bLn bLc) (.slice bCa bCn bCc) (.slice bQa bQn bQc)
      replace nS:=nS.box oo
      replace n90:=(oo (9,0) (by decide)).trans n90
      replace n91:=m
      unfold set4 at e14
      replace e14:=Hd e14
      refine wpAnyH_ready (rs:=[14]) (by kernel_rfl) (by simp) (AllReadyH.cons rfl (fun KK hK=>?_) AllReadyH.nil)
      go_simp
      rw [e14.out]
      refine hK.out _ _ H14.c fun _=>?_
      clear hK KK t0 t1 t2 t3 u0 u1 u2 u3 m oo H13 e14
      refine pqD 15 7 H14.c ?_
      refine wpAnyH_done (by kernel_rfl) ?_ _
      refine NoPanic.normal ?_
      replace H14:=Hd H14
      replace nS:=Hd nS
      replace n90:=Hd n90
      replace n91:=Hd n91
      go_wp2
      go_meet
      case rel=>exact ⟨rfl,gb9,gb10,L',C',Q',_,_,_,_,_,_,f14,rfl,rfl,H14.out.bW,hwi.out,H14.out.R,H14.out.n2,H14.out.n3,n90.out,n91.out,nS.out⟩
    ·go_simp
     obtain ⟨gb10,W15,eg,eW,lgb10,f15,H15,n91,oo⟩:=H10.alloc 1
     rw [eW,eg]
     replace n90:=(oo (9,0) (by decide)).trans n90
     refine hK.out _ _ H15.c fun _=>?_
     clear hK KK eg eW H10 oo
     refine wpAnyH_ready (rs:=[6]) (by kernel_rfl) (by simp) (AllReadyH.cons rfl (fun KK hK=>?_) (AllReadyH.nil))
     ·go_simp
      refine (hwv.out W15 (hG2.out.below H15.b2) (hL2.out.below H15.b2)).mono ?_
      rintro e W16 ⟨x,y,z,rfl,bb,hz,L',C',Q',aL,aC,aQ,bL,bC,bQ,hwi,rfl,rfl,fw,Rw,k10,k11,k20,k21,k30,k31⟩
      subst hz
      obtain ⟨aLa,aLn,aLc,rfl⟩:=(Rw.ownI k10).at.shape
      obtain ⟨bLa,bLn,bLc,rfl⟩:=(Rw.ownI k11).at.shape
      obtain ⟨aCa,aCn,aCc,rfl⟩:=(Rw.ownI k20).at.shape
      obtain ⟨bCa,bCn,bCc,rfl⟩:=(Rw.ownI k21).at.shape
      obtain ⟨aQa,aQn,aQc,rfl⟩:=(Rw.ownI k30).at.shape
      obtain ⟨bQa,bQn,bQc,rfl⟩:=(Rw.ownI k31).at.shape
      obtain ⟨f16,H16,sel,oth⟩:=H15.call bb Rw
      have nS:=OX.congr ⟨k10,k11,k20,k21,k30,k31⟩ sel
      replace n90:=(oth 0).trans n90
      replace n91:=(oth 1).trans n91
      replace hwi:=Hd hwi
      refine hK.out _ _ H16.c fun _=>?_
      clear hK KK bb H15 sel oth k10 k11 k20 k21 k30 k31 Rw
      refine pqD 7 39 H16.c ?_
      refine pqD 8 47 H16.c ?_
      refine pqD 9 48 H16.c ?_
      refine pqD 10 49 H16.c ?_
      obtain ⟨⟨⟨t0,t1,t2,t3⟩,u0,u1,u2,u3⟩,W17,e17,f17,H17,m,oo⟩:=H16.st4 n90 lgb9 (.int .i64 0) (.slice aLa aLn aLc) (.slice aCa aCn aCc) (.slice aQa aQn aQc)
      replace nS:=nS.box oo
      replace n91:=(oo (9,1) (by decide)).trans n91
      replace n90:=m
      unfold set4 at e17
      replace e17:=Hd e17
      refine wpAnyH_ready (rs:=[13]) (by kernel_rfl) (by simp) (AllReadyH.cons rfl (fun KK hK=>?_) AllReadyH.nil)
      go_simp
      rw [e17.out]
      refine hK.out _ _ H17.c fun _=>?_
      clear hK KK t0 t1 t2 t3 u0 u1 u2 u3 m oo H16 e17
      obtain ⟨⟨⟨t0,t1,t2,t3⟩,u0,u1,u2,u3⟩,W18,e18,f18,H18,m,oo⟩:=H17.st4 n91 lgb10 (.int .i64 0) (.slice bLa bLn bLc) (.slice bCa bCn bCc) (.slice bQa bQn bQc)
      replace nS:=nS.box oo
      replace n90:=(oo (9,0) (by decide)).trans n90
      replace n91:=m
      unfold set4 at e18
      replace e18:=Hd e18
      refine wpAnyH_ready (rs:=[14]) (by kernel_rfl) (by simp) (AllReadyH.cons rfl (fun KK hK=>?_) AllReadyH.nil)
      go_simp
      rw [e18.out]
      refine hK.out _ _ H18.c fun _=>?_
      clear hK KK t0 t1 t2 t3 u0 u1 u2 u3 m oo H17 e18
      refine pqD 15 7 H18.c ?_
      refine wpAnyH_done (by kernel_rfl) ?_ _
      refine NoPanic.normal ?_
      replace H18:=Hd H18
      replace nS:=Hd nS
      replace n90:=Hd n90
      replace n91:=Hd n91
      go_wp2
      go_meet
      case rel=>exact ⟨rfl,gb9,gb10,L',C',Q',_,_,_,_,_,_,f18,rfl,rfl,H18.out.bW,hwi.out,H18.out.R,H18.out.n2,H18.out.n3,n90.out,n91.out,nS.out⟩
   ·go_simp
    obtain ⟨gb10,W19,eg,eW,lgb10,f19,H19,n91,oo⟩:=H0.alloc 1
    rw [eW,eg]
    refine hK.out _ _ H19.c fun _=>?_
    clear hK KK eg eW H0 oo
    refine wpAnyH_ready (rs:=[6,11]) (by kernel_rfl) (by simp) (AllReadyH.cons rfl (fun KK hK=>?_) (AllReadyH.cons rfl (fun KK hK=>?_) (AllReadyH.nil)))
    ·go_simp
     refine (hwv.out W19 (hG2.out.below H19.b2) (hL2.out.below H19.b2)).mono ?_
     rintro e W20 ⟨x,y,z,rfl,bb,hz,L',C',Q',aL,aC,aQ,bL,bC,bQ,hwi,rfl,rfl,fw,Rw,k10,k11,k20,k21,k30,k31⟩
     subst hz
     obtain ⟨aLa,aLn,aLc,rfl⟩:=(Rw.ownI k10).at.shape
     obtain ⟨bLa,bLn,bLc,rfl⟩:=(Rw.ownI k11).at.shape
     obtain ⟨aCa,aCn,aCc,rfl⟩:=(Rw.ownI k20).at.shape
     obtain ⟨bCa,bCn,bCc,rfl⟩:=(Rw.ownI k21).at.shape
     obtain ⟨aQa,aQn,aQc,rfl⟩:=(Rw.ownI k30).at.shape
     obtain ⟨bQa,bQn,bQc,rfl⟩:=(Rw.ownI k31).at.shape
     obtain ⟨f20,H20,sel,oth⟩:=H19.call bb Rw
     have nS:=OX.congr ⟨k10,k11,k20,k21,k30,k31⟩ sel
     replace n91:=(oth 1).trans n91
     replace hwi:=Hd hwi
     refine hK.out _ _ H20.c fun _=>?_
     clear hK KK bb H19 sel oth k10 k11 k20 k21 k30 k31 Rw
     refine pqD 7 39 H20.c ?_
     refine pqD 8 47 H20.c ?_
     refine pqD 9 48 H20.c ?_
     refine pqD 10 49 H20.c ?_
     refine wpAnyH_ready (rs:=[11]) (by kernel_rfl) (by simp) (AllReadyH.cons rfl (fun KK hK=>?_) (AllReadyH.nil))
     ·go_simp
      obtain ⟨gb9,W21,eg,eW,lgb9,f21,H21,n90,oo⟩:=H20.alloc 0
      rw [eW,eg]
      replace nS:=nS.box oo
      replace n91:=(oo (9,1) (by decide)).trans n91
      refine hK.out _ _ H21.c fun _=>?_
      clear hK KK eg eW H20 oo
      obtain ⟨⟨⟨t0,t1,t2,t3⟩,u0,u1,u2,u3⟩,W22,e22,f22,H22,m,oo⟩:=H21.st4 n90 lgb9 (.int .i64 0) (.slice aLa aLn aLc) (.slice aCa aCn aCc) (.slice aQa aQn aQc)
      replace nS:=nS.box oo
      replace n91:=(oo (9,1) (by decide)).trans n91
      replace n90:=m
      unfold set4 at e22
      replace e22:=Hd e22
      refine wpAnyH_ready (rs:=[13]) (by kernel_rfl) (by simp) (AllReadyH.cons rfl (fun KK hK=>?_) AllReadyH.nil)
      go_simp
      rw [e22.out]
      refine hK.out _ _ H22.c fun _=>?_
      clear hK KK t0 t1 t2 t3 u0 u1 u2 u3 m oo H21 e22
      obtain ⟨⟨⟨t0,t1,t2,t3⟩,u0,u1,u2,u3⟩,W23,e23,f23,H23,m,oo⟩:=H22.st4 n91 lgb10 (.int .i64 0) (.slice bLa bLn bLc) (.slice bCa bCn bCc) (.slice bQa bQn bQc)
      replace nS:=nS.box oo
      replace n90:=(oo (9,0) (by decide)).trans n90
      replace n91:=m
      unfold set4 at e23
      replace e23:=Hd e23
      refine wpAnyH_ready (rs:=[14]) (by kernel_rfl) (by simp) (AllReadyH.cons rfl (fun KK hK=>?_) AllReadyH.nil)
      go_simp
      rw [e23.out]
      refine hK.out _ _ H23.c fun _=>?_
      clear hK KK t0 t1 t2 t3 u0 u1 u2 u3 m oo H22 e23
      refine pqD 15 7 H23.c ?_
      refine wpAnyH_done (by kernel_rfl) ?_ _
      refine NoPanic.normal ?_
      replace H23:=Hd H23
      replace nS:=Hd nS
      replace n90:=Hd n90
      replace n91:=Hd n91
      go_wp2
      go_meet
      case rel=>exact ⟨rfl,gb9,gb10,L',C',Q',_,_,_,_,_,_,f23,rfl,rfl,H23.out.bW,hwi.out,H23.out.R,H23.out.n2,H23.out.n3,n90.out,n91.out,nS.out⟩
    ·go_simp
     obtain ⟨gb9,W24,eg,eW,lgb9,f24,H24,n90,oo⟩:=H19.alloc 0
     rw [eW,eg]
     replace n91:=(oo (9,1) (by decide)).trans n91
     refine hK.out _ _ H24.c fun _=>?_
     clear hK KK eg eW H19 oo
     refine wpAnyH_ready (rs:=[6]) (by kernel_rfl) (by simp) (AllReadyH.cons rfl (fun KK hK=>?_) (AllReadyH.nil))
     ·go_simp
      refine (hwv.out W24 (hG2.out.below H24.b2) (hL2.out.below H24.b2)).mono ?_
      rintro e W25 ⟨x,y,z,rfl,bb,hz,L',C',Q',aL,aC,aQ,bL,bC,bQ,hwi,rfl,rfl,fw,Rw,k10,k11,k20,k21,k30,k31⟩
      subst hz
      obtain ⟨aLa,aLn,aLc,rfl⟩:=(Rw.ownI k10).at.shape
      obtain ⟨bLa,bLn,bLc,rfl⟩:=(Rw.ownI k11).at.shape
      obtain ⟨aCa,aCn,aCc,rfl⟩:=(Rw.ownI k20).at.shape
      obtain ⟨bCa,bCn,bCc,rfl⟩:=(Rw.ownI k21).at.shape
      obtain ⟨aQa,aQn,aQc,rfl⟩:=(Rw.ownI k30).at.shape
      obtain ⟨bQa,bQn,bQc,rfl⟩:=(Rw.ownI k31).at.shape
      obtain ⟨f25,H25,sel,oth⟩:=H24.call bb Rw
      have nS:=OX.congr ⟨k10,k11,k20,k21,k30,k31⟩ sel
      replace n91:=(oth 1).trans n91
      replace n90:=(oth 0).trans n90
      replace hwi:=Hd hwi
      refine hK.out _ _ H25.c fun _=>?_
      clear hK KK bb H24 sel oth k10 k11 k20 k21 k30 k31 Rw
      refine pqD 7 39 H25.c ?_
      refine pqD 8 47 H25.c ?_
      refine pqD 9 48 H25.c ?_
      refine pqD 10 49 H25.c ?_
      obtain ⟨⟨⟨t0,t1,t2,t3⟩,u0,u1,u2,u3⟩,W26,e26,f26,H26,m,oo⟩:=H25.st4 n90 lgb9 (.int .i64 0) (.slice aLa aLn aLc) (.slice aCa aCn aCc) (.slice aQa aQn aQc)
      replace nS:=nS.box oo
      replace n91:=(oo (9,1) (by decide)).trans n91
      replace n90:=m
      unfold set4 at e26
      replace e26:=Hd e26
      refine wpAnyH_ready (rs:=[13]) (by kernel_rfl) (by simp) (AllReadyH.cons rfl (fun KK hK=>?_) AllReadyH.nil)
      go_simp
      rw [e26.out]
      refine hK.out _ _ H26.c fun _=>?_
      clear hK KK t0 t1 t2 t3 u0 u1 u2 u3 m oo H25 e26
      obtain ⟨⟨⟨t0,t1,t2,t3⟩,u0,u1,u2,u3⟩,W27,e27,f27,H27,m,oo⟩:=H26.st4 n91 lgb10 (.int .i64 0) (.slice bLa bLn bLc) (.slice bCa bCn bCc) (.slice bQa bQn bQc)
      replace nS:=nS.box oo
      replace n90:=(oo (9,0) (by decide)).trans n90
      replace n91:=m
      unfold set4 at e27
      replace e27:=Hd e27
      refine wpAnyH_ready (rs:=[14]) (by kernel_rfl) (by simp) (AllReadyH.cons rfl (fun KK hK=>?_) AllReadyH.nil)
      go_simp
      rw [e27.out]
      refine hK.out _ _ H27.c fun _=>?_
      clear hK KK t0 t1 t2 t3 u0 u1 u2 u3 m oo H26 e27
      refine pqD 15 7 H27.c ?_
      refine wpAnyH_done (by kernel_rfl) ?_ _
      refine NoPanic.normal ?_
      replace H27:=Hd H27
      replace nS:=Hd nS
      replace n90:=Hd n90
      replace n91:=Hd n91
      go_wp2
      go_meet
      case rel=>exact ⟨rfl,gb9,gb10,L',C',Q',_,_,_,_,_,_,f27,rfl,rfl,H27.out.bW,hwi.out,H27.out.R,H27.out.n2,H27.out.n3,n90.out,n91.out,nS.out⟩
  case rest =>
   obtain ⟨rfl,g9,g10,L',C',Q',aL,aC,aQ,bL,bC,bQ,f9,rfl,rfl,bc,hwi,Rc,n02,n03,n90,n91,n10,n11,n20,n21,n30,n31⟩:=hcut
   obtain ⟨aLa,aLn,aLc,haL⟩:=(Rc.ownI n10).at.shape
   subst haL
   obtain ⟨bLa,bLn,bLc,hbL⟩:=(Rc.ownI n11).at.shape
   subst hbL
   obtain ⟨aCa,aCn,aCc,haC⟩:=(Rc.ownI n20).at.shape
   subst haC
   obtain ⟨bCa,bCn,bCc,hbC⟩:=(Rc.ownI n21).at.shape
   subst hbC
   obtain ⟨aQa,aQn,aQc,haQ⟩:=(Rc.ownI n30).at.shape
   subst haQ
   obtain ⟨bQa,bQn,bQc,hbQ⟩:=(Rc.ownI n31).at.shape
   subst hbQ
   have honeR:=honeL.out v m L' C' Q' hod.out hwi
   clear hwi
   replace honeR:=Hd honeR
   obtain ⟨V,hVd⟩:∃ V:World,wc.drew=V:=⟨_,rfl⟩
   have RV:Rows w.heap.size V f9:=by rw [← hVd]; exact Rc.drew
   have bV:Below w.heap.size w V:=by rw [← hVd]; exact bc.drew
   replace hVd:=Hd hVd
   clear Rc bc
   have hS:V.cell? ⟨g9,0,none⟩=some (.int .i64 0)∧V.cell? ⟨g9,1,none⟩=some (.slice aLa aLn aLc)∧V.cell? ⟨g9,2,none⟩=some (.slice aCa aCn aCc)∧V.cell? ⟨g9,3,none⟩=some (.slice aQa aQn aQc)∧V.cell? ⟨g10,0,none⟩=some (.int .i64 0)∧V.cell? ⟨g10,1,none⟩=some (.slice bLa bLn bLc)∧V.cell? ⟨g10,2,none⟩=some (.slice bCa bCn bCc)∧V.cell? ⟨g10,3,none⟩=some (.slice bQa bQn bQc):=by
    obtain ⟨a0,a1,a2,a3⟩:=RV.cells4 n90
    obtain ⟨d0,d1,d2,d3⟩:=RV.cells4 n91
    exact ⟨a0,a1,a2,a3,d0,d1,d2,d3⟩
   obtain ⟨g0,g1,g2,g3⟩:=RV.cells4 n02
   have fg0:=RV.frz4 n02 0
   have fg1:=RV.frz4 n02 1
   have fg2:=RV.frz4 n02 2
   have fg3:=RV.frz4 n02 3
   have lg0:=(RV.low4 n02).1
   obtain ⟨f15,R15,m02,o15⟩:=RV.all4 n02 (.int .i64 0) (.slice aLa aLn aLc) (.slice aCa aCn aCc) (.slice aQa aQn aQc)
   replace n03:=(o15 (0,3) (by decide)).trans n03
   replace n90:=(o15 (9,0) (by decide)).trans n90
   replace n91:=(o15 (9,1) (by decide)).trans n91
   replace n10:=(o15 (1,0) (by decide)).trans n10
   replace n11:=(o15 (1,1) (by decide)).trans n11
   replace n20:=(o15 (2,0) (by decide)).trans n20
   replace n21:=(o15 (2,1) (by decide)).trans n21
   replace n30:=(o15 (3,0) (by decide)).trans n30
   replace n31:=(o15 (3,1) (by decide)).trans n31
   have b15:=Below.all4 (g:=w.heap.size+1) bV lg0 (.int .i64 0) (.slice aLa aLn aLc) (.slice aCa aCn aCc) (.slice aQa aQn aQc)
   obtain ⟨V15,hV15⟩:∃ V':World,(((V.setCell ⟨w.heap.size+1,0,none⟩ (.int .i64 0)).setCell ⟨w.heap.size+1,1,none⟩ (.slice aLa aLn aLc)).setCell ⟨w.heap.size+1,2,none⟩ (.slice aCa aCn aCc)).setCell ⟨w.heap.size+1,3,none⟩ (.slice aQa aQn aQc)=V':=⟨_,rfl⟩
   rw [hV15] at R15 b15
   have hS15:V15.cell? ⟨g9,0,none⟩=some (.int .i64 0)∧V15.cell? ⟨g9,1,none⟩=some (.slice aLa aLn aLc)∧V15.cell? ⟨g9,2,none⟩=some (.slice aCa aCn aCc)∧V15.cell? ⟨g9,3,none⟩=some (.slice aQa aQn aQc)∧V15.cell? ⟨g10,0,none⟩=some (.int .i64 0)∧V15.cell? ⟨g10,1,none⟩=some (.slice bLa bLn bLc)∧V15.cell? ⟨g10,2,none⟩=some (.slice bCa bCn bCc)∧V15.cell? ⟨g10,3,none⟩=some (.slice bQa bQn bQc):=by
    obtain ⟨a0,a1,a2,a3⟩:=R15.cells4 n90
    obtain ⟨d0,d1,d2,d3⟩:=R15.cells4 n91
    exact ⟨a0,a1,a2,a3,d0,d1,d2,d3⟩
   replace hV15:=Hd hV15
   clear n02 o15 RV bV lg0
   have n02:=m02
   clear m02
   go_upto_region 8 with fail
   refine wp_region_plan (fun w'=>w'.cell? ⟨g9,0,none⟩=some (.int .i64 0)∧w'.cell? ⟨g9,1,none⟩=some (.slice aLa aLn aLc)∧w'.cell? ⟨g9,2,none⟩=some (.slice aCa aCn aCc)∧w'.cell? ⟨g9,3,none⟩=some (.slice aQa aQn aQc)∧w'.cell? ⟨g10,0,none⟩=some (.int .i64 0)∧w'.cell? ⟨g10,1,none⟩=some (.slice bLa bLn bLc)∧w'.cell? ⟨g10,2,none⟩=some (.slice bCa bCn bCc)∧w'.cell? ⟨g10,3,none⟩=some (.slice bQa bQn bQc)) 6 [(0,true),(1,true),(2,true),(3,true),(4,false),(5,false)] (by kernel_rfl) (by kernel_rfl) ?_
   rw [hVd.out]
   refine pqY 50 hS ?_
   refine pqY 51 hS ?_
   refine pqY 52 hS ?_
   refine pqY 2 hS ?_
   refine headC rfl (fun KK hK=>?_)
   go_simp
   rw [hV15.out]
   refine hK _ _ hS15 ?_
   clear hK KK hS g0 g1 g2 g3 fg0 fg1 fg2 fg3
   obtain ⟨h0,h1,h2,h3⟩:=R15.cells4 n03
   have fh0:=R15.frz4 n03 0
   have fh1:=R15.frz4 n03 1
   have fh2:=R15.frz4 n03 2
   have fh3:=R15.frz4 n03 3
   have lh0:=(R15.low4 n03).1
   obtain ⟨f16,R16,m03,o16⟩:=R15.all4 n03 (.int .i64 0) (.slice bLa bLn bLc) (.slice bCa bCn bCc) (.slice bQa bQn bQc)
   replace n02:=(o16 (0,2) (by decide)).trans n02
   replace n90:=(o16 (9,0) (by decide)).trans n90
   replace n91:=(o16 (9,1) (by decide)).trans n91
   replace n10:=(o16 (1,0) (by decide)).trans n10
   replace n11:=(o16 (1,1) (by decide)).trans n11
   replace n20:=(o16 (2,0) (by decide)).trans n20
   replace n21:=(o16 (2,1) (by decide)).trans n21
   replace n30:=(o16 (3,0) (by decide)).trans n30
   replace n31:=(o16 (3,1) (by decide)).trans n31
   have b16:=Below.all4 (g:=w.heap.size+2) b15 lh0 (.int .i64 0) (.slice bLa bLn bLc) (.slice bCa bCn bCc) (.slice bQa bQn bQc)
   obtain ⟨V16,hV16⟩:∃ V':World,(((V15.setCell ⟨w.heap.size+2,0,none⟩ (.int .i64 0)).setCell ⟨w.heap.size+2,1,none⟩ (.slice bLa bLn bLc)).setCell ⟨w.heap.size+2,2,none⟩ (.slice bCa bCn bCc)).setCell ⟨w.heap.size+2,3,none⟩ (.slice bQa bQn bQc)=V':=⟨_,rfl⟩
   rw [hV16] at R16 b16
   have hS16:V16.cell? ⟨g9,0,none⟩=some (.int .i64 0)∧V16.cell? ⟨g9,1,none⟩=some (.slice aLa aLn aLc)∧V16.cell? ⟨g9,2,none⟩=some (.slice aCa aCn aCc)∧V16.cell? ⟨g9,3,none⟩=some (.slice aQa aQn aQc)∧V16.cell? ⟨g10,0,none⟩=some (.int .i64 0)∧V16.cell? ⟨g10,1,none⟩=some (.slice bLa bLn bLc)∧V16.cell? ⟨g10,2,none⟩=some (.slice bCa bCn bCc)∧V16.cell? ⟨g10,3,none⟩=some (.slice bQa bQn bQc):=by
    obtain ⟨a0,a1,a2,a3⟩:=R16.cells4 n90
    obtain ⟨d0,d1,d2,d3⟩:=R16.cells4 n91
    exact ⟨a0,a1,a2,a3,d0,d1,d2,d3⟩
   replace hV16:=Hd hV16
   clear n03 o16 R15 b15 lh0
   have n03:=m03
   clear m03
   refine headC rfl (fun KK hK=>?_)
   go_simp
   rw [hV16.out]
   refine hK _ _ hS16 ?_
   clear hK KK hS15 h0 h1 h2 h3 fh0 fh1 fh2 fh3
   refine head0 ?_
   simp only [List.drop_succ_cons,List.drop_zero]
   clear hS16
   obtain ⟨g0,g1,g2,g3⟩:=R16.cells4 n02
   obtain ⟨h0,h1,h2,h3⟩:=R16.cells4 n03
   replace n02:=Hd n02
   replace n03:=Hd n03
   replace n90:=Hd n90
   replace n91:=Hd n91
   replace n10:=Hd n10
   replace n11:=Hd n11
   replace n20:=Hd n20
   replace n21:=Hd n21
   replace n30:=Hd n30
   replace n31:=Hd n31
   replace R16:=Hd R16
   go_wp2
   refine NoPanic.normal ?_
   go_wp2
   (try simp only [Exit.inBlock,Exit.then])
   refine bodyPost_ret (v:=.tuple #[.bool false,.agg #[.int .i64 0,.slice aLa aLn aLc,.slice aCa aCn aCc,.slice aQa aQn aQc],.agg #[.int .i64 0,.slice bLa bLn bLc,.slice bCa bCn bCc,.slice bQa bQn bQc],.nilIface]) (by simp [results,Tryz.results69,go_sem,g0,g1,g2,g3,h0,h1,h2,h3]) rfl ?_
   exact ⟨_,_,_,_,rfl,b16,rfl,.inr ⟨rfl,hno.out,L',C',Q',_,_,_,_,_,_,honeR.out,rfl,rfl,f16,R16.out,n10.out,n11.out,n20.out,n21.out,n30.out,n31.out⟩⟩
theorem WitIs.pos {G:List (List Int)} {v:Nat} {L C Q:List Nat} (h:WitIs G v L C Q):1≤L.length∧1≤Q.length:=by
 obtain ⟨c,d,u1,u2,I,O,_,_,hc,_,h3,_,_,_,rfl,rfl,rfl⟩:=h
 refine ⟨?_,by simp⟩
 have he:=h3.way.ends
 obtain ⟨w',hw⟩:=h3.way.ne
 cases hd:u1.dropLast with
 | nil =>
  rw [hd,hw] at he
  simp at he
  omega
 | cons x l=>simp
theorem OneIs.pos {K R:Nat} {T:List Int} {L C Q:List Nat} (h:OneIs K R T L C Q):1≤L.length∧1≤Q.length:=by
 obtain ⟨_,_,_,_,_,h3⟩:=h
 exact h3.pos
theorem OnePost.ans {w w':World} {K R:Nat} {T:List Int} {yes x y e:Value} (h:OnePost w K R T yes x y e w'):e=.nilIface∧∃ Y,yes=.bool Y∧(Y=true↔¬ NotOne K R T) ∧
 ∃ a1 n1 c1 a2 n2 c2 a3 n3 c3 a4 n4 c4 a5 n5 c5 a6 n6 c6,x=.agg #[.int .i64 0,.slice a1 n1 c1,.slice a2 n2 c2,.slice a3 n3 c3]∧y=.agg #[.int .i64 0,.slice a4 n4 c4,.slice a5 n5 c5,.slice a6 n6 c6]:=by
 obtain ⟨rfl,⟨rfl,rfl,rfl,hn⟩ | ⟨rfl,hn,L,C,Q,aL,aC,aQ,bL,bC,bQ,_,rfl,rfl,f,hr,h1,h2,h3,h4,h5,h6⟩⟩:=h
 ·exact ⟨rfl,true,rfl,⟨fun _=>hn,fun _=>rfl⟩,_,_,_,_,_,_,_,_,_,_,_,_,_,_,_,_,_,_,rfl,rfl⟩
 ·obtain ⟨_,_,_,rfl⟩:=(hr.ownI h1).at.shape
  obtain ⟨_,_,_,rfl⟩:=(hr.ownI h2).at.shape
  obtain ⟨_,_,_,rfl⟩:=(hr.ownI h3).at.shape
  obtain ⟨_,_,_,rfl⟩:=(hr.ownI h4).at.shape
  obtain ⟨_,_,_,rfl⟩:=(hr.ownI h5).at.shape
  obtain ⟨_,_,_,rfl⟩:=(hr.ownI h6).at.shape
  exact ⟨rfl,false,rfl,⟨fun h=>(by cases h),fun h=>absurd hn h⟩,_,_,_,_,_,_,_,_,_,_,_,_,_,_,_,_,_,_,rfl,rfl⟩
end Go.Proofs.YtindfaehjoileaaGreatDoor
namespace Go.Proofs.YtindfaehjoileaaGreatDoor
def digN (x j:Nat):List Int:=(List.range j).map fun i=>((x/10 ^ i%10:Nat):Int)
theorem digN_len (x j:Nat):(digN x j).length=j:=by simp [digN]
theorem digN_succ (x j:Nat):digN x (j+1)=digN x j++[((x/10 ^ j%10:Nat):Int)]:=by simp [digN,List.range_succ]
theorem digN_syms (x j:Nat):∀ d∈digN x j,0≤d∧d≤9:=by
 intro d hd
 obtain ⟨i,_,rfl⟩:=List.mem_map.1 hd
 have:=Nat.mod_lt (x/10 ^ i) (show 0<10 by decide)
 omega
def digL:Nat→Nat→List Int
 | 0,_=>[]
 | f+1,n=>if n=0 then [] else digN (n%1000000000) 9++digL f (n/1000000000)
theorem digL_zero (f:Nat):digL f 0=[]:=by cases f<;>rfl
theorem digL_fuel (f:Nat):∀ g n,n≤f→n≤g→digL f n=digL g n:=by
 induction f with
 | zero=>intro g n h _; obtain rfl:n=0:=(by omega); rw [digL_zero,digL_zero]
 | succ f ih =>
  intro g n hf hg
  by_cases h0:n=0
  ·subst h0; rw [digL_zero,digL_zero]
  ·cases g with
   | zero=>omega
   | succ g =>
    unfold digL
    rw [if_neg h0,if_neg h0]
    have:n/1000000000≤n/2:=Nat.div_le_div_left (by decide) (by decide)
    rw [ih g (n/1000000000) (by omega) (by omega)]
def digA (n:Nat):List Int:=digL n n
theorem digA_zero:digA 0=[]:=rfl
theorem digA_pos {n:Nat} (h:n≠0):digA n=digN (n%1000000000) 9++digA (n/1000000000):=by
 unfold digA
 obtain ⟨m,rfl⟩:∃ m,n=m+1:=⟨n-1,by omega⟩
 rw [digL,if_neg h]
 have:(m+1)/1000000000≤(m+1)/2:=Nat.div_le_div_left (by decide) (by decide)
 rw [digL_fuel m ((m+1)/1000000000) _ (by omega) (Nat.le_refl _)]
theorem digA_syms (n:Nat):∀ d∈digA n,0≤d∧d≤9:=by
 unfold digA
 generalize hf:n=f
 have key:∀ f n,∀ d∈digL f n,0≤d∧d≤9:=by
  intro f
  induction f with
  | zero=>intro n d hd; cases hd
  | succ f ih =>
   intro n d hd
   unfold digL at hd
   split at hd
   ·cases hd
   ·rcases List.mem_append.1 hd with hd | hd
    ·exact digN_syms _ _ d hd
    ·exact ih _ d hd
 exact key f f
def decL (n:Nat):List Int:=match (digA n).reverse.dropWhile (fun d=>decide (d=0)) with | []=>[0] | l=>l
theorem decL_len (n:Nat):(decL n).length≤(digA n).length+1:=by
 unfold decL
 split
 ·simp
 ·rename_i h
  have:=(List.dropWhile_sublist (fun d=>decide (d=0)) (l:=(digA n).reverse)).length_le
  rw [List.length_reverse] at this
  omega
theorem digL_len (f:Nat):∀ n k,n<1000000000 ^ k→(digL f n).length≤9*k:=by
 induction f with
 | zero=>intro n k _; simp [digL]
 | succ f ih =>
  intro n k h
  unfold digL
  split
  ·simp
  ·rename_i h0
   cases k with
   | zero=>simp at h; omega
   | succ k =>
    rw [List.length_append,digN_len]
    have:=ih (n/1000000000) k (by rw [Nat.pow_succ] at h; exact Nat.div_lt_of_lt_mul (by rw [Nat.mul_comm]; exact h))
    omega
theorem digA_len {N k:Nat} (h:N<4294967296 ^ k):(digA N).length≤9*(2*k) :=
 digL_len N N _ (Nat.lt_of_lt_of_le h (by rw [Nat.pow_mul]; exact Nat.pow_le_pow_left (by decide) _))
open Go.RowKit Go.Shelf
set_option maxRecDepth 100000
set_option maxHeartbeats 8000000
def Tryz.laysTrimLeft_ren:Go.Shelf.Ren:=⟨fun | 161=>256 | 231=>326 | 227=>327 | 233=>328 | 235=>329 | 228=>360 | 197=>140 | 151=>361 | 260=>247 | 152=>386 | 137=>42 | 119=>397 | 224=>249 | 225=>248 | 217=>137 | 266=>245 | n=>n,fun | 9=>9 | 4=>4 | 3=>3 | 5=>5 | 117=>391 | 116=>390 | 0=>0 | 124=>394 | 105=>198 | 21=>21 | 119=>383 | 46=>101 | 139=>386 | 138=>385 | n=>n,fun | 3=>16 | 4=>17 | n=>n⟩
theorem Tryz.laysTrimLeft:Go.Proofs.Lays.n161 Tryz.prog Tryz.laysTrimLeft_ren:={
 mixed:=by kernel_rfl
 f119:=Tryz.func397.trans (congrArg some (by kernel_rfl))
 f137:=Tryz.func42.trans (congrArg some (by kernel_rfl))
 f151:=Tryz.func361.trans (congrArg some (by kernel_rfl))
 f152:=Tryz.func386.trans (congrArg some (by kernel_rfl))
 f161:=Tryz.func256.trans (congrArg some (by kernel_rfl))
 f197:=Tryz.func140.trans (congrArg some (by kernel_rfl))
 f217:=Tryz.func137.trans (congrArg some (by kernel_rfl))
 f224:=Tryz.func249.trans (congrArg some (by kernel_rfl))
 f225:=Tryz.func248.trans (congrArg some (by kernel_rfl))
 f227:=Tryz.func327.trans (congrArg some (by kernel_rfl))
 f228:=Tryz.func360.trans (congrArg some (by kernel_rfl))
 f231:=Tryz.func326.trans (congrArg some (by kernel_rfl))
 f233:=Tryz.func328.trans (congrArg some (by kernel_rfl))
 f235:=Tryz.func329.trans (congrArg some (by kernel_rfl))
 f260:=Tryz.func247.trans (congrArg some (by kernel_rfl))
 f266:=Tryz.func245.trans (congrArg some (by kernel_rfl))
 t0:=Tryz.underlying0
 a0:=Tryz.isAgg0
 z0:=Tryz.sizeOf0
 v0:=Tryz.zeroValue0
 t3:=Tryz.underlying3
 a3:=Tryz.isAgg3
 z3:=Tryz.sizeOf3
 v3:=Tryz.zeroValue3
 t4:=Tryz.underlying4
 a4:=Tryz.isAgg4
 z4:=Tryz.sizeOf4
 v4:=Tryz.zeroValue4
 t5:=Tryz.underlying5
 a5:=Tryz.isAgg5
 z5:=Tryz.sizeOf5
 v5:=Tryz.zeroValue5
 t9:=Tryz.underlying9
 a9:=Tryz.isAgg9
 z9:=Tryz.sizeOf9
 v9:=Tryz.zeroValue9
 t21:=Tryz.underlying21
 a21:=Tryz.isAgg21
 z21:=Tryz.sizeOf21
 v21:=Tryz.zeroValue21
 t46:=Tryz.underlying101
 a46:=Tryz.isAgg101
 z46:=Tryz.sizeOf101
 v46:=Tryz.zeroValue101
 t105:=Tryz.underlying198
 a105:=Tryz.isAgg198
 z105:=Tryz.sizeOf198
 v105:=Tryz.zeroValue198
 t116:=Tryz.underlying390
 a116:=Tryz.isAgg390
 z116:=Tryz.sizeOf390
 t117:=Tryz.underlying391
 a117:=Tryz.isAgg391
 z117:=Tryz.sizeOf391
 v117:=Tryz.zeroValue391
 t119:=Tryz.underlying383
 a119:=Tryz.isAgg383
 z119:=Tryz.sizeOf383
 t124:=Tryz.underlying394
 a124:=Tryz.isAgg394
 z124:=Tryz.sizeOf394
 v124:=Tryz.zeroValue394
 t138:=Tryz.underlying385
 a138:=Tryz.isAgg385
 z138:=Tryz.sizeOf385
 v138:=Tryz.zeroValue385
 t139:=Tryz.underlying386
 a139:=Tryz.isAgg386
 z139:=Tryz.sizeOf386
 v139:=Tryz.zeroValue386
 g3:=by kernel_rfl
 g4:=by kernel_rfl }
theorem trimLeft0 (s:ByteArray) (w:World) :
 Calls Tryz.prog 256 #[.string s,.string ⟨#[48]⟩] w fun e w'=>e=.returned (.string ⟨(s.data.toList.dropWhile (·==48)).toArray⟩)∧w'=w :=
 Any.strings_TrimLeft_one Tryz.laysTrimLeft s 48 (by decide) w
theorem norm_lower {l:List Nat} (hn:Norm l) (hne:l≠[]):4294967296 ^ (l.length-1)≤natV l:=by
 obtain ⟨b,x,rfl⟩:∃ b x,l=b++[x]:=⟨l.dropLast,l.getLast hne,(List.dropLast_concat_getLast hne).symm⟩
 have hx:x≠0:=by have:=hn hne; simpa using this
 rw [natV_snoc,List.length_append,List.length_singleton,Nat.add_sub_cancel]
 have:=Nat.mul_le_mul_left (4294967296 ^ b.length) (show 1≤x by omega)
 omega
theorem norm_len {l:List Nat} (hn:Norm l) {k:Nat} (h:natV l<4294967296 ^ k):l.length≤k:=by
 by_cases hne:l=[]
 ·subst hne; simp
 ·have h1:=norm_lower hn hne
  have h2:4294967296 ^ (l.length-1)<4294967296 ^ k:=Nat.lt_of_le_of_lt h1 h
  have h3:=(Nat.pow_lt_pow_iff_right (show 1<4294967296 by decide)).1 h2
  omega
theorem norm_zero {l:List Nat} (hn:Norm l) (h:natV l=0):l=[]:=by
 apply Classical.byContradiction
 intro hne
 have h1:=norm_lower hn hne
 have h2:0<4294967296 ^ (l.length-1):=Nat.pow_pos (by decide)
 omega
theorem trim_digits (xs:List Int) (h:∀ d∈xs,0≤d∧d≤9):(txtW xs).data.toList.dropWhile (·==48)=(txtW (xs.dropWhile fun d=>decide (d=0))).data.toList:=by
 unfold txtW
 rw [strOfNums_data,strOfNums_data]
 unfold dig8
 induction xs with
 | nil=>rfl
 | cons x xs ih =>
  have hx:=h x (by simp)
  have ih':=ih fun d hd=>h d (by simp [hd])
  rw [List.map_cons,List.map_cons,List.dropWhile_cons,List.dropWhile_cons]
  by_cases e:x=0
  ·subst e
   rw [if_pos (by decide),if_pos (by decide)]; exact ih'
  ·have e2:(UInt8.ofNat (48+x).toNat==48)=false:=by
    rw [beq_eq_false_iff_ne]
    intro q
    have:=congrArg UInt8.toNat q
    simp [UInt8.toNat_ofNat'] at this
    omega
   rw [if_neg (by rw [e2]; decide),if_neg (by simp [e]),List.map_cons,List.map_cons]
theorem txtW_empty (E:List Int):(⟨(txtW E).data⟩:ByteArray).toList.isEmpty=E.isEmpty:=by
 rw [Lib.toList_data]
 show (txtW E).data.toList.isEmpty=_
 unfold txtW
 rw [strOfNums_data]
 cases E<;>rfl
theorem conv_empty (B:Nat) (w:World) (v:Value) (h:OwnV 5 B w v (byteV [])):(convert 34 9 v).run Tryz.prog w=.ok (.string (txtW [])) w:=by
 rcases h.2 with ⟨rfl,hn⟩ | ⟨g,cap,cur,rfl,hb,hg,hn,hm,hs,ht⟩
 ·exact run_convert_bytes_nil w 34 5 oneBytes.ht uByte 0 0 9 uStr
 ·exact run_convert_bytes_arg (P:=Tryz.prog) w 34 5 oneBytes.ht uByte g 0 0 cap [] rfl (fun i hi=>absurd hi (Nat.not_lt_zero _)) 9 uStr
theorem conv_any (B:Nat) (w:World) (v:Value) (xs:List Int) (h:OwnV 5 B w v (byteV xs)):(convert 34 9 v).run Tryz.prog w=.ok (.string (txtW xs)) w:=by
 by_cases hx:xs=[]
 ·subst hx; exact conv_empty B w v h
 ·exact conv_bytes B w v xs h (by have:=List.length_pos_iff.2 hx; omega)
theorem run_makeV0 {T E:TypeId} {z:Value} {b:Nat} (oc:OneCell T E z b) (n:Nat) (w:World) (hn:n≤4398046511104) :
 ∃ v w',(Instr.makeSlice T (.int .i64 0) (.int .i64 (n:Int))).run Tryz.prog w=.ok v w'∧OwnV E w.heap.size w' v []∧Below w.heap.size w w':=by
 obtain ⟨i,hi,hz0,hz1,hz2⟩:=info_parts oc.hi
 have hb:=oc.hb
 obtain ⟨w',hrun,r1,r2⟩:=run_make_own (P:=Tryz.prog) w w.heap.size T E i z 1 oc.ht hi hz0 hz1 .i64 .i64 n (by
  rw [hz2]
  calc b*n≤32*4398046511104:=Nat.mul_le_mul hb (by omega)
   _≤_:=by decide) (by unfold maxLen; omega) (Nat.le_refl _)
 exact ⟨_,w',hrun,r1,(Below.refl _ _).grown r2 (Nat.le_refl _) (by intro k hk; cases hk)⟩
theorem ValsAt.uniq {w:World} {v:Value} {xs ys:List Value} (h:ValsAt w v xs) (k:ValsAt w v ys):xs=ys:=by
 have e:xs.length=ys.length:=by
  obtain ⟨a,cap,e,_⟩:=h
  obtain ⟨b,cap',e',_⟩:=k
  rw [e] at e'; injection e'
 refine List.ext_getElem e fun i h1 h2=>?_
 have c1:=h.cell i h1
 rw [k.cell i h2] at c1
 exact (Option.some.inj c1).symm
theorem limbs_inj {l m:List Nat} (h:limbs l=limbs m):l=m:=by
 unfold limbs at h
 refine (List.map_inj_right ?_).1 h
 intro x y e
 injection e with _ e
 exact Int.ofNat.inj e
noncomputable def valN (w:World) (v:Value):Nat:=open Classical in if h:∃ l,LimbsAt w v l then natV h.choose else 0
theorem valN_eq {w:World} {v:Value} {l:List Nat} (h:LimbsAt w v l):valN w v=natV l:=by
 unfold valN
 have he:∃ l,LimbsAt w v l:=⟨l,h⟩
 rw [dif_pos he,limbs_inj (he.choose_spec.uniq h)]
def Off (v:Value) (n:Nat) (u:Value):Prop:=∀ i,i<n→u.ownBlock≠some (valAt v i).block
theorem wpl_appO {T E:TypeId} {z:Value} {b:Nat} (oc:OneCell T E z b) {w:World} {ops:Array Oper} {rest:List Oper} {o:Oper} {a:Act} {Q:Exit→Act→World→Prop} (hgd:o.guard=none) (s x:Operand)
 (ho:o.op=.call { callee:=.builtin .append,args:=#[s,x],argTypes:=#[T,T] })
 (B:Nat) (v:Value) (xs:List Value) (y:Value) (hy:y.oneCell'=true) (hown:OwnV E B w v xs) (hs:a.eval s=v) (hx:a.eval x=.slice (some ⟨w.heap.size,0,none⟩) 1 1)
 (hlen:xs.length<4398046511104) (hB:B≤w.heap.size) (av:Value) (l:List Nat) (hav:LimbsAt w av l) (hoff:Off av l.length v)
 (h:∀ v' w',OwnV E B w' v' (xs++[y])→Below B w w'→LimbsAt w' av l→Off av l.length v'→wpList Tryz.prog ops Q rest (a.put o.dst v') w') :
 wpList Tryz.prog ops Q (o::rest) a (w.alloc (.cells #[y] E)):=by
 refine wpList_plain hgd fun K hK=>?_
 obtain ⟨v',w',hr,h2,h3⟩:=run_app oc (w.alloc (.cells #[y] E)) B o.type v _ (hown.alloc _) ⟨w.heap.size,0,none⟩ 1 [y] (by simp) (cell_one_new _ _ _) (by simp [hy]) (by simp; omega) (by simp; omega)
 unfold Oper.wp execOp
 simp only [ho,resolve,invoke,builtin,Sem.run_bind,Sem.run_pure,Result.andThen_ok,List.map_toArray,List.map_cons,List.map_nil,hs,hx]
 rw [show ([y]:List Value).length=1 from rfl] at hr
 rw [hr]
 have hal:∀ row,w.grownBy (w.alloc (.cells #[y] E)) row:=fun row=>World.grownBy_alloc w _ row
 have hcells:∀ row,w.grownBy w' row→(row=none∨row=v.ownBlock)→LimbsAt w' av l:=fun row hg hrow=>by
  refine ValsAt.cells_eq hav fun i hi=>?_
  rw [limbs_len] at hi
  have hlt:=World.block_lt_of_cell? _ _ (hav.cell i hi)
  have hne:some (valAt av i).block≠row:=by
   rcases hrow with rfl | rfl
   ·simp
   ·exact fun e=>hoff i hi e.symm
  exact World.cell?_of_block (hg.block (valAt av i).block hlt hne)
 rcases h3 with ⟨hroom,hg⟩ | ⟨hk,hg⟩
 ·have hg2:=(hal v.ownBlock).trans hg
  refine hK _ _ (h v' w' h2 ((Below.refl _ _).grown hg2 hB (fun k hk=>(hown.lt k hk).1)) (hcells _ hg2 (.inr rfl)) fun i hi=>?_)
  obtain ⟨va,vn,vc,hv⟩:=hown.shape
  obtain ⟨va',vn',vc',hv'⟩:=h2.shape
  rw [ownBlock_of_room hv hv' hroom]
  exact hoff i hi
 ·have hg2:=(hal none).trans hg
  refine hK _ _ (h v' w' h2 ((Below.refl _ _).grown hg2 hB (by intro k hk; cases hk)) (hcells _ hg2 (.inl rfl)) fun i hi=>?_)
  have hlt:=World.block_lt_of_cell? _ _ (hav.cell i hi)
  rw [hk]
  intro e
  injection e with e
  simp at e
  omega
theorem nat_text (v:Value) (l:List Nat) (w:World) (h:LimbsAt w v l) (hl:Limbs l) (hll:l.length≤100000) :
 Calls Tryz.prog 156 #[v] w (Ret1 (fun x _=>x=.string (txtW (decL (natV l)))) w):=by
 obtain ⟨N,hN⟩:∃ N,natV l=N:=⟨_,rfl⟩
 have hNl:N<4294967296 ^ l.length:=by rw [← hN]; exact natV_lt hl
 have hDL:(digA N).length≤9*(2*l.length):=digL_len N N _ (by
  refine Nat.lt_of_lt_of_le hNl ?_
  rw [Nat.pow_mul]
  exact Nat.pow_le_pow_left (by decide) _)
 obtain ⟨L,hL⟩:∃ L,l.length=L:=⟨_,rfl⟩
 rw [hL] at hNl hDL hll
 have hL2:(digA N).length≤2000000:=by omega
 rw [hN]
 replace h:=Hd h
 replace hl:=Hd hl
 replace hN:=Hd hN
 replace hL:=Hd hL
 replace hNl:=Hd hNl
 go_enter Tryz.func156,Tryz.ntmps156
 go_wp2_with fail
 refine (norm_any v l w h.out).mono ?_
 rintro e w' ⟨m0,hm0,rfl,hn0,hv0,rfl⟩
 have ha0:=h.out.cut hm0
 have hlm0:=limbs_take_mem hl.out m0
 replace ha0:=Hd ha0
 replace hlm0:=Hd hlm0
 replace hn0:=Hd hn0
 replace hv0:=Hd hv0
 obtain ⟨a0,hqa⟩:∃ a,cutAt v m0=a:=⟨_,rfl⟩
 rw [hqa] at ha0 ⊢
 replace hqa:=Hd hqa
 go_wp2_with fail
 go_loopw [0,3] (fun av dv wr=>∃ (u x:Value) (m:List Nat) (D:List Int),u=av∧x=dv∧LimbsAt wr u m∧Limbs m∧Norm m∧natV m<4294967296 ^ L∧OwnV 5 w.heap.size wr x (byteV D)∧Off u m.length x∧Below w.heap.size w wr∧D++digA (natV m)=digA N) (fun av _ wr=>valN wr av)
 case atStart=>exact ⟨_,_,_,[],rfl,rfl,ha0.out,hlm0.out,hn0.out,by rw [hv0.out,hN.out]; exact hNl.out,OwnV.nil _ _ _,(fun i _=>by simp [Value.ownBlock]),Below.refl _ _,by rw [hv0.out,hN.out]; rfl⟩
 case round =>
  obtain ⟨u,x,m,D,rfl,rfl,hA,hlm,hnm,hml,hD,hoff,hB,hdig⟩:=hrel
  obtain ⟨wo,rfl⟩:∃ wo:World,wo=wr:=⟨_,rfl⟩
  have lA:=hA.len
  by_cases hz:m=[]
  ·subst hz
   have hDe:D=digA N:=by
    rw [show natV []=0 from rfl,digA_zero,List.append_nil] at hdig; exact hdig
   have hDsy:=digA_syms N
   have hlD:(byteV D).length=D.length:=by simp [byteV,dig8]
   have lD:=ValsAt.len oneBytes hD.at 3
   rw [hlD] at lD
   have hDb:D.length≤2000000:=by rw [hDe]; exact hL2
   obtain ⟨q,hq⟩:∃ q,D.length=q:=⟨_,rfl⟩
   rw [hq] at lD hDb
   replace hA:=Hd hA
   replace hlm:=Hd hlm
   replace hnm:=Hd hnm
   replace hml:=Hd hml
   replace hoff:=Hd hoff
   replace hdig:=Hd hdig
   replace hDe:=Hd hDe
   replace hDsy:=Hd hDsy
   replace hlD:=Hd hlD
   replace hq:=Hd hq
   replace hD:=Hd hD
   obtain ⟨ov,w2,mk,ho2,b2⟩:=run_makeV0 oneBytes q wo (by omega)
   have hD2:=hD.out.at
   replace ho2:=Hd ho2
   replace hD2:=Hd hD2
   go_wp2_with fail
   go_loopw [5,6] (fun ov iv wr=>∃ (i:Nat) (u:Value),u=ov∧i≤q∧iv=.int .i64 ((i:Int)-1)∧OwnV 5 wo.heap.size wr u (byteV (D.drop i).reverse)∧Below wo.heap.size wo wr) (fun _ iv _=>(intOf iv+1).toNat)
   case atStart=>exact ⟨q,_,rfl,Nat.le_refl _,rfl,by rw [List.drop_of_length_le (by rw [hq.out]; exact Nat.le_refl _)]; exact ho2.out,b2⟩
   case round =>
    clear ho2 mk
    obtain ⟨i,ou,rfl,hi,rfl,hO,hC⟩:=hrel
    obtain ⟨wi,rfl⟩:∃ wo:World,wo=wr:=⟨_,rfl⟩
    by_cases hi0:i=0
    ·subst hi0
     rw [List.drop_zero] at hO
     have hc:=conv_any wo.heap.size wi ou D.reverse hO
     have htr:=trimLeft0 (txtW D.reverse) wi
     rw [trim_digits D.reverse (fun d hd=>by rw [hDe.out] at hd; exact hDsy.out d (List.mem_reverse.1 hd))] at htr
     obtain ⟨E,hE⟩:∃ E,D.reverse.dropWhile (fun d=>decide (d=0))=E:=⟨_,rfl⟩
     rw [hE] at htr
     have hbb:=Below.step hB hC
     have di:decide ((0:Int)≤((0:Nat):Int)-1)=false:=by decide
     obtain ⟨S,hS⟩:∃ S,txtW D.reverse=S:=⟨_,rfl⟩
     rw [hS] at hc htr
     have hdec:decL N=(match D.reverse.dropWhile (fun d=>decide (d=0)) with | []=>[0] | l=>l):=by rw [hDe.out]; rfl
     rw [hE] at hdec
     have hem:=txtW_empty E
     replace hdec:=Hd hdec
     replace hE:=Hd hE
     replace hS:=Hd hS
     replace htr:=Hd htr
     replace hO:=Hd hO
     obtain ⟨oa,on,oc,rfl⟩:=hO.out.shape
     go_wp2_with fail
     refine htr.out.mono ?_
     rintro e w' ⟨rfl,rfl⟩
     cases E with
     | nil =>
      have hem2:({ data:=(txtW []).data }:ByteArray).toList.isEmpty=true:=hem
      go_wp2
      go_ret
      exact ⟨_,rfl,hbb,by rw [hdec.out]; rfl⟩
     | cons d E =>
      have hem2:({ data:=(txtW (d::E)).data }:ByteArray).toList.isEmpty=false:=hem
      go_wp2
      go_ret
      exact ⟨_,rfl,hbb,by rw [hdec.out]; rfl⟩
    ·obtain ⟨j,rfl⟩:∃ j,i=j+1:=⟨i-1,by omega⟩
     have e1:((j+1:Nat):Int)-1=(j:Int):=by omega
     rw [e1]
     clear e1
     have hX:=hD2.out.below hC
     have hjl:j<(byteV D).length:=by rw [hlD.out,hq.out]; omega
     have iX:=fun w'=>hX.idx oneBytes j hjl w'
     have cX:=hX.cell j hjl
     have hjD:j<D.length:=by rw [hq.out]; omega
     have hbe:(byteV D)[j]'hjl=.int .u8 (48+D[j]):=by simp [byteV,dig8]
     rw [hbe] at cX
     have hrev:(D.drop j).reverse=(D.drop (j+1)).reverse++[D[j]]:=by rw [List.drop_eq_getElem_cons hjD,List.reverse_cons]
     have hbv:=byteV_snoc (D.drop (j+1)).reverse D[j]
     rw [← hrev] at hbv
     obtain ⟨y,hy⟩:∃ y,D[j]'hjD=y:=⟨_,rfl⟩
     rw [hy] at cX hbv
     obtain ⟨p,hp⟩:∃ p,valAt x j=p:=⟨_,rfl⟩
     rw [hp] at iX cX
     have hlb:(byteV (D.drop (j+1)).reverse).length<4398046511104:=by simp [byteV,dig8]; rw [hq.out]; omega
     have hCs:=hC.size
     have di:decide ((0:Int)≤(j:Int))=true:=decide_eq_true (by omega)
     replace hX:=Hd hX
     replace hbe:=Hd hbe
     replace hrev:=Hd hrev
     replace hbv:=Hd hbv
     replace hy:=Hd hy
     replace hp:=Hd hp
     go_wp2_with (at_builtin; go_loud (refine wpl_appV oneBytes rfl _ _ rfl wo.heap.size ou _ (.int .u8 (48+y)) rfl hO rfl rfl hlb hCs ?_))
     intro v' w7 ho7 b7
     rw [← hbv.out] at ho7
     obtain ⟨v7a,v7b,v7c,rfl⟩:=ho7.shape
     replace ho7:=Hd ho7
     clear hO
     go_wp2
     go_roundw
     case measure=>simp [intOf]
     case rel=>exact ⟨j,_,rfl,by omega,by go_num,ho7.out,hC.trans b7⟩
  ·have hm1:1≤m.length:=by have:=List.length_pos_iff.2 hz; omega
   have hmL:m.length≤L:=norm_len hnm hml
   have hpos:natV m≠0:=fun e=>hz (norm_zero hnm e)
   have hov:Calls Tryz.prog 148 #[u,.int .u32 1000000000] wo (Ret3 (fun x y z w'=>NumIs wo.heap.size w' x (natV m/1000000000)∧y=.int .u32 ((natV m%1000000000:Nat):Int)∧z=.nilIface) wo):=nat_over 1000000000 u m wo hA hlm (by omega) (by decide) (by decide)
   have hval:=valN_eq hA
   have hdp:=digA_pos hpos
   have hql:natV m/1000000000<4294967296 ^ L:=Nat.lt_of_le_of_lt (Nat.div_le_self _ _) hml
   have hqs:natV m/1000000000<natV m:=Nat.div_lt_self (by omega) (by decide)
   have hrl:natV m%1000000000<1000000000:=Nat.mod_lt _ (by decide)
   have hlenD:D.length+9≤2000000:=by
    have:=congrArg List.length hdig
    rw [hdp,List.length_append,List.length_append,digN_len] at this
    omega
   obtain ⟨V,hV⟩:∃ V,natV m=V:=⟨_,rfl⟩
   rw [hV] at hov hval hdp hql hqs hrl hdig
   rw [hdp] at hdig
   obtain ⟨qv,hqv⟩:∃ q,V/1000000000=q:=⟨_,rfl⟩
   obtain ⟨rv,hrv⟩:∃ r,V%1000000000=r:=⟨_,rfl⟩
   rw [hqv] at hov hql hqs hdig
   rw [hrv] at hov hrl hdig
   have hm2:¬ m.length=0:=by omega
   obtain ⟨ml,hmlen⟩:∃ k,m.length=k:=⟨_,rfl⟩
   rw [hmlen] at lA hm1 hm2
   replace hmlen:=Hd hmlen
   replace hA:=Hd hA
   replace hlm:=Hd hlm
   replace hnm:=Hd hnm
   replace hml:=Hd hml
   replace hoff:=Hd hoff
   replace hdig:=Hd hdig
   replace hdp:=Hd hdp
   replace hql:=Hd hql
   replace hV:=Hd hV
   replace hqv:=Hd hqv
   replace hrv:=Hd hrv
   replace hval:=Hd hval
   replace hov:=Hd hov
   replace hD:=Hd hD
   clear hz hpos
   go_wp2_with fail
   refine hov.out.mono ?_
   rintro e w3 ⟨av,_,_,rfl,b3,⟨l3,ho3,hl3,hn3,hv3⟩,rfl,rfl⟩
   have hD3:=hD.out.below b3
   have b03:=Below.step hB b3
   have hoff3:Off av l3.length x:=fun i hi e=>by
    have h1:=ho3.blkB i hi
    have h2:=hD.out.lt _ e
    omega
   have hA3:=ho3.at
   replace hA3:=Hd hA3
   replace ho3:=Hd ho3
   replace hl3:=Hd hl3
   replace hn3:=Hd hn3
   replace hv3:=Hd hv3
   replace hoff3:=Hd hoff3
   replace hD3:=Hd hD3
   go_wp2_with fail
   go_loopw [3,4,19] (fun dv rv' jv wr=>∃ (j:Nat) (y:Value),y=dv∧j≤9∧jv=.int .i64 j∧rv'=.int .u32 ((rv/10 ^ j:Nat):Int)∧OwnV 5 w.heap.size wr y (byteV (D++digN rv j))∧LimbsAt wr av l3∧Off av l3.length y∧Below w.heap.size w wr) (fun _ _ jv _=>9-(intOf jv).toNat)
   case atStart=>exact ⟨0,_,rfl,by omega,rfl,by simp,by simpa [digN] using hD3.out,hA3.out,hoff3.out,b03⟩
   case round =>
    clear hD3
    obtain ⟨j,y,rfl,hj,rfl,rfl,hO,hAj,hOf,hBj⟩:=hrel
    obtain ⟨wi,rfl⟩:∃ wo:World,wo=wr:=⟨_,rfl⟩
    by_cases hj9:j<9
    ·have dj:decide ((j:Int)<9)=true:=decide_eq_true (by omega)
     have hr10:rv/10 ^ j/10=rv/10 ^ (j+1):=by rw [Nat.div_div_eq_div_mul,Nat.pow_succ]
     have hsn:=digN_succ rv j
     have hbv:=byteV_snoc (D++digN rv j) ((rv/10 ^ j%10:Nat):Int)
     rw [List.append_assoc,← hsn] at hbv
     have hRl:rv/10 ^ j<4294967296:=Nat.lt_of_le_of_lt (Nat.div_le_self _ _) (by omega)
     obtain ⟨R,hR⟩:∃ R,rv/10 ^ j=R:=⟨_,rfl⟩
     rw [hR] at hr10 hbv hRl ⊢
     have hd10:=Nat.mod_lt R (show 0<10 by decide)
     obtain ⟨d,hd⟩:∃ d,R%10=d:=⟨_,rfl⟩
     rw [hd] at hbv hd10
     obtain ⟨R2,hR2⟩:∃ R2,R/10=R2:=⟨_,rfl⟩
     rw [hR2] at hr10
     have f1:(R:Int).tmod 10=(d:Int):=by rw [Int.tmod_eq_emod_of_nonneg (by omega)]; omega
     have f2:(R:Int)%10=(d:Int):=by omega
     have f3:(R:Int).tdiv 10=(R2:Int):=by rw [Int.tdiv_eq_ediv_of_nonneg (by omega)]; omega
     have f4:(R:Int)/10=(R2:Int):=by omega
     have hlb:(byteV (D++digN rv j)).length<4398046511104:=by simp [byteV,dig8,digN]; omega
     have hBs:=hBj.size
     have hR2l:R2<4294967296:=by omega
     replace hr10:=Hd hr10
     replace hsn:=Hd hsn
     replace hbv:=Hd hbv
     replace hR:=Hd hR
     replace hd:=Hd hd
     replace hR2:=Hd hR2
     go_wp2_with (at_builtin; go_loud (refine wpl_appO oneBytes rfl _ _ rfl w.heap.size y _ (.int .u8 (48+(d:Int))) rfl hO rfl rfl hlb hBs av l3 hAj hOf ?_))
     intro v' w7 ho7 b7 hA7 hOf7
     rw [← hbv.out] at ho7
     obtain ⟨v7a,v7b,v7c,rfl⟩:=ho7.shape
     replace ho7:=Hd ho7
     replace hA7:=Hd hA7
     replace hOf7:=Hd hOf7
     replace hAj:=Hd hAj
     replace hOf:=Hd hOf
     clear hO
     go_wp2
     go_roundw
     case measure=>simp [intOf]; omega
     case rel=>exact ⟨j+1,_,rfl,by omega,by go_num,by rw [hr10.out],ho7.out,hA7.out,hOf7.out,hBj.trans b7⟩
    ·obtain rfl:j=9:=by omega
     have hv9:=valN_eq hAj
     replace hv9:=Hd hv9
     replace hO:=Hd hO
     replace hAj:=Hd hAj
     replace hOf:=Hd hOf
     go_wp2
     go_roundw
     case measure=>rw [hv9.out,hval.out,hv3.out]; exact hqs
     case rel=>exact ⟨_,_,l3,D++digN rv 9,rfl,rfl,hAj.out,hl3.out,hn3.out,by rw [hv3.out]; exact hql.out,hO.out,hOf.out,hBj,by rw [hv3.out,List.append_assoc]; exact hdig.out⟩
end Go.Proofs.YtindfaehjoileaaGreatDoor
namespace Go.Proofs.YtindfaehjoileaaGreatDoor
open Go.RowKit
set_option maxRecDepth 100000
set_option maxHeartbeats 8000000
theorem add_mul_lt {x y z c:Nat} (hx:x<4294967296) (hy:y<4294967296) (hz:z<4294967296) (hc:c<4294967296):x*y+z+c<18446744073709551616:=by
 have h1:x*y≤4294967295*4294967295:=Nat.mul_le_mul (by omega) (by omega)
 omega
theorem limbs_setM {o:List Nat} {i x:Nat} (h:Limbs o) (hx:x<4294967296):Limbs (o.set i x):=fun y hy=>by
 rcases List.mem_or_eq_of_mem_set hy with hy | rfl
 ·exact h y hy
 ·exact hx
def ZeroFrom (k:Nat) (o:List Nat):Prop:=∀ j,k≤j→o.getD j 0=0
theorem nat_mul (v u:Value) (l m:List Nat) (w:World) (h:LimbsAt w v l) (k:LimbsAt w u m) (hl:Limbs l) (hm:Limbs m) (hll:l.length≤1000000) (hml:m.length≤1000000) :
 Calls Tryz.prog 252 #[v,u] w (Ret1 (fun x w'=>NumIs w.heap.size w' x (natV l*natV m)) w):=by
 have l1:=h.len
 have l2:=k.len
 obtain ⟨n,hn⟩:∃ n,l.length=n:=⟨_,rfl⟩
 obtain ⟨q,hq⟩:∃ q,m.length=q:=⟨_,rfl⟩
 have hnb:n≤1000000:=by omega
 have hqb:q≤1000000:=by omega
 rw [hn] at l1
 rw [hq] at l2
 obtain ⟨ov,w1,mk,ho,b1⟩:=run_makeNat ((n:Int)+(q:Int)) (n+q) w (by omega) (by omega)
 replace h:=Hd h
 replace k:=Hd k
 replace hl:=Hd hl
 replace hm:=Hd hm
 replace ho:=Hd ho
 replace hn:=Hd hn
 replace hq:=Hd hq
 go_enter Tryz.func252,Tryz.ntmps252
 go_wp2_with fail
 go_loopw [20] (fun iv wr=>∃ (i:Nat) (o:List Nat),i≤n∧iv=.int .i64 i∧o.length=n+q∧Limbs o∧ZeroFrom (i+q) o∧OwnN w.heap.size wr ov o∧Below w.heap.size w wr∧natV o=natV (l.take i)*natV m) (fun iv _=>n-(intOf iv).toNat)
 case atStart=>exact ⟨0,_,Nat.zero_le _,rfl,by simp,(fun x hx=>by rw [List.eq_of_mem_replicate hx]; decide),(fun j _=>by simp [List.getD,List.getElem?_replicate]; split<;>rfl),ho.out,b1,by rw [natV_zeros]; simp [natV]⟩
 case round =>
  clear mk
  obtain ⟨i,o,hi,rfl,hol,hlo,hz,hO,hB,hv⟩:=hrel
  obtain ⟨wo,rfl⟩:∃ wo:World,wo=wr:=⟨_,rfl⟩
  by_cases hin:i<n
  ·have di:decide ((i:Int)<(n:Int))=true:=decide_eq_true (by omega)
   have hA:=h.out.below hB
   have iA:=fun w'=>hA.idx i (by rw [hn.out]; exact hin) w'
   have cA:=hA.cell i (by rw [hn.out]; exact hin)
   have xl:=limb_getD hl.out i
   have hvA:=natV_take_succ l i
   obtain ⟨x,hx⟩:∃ x,l.getD i 0=x:=⟨_,rfl⟩
   rw [hx] at cA xl hvA
   obtain ⟨pa,hpa⟩:∃ p,valAt v i=p:=⟨_,rfl⟩
   rw [hpa] at iA cA
   have hz0:∀ j,i+q≤j→o.getD j 0=0:=hz
   replace hA:=Hd hA
   replace hpa:=Hd hpa
   replace hvA:=Hd hvA
   replace hx:=Hd hx
   replace hv:=Hd hv
   replace hz:=Hd hz
   replace hlo:=Hd hlo
   replace hO:=Hd hO
   replace hol:=Hd hol
   replace hz0:=Hd hz0
   go_wp2_with fail
   go_loopw [8,27] (fun cv jv wr=>∃ (j c:Nat) (p:List Nat),j≤q∧jv=.int .i64 j∧cv=.int .u64 (c:Int)∧c<4294967296∧p.length=n+q∧Limbs p∧ZeroFrom (i+q) p∧OwnN w.heap.size wr ov p∧Below w.heap.size w wr∧natV p+4294967296 ^ (i+j)*c=natV o+4294967296 ^ i*x*natV (m.take j)) (fun _ jv _=>q-(intOf jv).toNat)
   case atStart=>exact ⟨0,0,o,Nat.zero_le _,rfl,rfl,by decide,hol.out,hlo.out,hz.out,hO.out,hB,by simp [natV]⟩
   case round =>
    obtain ⟨j,c,p,hj,rfl,rfl,hc,hpl,hlp,hzp,hP,hBp,hvp⟩:=hrel
    obtain ⟨wi,rfl⟩:∃ wo:World,wo=wr:=⟨_,rfl⟩
    by_cases hjq:j<q
    ·have dj:decide ((j:Int)<(q:Int))=true:=decide_eq_true (by omega)
     have hM:=k.out.below hBp
     have iM:=fun w'=>hM.idx j (by rw [hq.out]; exact hjq) w'
     have cM:=hM.cell j (by rw [hq.out]; exact hjq)
     have yl:=limb_getD hm.out j
     have hvB:=natV_take_succ m j
     have iO:∀ w',(Instr.indexAt 129 ov (.int .i64 ((i:Int)+(j:Int)))).run Tryz.prog w'=.ok (.pointer (some (valAt ov (i+j)))) w':=fun w'=>hP.at.idx (i+j) (by rw [hpl]; omega) w'
     have cO:=hP.at.cell (i+j) (by rw [hpl]; omega)
     have fO:=hP.frz (i+j) (by rw [hpl]; omega)
     have zl:=limb_getD hlp (i+j)
     have hpz:p[i+j]'(by rw [hpl]; omega)=p.getD (i+j) 0:=by simp [List.getD,show i+j<p.length by rw [hpl]; omega]
     obtain ⟨y,hy⟩:∃ y,m.getD j 0=y:=⟨_,rfl⟩
     rw [hy] at cM yl hvB
     have hrd:=mul_round (x:=x) (y:=y) (show i+j<p.length by rw [hpl]; omega) hvp
     rw [hpz] at hrd
     obtain ⟨z,hz1⟩:∃ z,p.getD (i+j) 0=z:=⟨_,rfl⟩
     rw [hz1] at cO zl hrd
     have htl:=add_mul_lt xl yl zl hc
     have ht1:((x:Int)*(y:Int)+(z:Int))+(c:Int)=((x*y+z+c:Nat):Int):=by simp
     have ht2:(x:Int)*(y:Int)=((x*y:Nat):Int):=by simp
     have ht3:((x*y:Nat):Int)+(z:Int)=((x*y+z:Nat):Int):=by simp
     have ht4:((x*y+z:Nat):Int)+(c:Int)=((x*y+z+c:Nat):Int):=by simp
     obtain ⟨xy,hxy⟩:∃ t,x*y=t:=⟨_,rfl⟩
     rw [hxy] at htl ht2 ht3 ht4 hrd
     obtain ⟨xyz,hxyz⟩:∃ t,xy+z=t:=⟨_,rfl⟩
     rw [hxyz] at htl ht3 ht4 hrd
     obtain ⟨t,ht⟩:∃ t,xyz+c=t:=⟨_,rfl⟩
     rw [ht] at htl ht4 hrd
     have hset:=hP.set (i+j) (by rw [hpl]; omega) (t%4294967296)
     have hsb:=hP.setBelow hBp (i+j) (by rw [hpl]; omega) (.int .u32 ((t%4294967296:Nat):Int))
     have hlp2:=limbs_setM (i:=i+j) hlp (Nat.mod_lt t (show 0<4294967296 by decide))
     have hzp2:ZeroFrom (i+q) (p.set (i+j) (t%4294967296)):=fun s hs=>by
      have:=hzp s hs
      simp only [List.getD,List.getElem?_set] at this ⊢
      rw [if_neg (by omega)]; exact this
     have hpl2:(p.set (i+j) (t%4294967296)).length=n+q:=by rw [List.length_set,hpl]
     have hc2:t/4294967296<4294967296:=by omega
     have ec:(t:Int)/4294967296=((t/4294967296:Nat):Int):=by omega
     have em:(t:Int)%4294967296=((t%4294967296:Nat):Int):=by omega
     have hfin:natV (p.set (i+j) (t%4294967296))+4294967296 ^ (i+(j+1))*(t/4294967296)=natV o+4294967296 ^ i*x*natV (m.take (j+1)):=by
      rw [hvB,Nat.mul_add,← Nat.add_assoc,← Nat.add_assoc]; exact hrd
     obtain ⟨tl,htl2⟩:∃ a,t%4294967296=a:=⟨_,rfl⟩
     obtain ⟨th,hth⟩:∃ a,t/4294967296=a:=⟨_,rfl⟩
     rw [htl2] at hset hsb hlp2 hzp2 hpl2 em hfin
     rw [hth] at hc2 ec hfin
     obtain ⟨pm,hpm⟩:∃ p,valAt u j=p:=⟨_,rfl⟩
     obtain ⟨po,hpo⟩:∃ p,valAt ov (i+j)=p:=⟨_,rfl⟩
     rw [hpm] at iM cM
     rw [hpo] at iO cO fO hset hsb
     have hxyl:xy<18446744073709551616:=by omega
     have hxyzl:xyz<18446744073709551616:=by omega
     replace hset:=Hd hset
     replace hsb:=Hd hsb
     replace hlp2:=Hd hlp2
     replace hzp2:=Hd hzp2
     replace hpl2:=Hd hpl2
     replace hfin:=Hd hfin
     replace hrd:=Hd hrd
     replace hvp:=Hd hvp
     replace hvB:=Hd hvB
     replace hP:=Hd hP
     replace hlp:=Hd hlp
     replace hzp:=Hd hzp
     replace hpl:=Hd hpl
     replace hpz:=Hd hpz
     replace hM:=Hd hM
     replace hx2:=Hd hxy
     replace hy:=Hd hy
     replace hz1:=Hd hz1
     replace hxyz:=Hd hxyz
     replace ht:=Hd ht
     replace htl2:=Hd htl2
     replace hth:=Hd hth
     replace hpm:=Hd hpm
     replace hpo:=Hd hpo
     clear ht1 hxy
     go_wp2
     go_roundw
     case measure=>simp [intOf]; omega
     case rel=>exact ⟨j+1,th,_,by omega,by go_num,rfl,hc2,hpl2.out,hlp2.out,hzp2.out,hset.out,hsb.out,hfin.out⟩
    ·obtain rfl:j=q:=by omega
     have dj:decide ((j:Int)<(j:Int))=false:=decide_eq_false (by omega)
     have hil:i+j<p.length:=by rw [hpl]; omega
     have iO:∀ w',(Instr.indexAt 129 ov (.int .i64 ((i:Int)+(j:Int)))).run Tryz.prog w'=.ok (.pointer (some (valAt ov (i+j)))) w':=fun w'=>hP.at.idx (i+j) hil w'
     have cO:=hP.at.cell (i+j) hil
     have fO:=hP.frz (i+j) hil
     have hset:=hP.set (i+j) hil c
     have hsb:=hP.setBelow hBp (i+j) hil (.int .u32 (c:Int))
     have hlp2:=limbs_setM (i:=i+j) hlp hc
     have hpl2:(p.set (i+j) c).length=n+j:=by rw [List.length_set,hpl]
     have hzp2:ZeroFrom (i+1+j) (p.set (i+j) c):=fun s hs=>by
      have:=hzp s (by omega)
      simp only [List.getD,List.getElem?_set] at this ⊢
      rw [if_neg (by omega)]; exact this
     have h0:p[i+j]'hil=0:=by
      have:=hzp (i+j) (Nat.le_refl _)
      simpa [List.getD,hil] using this
     have hns:=natV_set hil c
     rw [h0,Nat.mul_zero,Nat.add_zero,hvp,natV_take_all (by rw [hq.out]; exact Nat.le_refl _),hv.out] at hns
     have hfin:natV (p.set (i+j) c)=natV (l.take (i+1))*natV m:=by rw [hns,hvA.out,Nat.add_mul]
     obtain ⟨po,hpo⟩:∃ p,valAt ov (i+j)=p:=⟨_,rfl⟩
     rw [hpo] at iO cO fO hset hsb
     obtain ⟨z,hz1⟩:∃ z,p.getD (i+j) 0=z:=⟨_,rfl⟩
     rw [hz1] at cO
     replace hset:=Hd hset
     replace hsb:=Hd hsb
     replace hlp2:=Hd hlp2
     replace hzp2:=Hd hzp2
     replace hpl2:=Hd hpl2
     replace hfin:=Hd hfin
     replace hvp:=Hd hvp
     replace hns:=Hd hns
     replace hP:=Hd hP
     replace hlp:=Hd hlp
     replace hzp:=Hd hzp
     replace hpl:=Hd hpl
     replace hpo:=Hd hpo
     replace hz1:=Hd hz1
     replace h0:=Hd h0
     go_wp2
     go_roundw
     case measure=>simp [intOf]; omega
     case rel=>exact ⟨i+1,_,by omega,by go_num,hpl2.out,hlp2.out,hzp2.out,hset.out,hsb.out,hfin.out⟩
  ·obtain rfl:i=n:=by omega
   have di:decide ((i:Int)<(i:Int))=false:=decide_eq_false (by omega)
   rw [natV_take_all (by rw [hn.out]; exact Nat.le_refl _)] at hv
   replace hO:=Hd hO
   replace hlo:=Hd hlo
   replace hv:=Hd hv
   replace hz:=Hd hz
   replace hol:=Hd hol
   go_wp2_with fail
   refine (norm_own w.heap.size _ _ _ _ hO.out hlo.out hv.out).mono ?_
   rintro e w' ⟨⟨x,rfl,hx⟩,rfl⟩
   replace hx:=Hd hx
   go_wp2
   go_ret
   exact ⟨_,rfl,hB,hx.out⟩
end Go.Proofs.YtindfaehjoileaaGreatDoor
namespace Go.Proofs.YtindfaehjoileaaGreatDoor
def natL:Nat→List Nat
 | 0=>[]
 | n+1=>(n+1)%4294967296::natL ((n+1)/4294967296)
termination_by n=>n
decreasing_by exact Nat.div_lt_self (by omega) (by decide)
theorem natL_zero:natL 0=[]:=by rw [natL]
theorem natL_pos {n:Nat} (h:n≠0):natL n=n%4294967296::natL (n/4294967296):=by
 cases n with
 | zero=>exact absurd rfl h
 | succ n=>rw [natL]
theorem natL_spec (n:Nat):Limbs (natL n)∧Norm (natL n)∧natV (natL n)=n:=by
 induction n using Nat.strongRecOn with
 | _ n ih =>
  by_cases h:n=0
  ·subst h; rw [natL_zero]; exact ⟨fun x hx=>(by cases hx),fun h=>absurd rfl h,rfl⟩
  ·rw [natL_pos h]
   obtain ⟨h1,h2,h3⟩:=ih (n/4294967296) (Nat.div_lt_self (by omega) (by decide))
   refine ⟨fun x hx=>?_,fun hne=>?_,?_⟩
   ·rcases List.mem_cons.1 hx with rfl | hx
    ·exact Nat.mod_lt _ (by decide)
    ·exact h1 x hx
   ·by_cases hz:natL (n/4294967296)=[]
    ·have hq:n/4294967296=0:=by
      rw [← h3,hz]; rfl
     simp only [hz,List.getLast_singleton]
     omega
    ·rw [List.getLast_cons hz]; exact h2 hz
   ·rw [natV,h3]; omega
theorem natL_of {l:List Nat} (h1:Limbs l) (h2:Norm l):l=natL (natV l):=by
 obtain ⟨a,b,c⟩:=natL_spec (natV l)
 exact norm_unique h1 a h2 b c.symm
def codeN (K:Nat) (T:List Int):Nat:=(List.range T.length).reverse.foldl (fun n i=>n*K+(T.getD i 0).toNat) 0
open Go.RowKit Go.Shelf
attribute [local go_sem] Oper.semAt_some
set_option maxRecDepth 100000
set_option maxHeartbeats 8000000
abbrev Sym4:={ x:Int // 0≤x∧x<4 }
def sym0:Sym4:=⟨0,by decide⟩
def valsS (zs:List Sym4):List Int:=zs.map (·.1)
def bwP (zs:List Sym4) (k:Nat):List (Int×Sym4):=((List.range zs.length).drop k).reverse.map fun (i:Nat)=>((i:Int),zs.getD i sym0)
theorem bwP_len (zs:List Sym4) (k:Nat):(bwP zs k).length=zs.length-k:=by simp [bwP]
theorem bwP_end (zs:List Sym4):bwP zs zs.length=[]:=by simp [bwP]
theorem bwP_step (zs:List Sym4) (k:Nat) (hk:k<zs.length):bwP zs k=bwP zs (k+1)++[((k:Int),zs.getD k sym0)]:=by
 unfold bwP
 rw [List.drop_eq_getElem_cons (by simpa using hk)]
 simp
theorem bwP_pre (zs:List Sym4) (k:Nat):bwP zs k <+: bwP zs 0:=by
 unfold bwP
 rw [List.drop_zero]
 refine List.IsPrefix.map _ ?_
 exact List.reverse_prefix.2 (List.drop_suffix _ _)
theorem valsS_get (zs:List Sym4) (k:Nat) (hk:k<zs.length):(valsS zs)[k]'(by simpa [valsS] using hk)=(zs.getD k sym0).1:=by simp [valsS,List.getD,hk]
def KeepB (n0 Bs:Nat) (W W':World):Prop:=Below n0 W W'∧W'.heap[Bs]?=W.heap[Bs]?
theorem KeepB.refl (n0 Bs:Nat) (W:World):KeepB n0 Bs W W:=⟨Below.refl _ _,rfl⟩
theorem KeepB.trans {n0 Bs:Nat} {A B C:World} (h:KeepB n0 Bs A B) (k:KeepB n0 Bs B C):KeepB n0 Bs A C:=⟨h.1.trans k.1,k.2.trans h.2⟩
def encB (x:Int×Sym4):Array Value:=#[.int .i64 x.1,.int .i64 x.2.1]
theorem backward1_in (F:Fence) (n:Nat) (hF:F.fn 325) (hro:F.round=none) (hn:1≤n) (l Bs n0:Nat) (v:Value) (zs:List Sym4) (J Jx:List (Int×Sym4)→World→Prop)
 (hY:∀ pre x W,J pre W→pre.length<zs.length→YieldAt F (n-1) Tryz.prog l (encB x) W fun e W' =>
   (e=.returned (.bool true)∧J (pre++[x]) W'∧KeepB n0 Bs W W')∨(e=.returned (.bool false)∧Jx (pre++[x]) W'))
 (W:World) (hBs:W.cell? ⟨Bs,0,none⟩=some v) (hv:IntsAt W v (valsS zs)) (hb:∀ i,i<zs.length→(valAt v i).block<n0) (h0:J [] W) :
 CallsIn F n Tryz.prog 325 #[.func (.yield l) #[] #[],.pointer (some ⟨Bs,0,none⟩)] W fun e W'=>(∃ u,e=.returned u) ∧
  ((∃ ys,ys=bwP zs 0∧J ys W')∨(∃ pre,pre <+: bwP zs 0∧Jx pre W')):=by
 have hlen:=hv.len
 have hmax:=hv.len_le
 have hzl:(valsS zs).length=zs.length:=by simp [valsS]
 rw [hzl] at hlen hmax
 obtain ⟨q,hq⟩:∃ q,zs.length=q:=⟨_,rfl⟩
 rw [hq] at hlen hmax
 obtain ⟨a1,a2,a3,rfl⟩:=hv.shape
 replace hv:=Hd hv
 replace hzl:=Hd hzl
 replace hq:=Hd hq
 refine callsIn_of_wp Tryz.func325 rfl hF ?_ hro
 simp only [Tryz.ntmps325,List.size_toArray,List.length_cons,List.length_nil,Nat.reduceAdd,Nat.reduceSub,Array.replicate_succ,Array.replicate_zero,List.push_toArray,List.append_toArray,List.nil_append,List.cons_append]
 gi_wp2
 gi_loopw [3] (fun i wr=>∃ k:Nat,k≤q∧i=.int .i64 ((k:Int)-1)∧J (bwP zs k) wr∧KeepB n0 Bs W wr)
  (fun i _=>(intOf i+1).toNat)
 case atStart=>exact ⟨q,Nat.le_refl _,rfl,by rw [← hq.out,bwP_end]; exact h0,KeepB.refl _ _ _⟩
 case round =>
  obtain ⟨k,hk,rfl,hJs,hnx⟩:=hrel
  by_cases hk0:k=0
  ·subst hk0
   have di:decide ((0:Int)≤((0:Nat):Int)-1)=false:=by decide
   replace hJs:=Hd hJs
   gi_wp2
   go_end0
   exact ⟨⟨_,rfl⟩,.inl ⟨_,rfl,hJs.out⟩⟩
  ·obtain ⟨j,rfl⟩:∃ j,k=j+1:=⟨k-1,by omega⟩
   have e1:((j+1:Nat):Int)-1=(j:Int):=by omega
   rw [e1]
   clear e1
   have di:decide ((0:Int)≤(j:Int))=true:=decide_eq_true (by omega)
   have cB:=(World.cell?_of_block (a:=⟨Bs,0,none⟩) hnx.2).trans hBs
   have hjl:j<(valsS zs).length:=by rw [hzl.out,hq.out]; omega
   have hjz:j<zs.length:=by rw [hq.out]; omega
   have i1:=fun w'=>hv.out.idx j hjl w'
   have c1:=(hnx.1.cell (hb j hjz)).trans (hv.out.cell j hjl)
   rw [valsS_get zs j hjz] at c1
   have ht:=Hd (bwP_step zs j hjz)
   obtain ⟨x,hx⟩:∃ x,zs.getD j sym0=x:=⟨_,rfl⟩
   rw [hx] at c1 ht
   obtain ⟨p,hp⟩:∃ p,valAt (.slice a1 a2 a3) j=p:=⟨_,rfl⟩
   rw [hp] at i1 c1
   replace hx:=Hd hx
   replace hp:=Hd hp
   obtain ⟨fn,tmps,assign,body,hy,hR⟩:=hY _ ((j:Int),x) wr hJs (by rw [bwP_len,hq.out]; omega)
   unfold encB at hy
   dsimp only at hy
   replace hJs:=Hd hJs
   clear hjl hjz
   gi_wp2
   refine hR.mono ?_
   rintro e W3 (⟨rfl,hJ3,hk3⟩ | ⟨rfl,hJx3⟩)
   ·replace hJ3:=Hd hJ3
    gi_wp2
    go_roundw
    case rel=>exact ⟨j,by omega,by go_num,by rw [ht.out]; exact hJ3.out,hnx.trans hk3⟩
    case measure=>simp [intOf]
   ·replace hJx3:=Hd hJx3
    gi_wp2
    refine bodyPost_ret (results_none rfl _ _ _) rfl ?_
    exact ⟨⟨_,rfl⟩,.inr ⟨_,by rw [← ht.out]; exact bwP_pre _ _,hJx3.out⟩⟩
theorem backward_any (a:Option Addr) (n c:Nat) (w:World) :
 Calls Tryz.prog 255 #[.slice a n c] w fun e w'=>e=.returned (.func (.func 325) #[] #[.pointer (some ⟨w.heap.size,0,none⟩)])∧w.alloc (.cells #[.slice a n c] 30)=w':=by
 go_enter Tryz.func255,Tryz.ntmps255
 go_wp2
 go_ret
 exact ⟨rfl,rfl⟩
theorem backward_stops (F:Fence) (n:Nat) (hF:F.fn 325) (hro:F.round=none) (hn:1≤n) (Bs n0:Nat) (v:Value) (zs:List Sym4) (w:World) (hBs:Bs<w.heap.size)
 (hc:w.cell? ⟨Bs,0,none⟩=some v) (hv:IntsAt w v (valsS zs)) (hb:∀ i,i<zs.length→(valAt v i).block<n0) :
 SeqStopsK F n Tryz.prog 325 #[.pointer (some ⟨Bs,0,none⟩)] encB (KeepB n0 Bs) (fun ys=>ys=bwP zs 0) (fun pre=>pre <+: bwP zs 0) zs.length w:=fun l J Jx W hW _ _ hY h0 =>
 backward1_in F n hF hro hn l Bs n0 v zs J Jx hY W ((hW.cell (p:=⟨Bs,0,none⟩) hBs).trans hc) (hv.below hW) hb h0
end Go.Proofs.YtindfaehjoileaaGreatDoor
namespace Go.Proofs.YtindfaehjoileaaGreatDoor
section
variable {P:Program} {ops:Array Oper} {Q:Exit→Act→World→Prop} {md:Region.Mode} {S:World→Prop}
def OnlyN (Q:Exit→Act→World→Prop):Exit→Act→World→Prop
 | .normal,a,w=>Q .normal a w
 | _,_,_=>False
theorem OnlyN.normal {Q:Exit→Act→World→Prop} {a:Act} {w:World} (h:Q .normal a w):OnlyN Q .normal a w:=h
theorem OnlyN.imp {Q:Exit→Act→World→Prop}:∀ (e:Exit) (a:Act) (w:World),OnlyN Q e a w→Q e a w:=fun e a w h=>by
 cases e<;>first | exact h | exact h.elim
theorem noPanic_out (Q:Exit→Act→World→Prop):¬ LetsOut (OnlyN Q):=fun ⟨_,_,h⟩=>h
theorem oper_round {l n:Nat} {o:Oper} {a:Act} {w:World} {K:Act→World→Prop} (hnd:∀ c,o.op≠.defer c) (h:o.wp P a w K Q):o.wpIn (Fence.wide.inRound l) n P a w K Q:=by
 refine ⟨fun _ _=>trivial,?_⟩
 rw [Fence.inRound_round,Oper.semAt_some l a.eval o hnd]
 unfold Oper.wp at h
 generalize (execOp a.eval o).run P w=r at *
 have hd:∀ n:Nat,(Fence.wide.inRound l).depth.isSome=true→1≤n:=fun _ h=>by cases h
 cases r with
 | ok x w' =>
  cases x
  case enter f args=>exact ⟨hd n,CallsIn.inRound l (callsIn_wide.2 h)⟩
  case row r args=>exact ⟨hd n,fun c cs _=>by
   obtain ⟨v,w',q,s⟩:=h c cs
   exact ⟨v,w',q,stepsIn_wide.2 s⟩⟩
  all_goals first | exact h | exact h.elim
 | halt x w'=>cases x<;>exact h
theorem any_round {l n:Nat} (hnd:∀ (i:Nat) (o:Oper),ops[i]?=some o→∀ c,o.op≠.defer c) :
 ∀ (fuel:Nat) (listed:Array Bool) (a:Act) (w:World),wpAny P md ops (OnlyN Q) fuel listed a w→wpAnyIn (Fence.wide.inRound l) n P md ops (OnlyN Q) fuel listed a w
 | 0,_,_,_,h=>h
 | fuel+1,listed,a,w,h=>⟨h.1,fun i hi=>by
  have h2:=h.2 i hi
  unfold wpOp at h2
  unfold wpOpIn
  cases ho:ops[i]? with
  | none=>rw [ho] at h2; exact any_round hnd fuel _ _ _ h2
  | some o =>
   rw [ho] at h2
   simp only at h2 ⊢
   split
   ·rename_i hw
    rw [if_pos hw] at h2
    rcases h2 with h2 | ⟨_,h2⟩
    ·exact Oper.wpIn_mono (fun a' w' h'=>any_round hnd fuel _ _ _ h') (oper_round (hnd i o ho) h2)
    ·exact absurd h2 (noPanic_out Q)
   ·rename_i hw
    rw [if_neg hw] at h2
    exact ⟨fun _ _=>trivial,any_round hnd fuel _ _ _ h2⟩⟩
def noDefer (l:List Oper):Bool:=l.all fun o=>match o.op with | .defer _=>false | _=>true
theorem noDefer_spec {l:List Oper} (h:noDefer l=true) (i:Nat) (o:Oper) (ho:l.toArray[i]?=some o) (c:Call):o.op≠.defer c:=by
 intro e
 have hm:o∈l:=by
  rw [List.getElem?_toArray] at ho
  exact List.mem_of_getElem? ho
 have:=List.all_eq_true.1 h o hm
 rw [e] at this
 cases this
theorem wpIn_region_plan {id lr m:Nat} {a:Act} {w:World} {l:List Oper} (S:World→Prop) (n:Nat) (plan:List (Nat×Bool)) (hm:P.follows .mixedOrders=true) (hB:tailB .any l.toArray n plan=true) (hD:noDefer l=true)
 (h:wpHead P l.toArray (OnlyN Q) S (fun a' w'=>wpList P l.toArray (OnlyN Q) (l.drop n) a' w') plan a w.drew):(Code.region id l.toArray true).wpIn (Fence.wide.inRound lr) m P Q a w:=by
 simp only [tailB,Bool.and_eq_true,decide_eq_true_eq] at hB
 obtain ⟨⟨⟨⟨⟨hsel,hn⟩,hs⟩,hc⟩,hlen⟩,hp⟩:=hB
 refine wpIn_mono (Q:=OnlyN Q) ?_ OnlyN.imp
 refine wpIn_region_any hm (any_round (noDefer_spec hD) _ _ _ _ ?_)
 have inv0:HeadInv .any l.toArray n (Array.replicate l.toArray.size false) :=
  ⟨by simp,fun j oj _ hl=>(by rw [getD_replicate_false] at hl; cases hl),fun t _ ht=>getD_in (by simpa using ht) (getD_replicate_false _ _)⟩
 have:=wpAnyT_plan (md:=.any) (Q:=OnlyN Q) (S:=S) rfl hsel hs hc hn (fun _ _ _ h=>h) plan _ a _ inv0 hp h
 rw [hlen,show n+(l.toArray.size-n)=l.toArray.size by omega] at this
 exact wpAny_of_T _ _ _ _ this
end
open Go.RowKit Go.Shelf
attribute [local go_sem] Oper.semAt_some
set_option maxRecDepth 100000
set_option maxHeartbeats 8000000
theorem NumIs.own {B:Nat} {w:World} {v:Value} {n:Nat} (h:NumIs B w v n):OwnN B w v (natL n):=by
 obtain ⟨l,h1,h2,h3,h4⟩:=h
 rw [← h4,← natL_of h2 h3]; exact h1
theorem OwnN.num {B:Nat} {w:World} {v:Value} {n:Nat} (h:OwnN B w v (natL n)):NumIs B w v n:=by
 obtain ⟨a,b,c⟩:=natL_spec n
 exact ⟨_,h,a,b,c⟩
theorem natL_len {n k:Nat} (h:n<4294967296 ^ k):(natL n).length≤k:=by
 obtain ⟨a,b,c⟩:=natL_spec n
 exact norm_len b (by rw [c]; exact h)
def sofar (K:Nat) (pre:List (Int×Sym4)):Nat:=pre.foldl (fun n x=>n*K+x.2.1.toNat) 0
theorem sofar_snoc (K:Nat) (pre:List (Int×Sym4)) (x:Int×Sym4):sofar K (pre++[x])=sofar K pre*K+x.2.1.toNat:=by simp [sofar]
theorem sofar_lt {K:Nat} (hK:K≤4) (pre:List (Int×Sym4)):sofar K pre<4294967296 ^ pre.length:=by
 have key:∀ n (pre:List (Int×Sym4)),pre.length=n→sofar K pre<4294967296 ^ n:=by
  intro n
  induction n with
  | zero=>intro pre h; rw [List.eq_nil_of_length_eq_zero h]; simp [sofar]
  | succ n ih =>
   intro pre h
   have hne:pre≠[]:=by intro e; subst e; simp at h
   obtain ⟨b,x,rfl⟩:∃ b x,pre=b++[x]:=⟨pre.dropLast,pre.getLast hne,(List.dropLast_concat_getLast hne).symm⟩
   have h1:=ih b (by simpa using h)
   rw [sofar_snoc,Nat.pow_succ]
   have h2:=x.2.2
   have h3:sofar K b*K≤sofar K b*4:=Nat.mul_le_mul_left _ hK
   omega
 exact key _ pre rfl
theorem sofar_code {K:Nat} {T:List Int} (zs:List Sym4) (h:valsS zs=T):sofar K (bwP zs 0)=codeN K T:=by
 subst h
 unfold sofar codeN bwP
 rw [List.drop_zero,List.foldl_map]
 have hl:(valsS zs).length=zs.length:=by simp [valsS]
 rw [hl]
 have key:∀ (l:List Nat) (n:Nat),(∀ i∈l,i<zs.length)→l.foldl (fun n i=>n*K+(zs.getD i sym0).1.toNat) n=l.foldl (fun n i=>n*K+((valsS zs).getD i 0).toNat) n:=by
  intro l
  induction l with
  | nil=>intro n _; rfl
  | cons i l ih =>
   intro n hl2
   have hi2:=hl2 i (by simp)
   have e:(valsS zs).getD i 0=(zs.getD i sym0).1:=by rw [← valsS_get zs i hi2]; simp [List.getD,hl,hi2]
   rw [List.foldl_cons,List.foldl_cons,e]
   exact ih _ fun j hj=>hl2 j (by simp [hj])
 exact key _ _ fun i hi=>List.mem_range.1 (List.mem_reverse.1 hi)
theorem syms_sub {K:Nat} {T:List Int} (hK:K≤4) (h:Syms K T):∃ zs:List Sym4,valsS zs=T:=by
 induction T with
 | nil=>exact ⟨[],rfl⟩
 | cons x T ih =>
  obtain ⟨zs,hz⟩:=ih fun y hy=>h y (by simp [hy])
  have hx:=h x (by simp)
  exact ⟨⟨x,by omega⟩::zs,by unfold valsS at *; rw [List.map_cons,hz]⟩
theorem wrapU {n:Nat} (h:n<18446744073709551616):IntKind.u64.wrap (n:Int)=(n:Int):=by rw [IntKind.wrap_u64]; omega
theorem rule_code (r:Nat→Addr) (K R:Nat) (va:Option Addr) (vn vc:Nat) (T:List Int) (w:World) (hg:Glob r w) (h:IntsAt w (.slice va vn vc) T) (hr:RuleOk K R T) (hl:T.length≤256) :
 Calls Tryz.prog 155 #[.agg #[.int .i64 K,.int .i64 R,.slice va vn vc]] w (Ret2 (fun x y w'=>y=.nilIface∧NumIs w.heap.size w' x (codeN K T)) w):=by
 have b0:=belowAlloc w (.cells #[.int .i64 K,.int .i64 R,.slice va vn vc] 124)
 have q:Box3 (w.alloc (.cells #[.int .i64 K,.int .i64 R,.slice va vn vc] 124)) w.heap.size (.int .i64 K) (.int .i64 R) (.slice va vn vc):=by simp [Box3,go_sem]
 have hsm:smallP K R T=none:=by rw [smallP_ok hr,if_neg (by omega)]
 have hk4:=hr.k4
 obtain ⟨zs,hzs⟩:=syms_sub hr.k4 hr.syms
 replace hg:=Hd (hg.below b0)
 replace h:=Hd (h.below b0)
 replace hr:=Hd hr
 replace hsm:=Hd hsm
 refine (callsIn_wide (n:=6)).1 ?_
 refine callsIn_of_wp_marks Tryz.func155 rfl trivial ?_ rfl
 simp only [Tryz.ntmps155,List.size_toArray,List.length_cons,List.length_nil,Nat.reduceAdd,Nat.reduceSub,Array.replicate_succ,Array.replicate_zero,List.push_toArray,List.append_toArray,List.nil_append,List.cons_append]
 refine wpIn_wide.2 ?_
 go_wp2_with fail
 refine (small_any r K R va vn vc T _ hg.out h.out).mono ?_
 rintro e w1 ⟨x,rfl,b1,hx⟩
 rw [hsm.out] at hx
 obtain rfl:=hx.none_eq
 clear hx
 have b01:=Below.step b0 b1
 have bx:=belowAlloc w1 (.cells #[.slice none 0 0] 129)
 have h1':=h.out.below b1
 replace h1':=Hd h1'
 obtain ⟨⟨z0,z1,z2⟩,-,-,-⟩:=q.below (Below.step b1 bx)
 go_wp2_with fail
 refine (backward_any va vn vc _).mono ?_
 rintro e w2 ⟨rfl,rfl⟩
 clear z0 z1 z2
 go_wp2_with fail
 have by0:=belowAlloc (w1.alloc (.cells #[.slice none 0 0] 129)) (.cells #[.slice va vn vc] 30)
 have hbox:Boxed ((w1.alloc (.cells #[.slice none 0 0] 129)).alloc (.cells #[.slice va vn vc] 30)) w1.heap.size 129 (.slice none 0 0):=(Boxed.new w1 129 (.slice none 0 0)).alloc _
 have hsb:((w1.alloc (.cells #[.slice none 0 0] 129)).alloc (.cells #[.slice va vn vc] 30)).cell? ⟨w1.heap.size+1,0,none⟩=some (.slice va vn vc):=by simp [go_sem]
 have hsz:((w1.alloc (.cells #[.slice none 0 0] 129)).alloc (.cells #[.slice va vn vc] 30)).heap.size=w1.heap.size+2:=by simp
 have hB0:Below w1.heap.size w1 ((w1.alloc (.cells #[.slice none 0 0] 129)).alloc (.cells #[.slice va vn vc] 30)):=Below.step bx by0
 have hblk:=fun i hi=>h1'.out.blk i hi
 obtain ⟨W0,hW0⟩:∃ W0:World,(w1.alloc (.cells #[.slice none 0 0] 129)).alloc (.cells #[.slice va vn vc] 30)=W0:=⟨_,rfl⟩
 rw [hW0] at hbox hsb hsz hB0 ⊢
 have hT0:=h1'.out.below hB0
 rw [← hzs] at hT0
 have qr:=q.below (Below.step b1 hB0)
 have hr0:w.heap.size<w1.heap.size:=by have:=b1.size; simp at this; omega
 have hlz:zs.length=T.length:=by rw [← hzs]; simp [valsS]
 have hsome:∃ o,W0.heap[w1.heap.size+1]?=some o:=⟨_,Array.getElem?_eq_getElem (show w1.heap.size+1<W0.heap.size by omega)⟩
 have q1:=q.below b1
 replace hW0:=Hd hW0
 refine wpIn_wide.1 (wpIn_rangeFunc_ownG (F:=Fence.wide) (n:=6) rfl (by decide) (gf:=325) (lb:=#[.pointer (some ⟨w1.heap.size+1,0,none⟩)]) rfl trivial (enters_of Tryz.func325 (by kernel_rfl) rfl)
  (backward_stops Fence.wide (6-1) trivial rfl (by decide) (w1.heap.size+1) w1.heap.size (.slice va vn vc) zs W0 (by omega) hsb hT0 (fun i hi=>hblk i (by rw [← hlz]; exact hi)))
  KeepB.trans (fun W l o o' hl hk ho hw=>⟨belowK_b (by omega) W l o o' hl hk ho hw,(grownBy_putObj' W l o').block (w1.heap.size+1) (by have:=(Array.getElem?_eq_some_iff.1 hk).1; omega) (by intro e; injection e; omega)⟩) (Below.refl _ _) (fun _=>rfl)
  (fun pre W=>((∃ v,Boxed W w1.heap.size 129 v∧W.ownsRow w1.heap.size 203 1 v (natL (sofar K pre)).length (limbs (natL (sofar K pre)))∧True)∧Below w1.heap.size w1 W)∧W.heap[w1.heap.size+1]?=W0.heap[w1.heap.size+1]?)
  (fun _ _ _=>False)
  (OwnFrom.and (OwnFrom.and (Own.from (holdsRow_own w1.heap.size w1.heap.size 129 203 1 (fun pre=>(natL (sofar K pre)).length) (fun pre=>limbs (natL (sofar K pre))) (fun _ _=>True)) _) (ownFrom_below (Nat.le_refl _) (by omega))) (fun s X Y row hs hg hr=>by
    obtain ⟨o,ho⟩:=hsome
    exact (hg.block (w1.heap.size+1) (by rw [ho] at hs; exact (Array.getElem?_eq_some_iff.1 hs).1) (fun e=>by have:=(hr _ e.symm).1; omega)).trans hs))
  (fun _ _ _ _ _ hs _ _=>hs)
  ⟨⟨⟨_,hbox,by rw [show sofar K []=0 from rfl,natL_zero]; exact World.ownsRow_nil _ _ _ _,trivial⟩,hB0⟩,rfl⟩
  (fun x=>{ tmps:=#[.agg #[.int .i64 K,.int .i64 R,.slice va vn vc],.pointer (some ⟨w.heap.size,0,none⟩),.slice none 0 0,.nilIface,.nilIface,.pointer (some ⟨w1.heap.size,0,none⟩),undef,.int .i64 x.2.1,.agg #[.int .i64 K,.int .i64 R,.slice va vn vc],.nilIface,.nilIface,.bool false,undef,.pointer (some ⟨w.heap.size,2,none⟩),.slice va vn vc,.func (.func 325) #[] #[.pointer (some ⟨w1.heap.size+1,0,none⟩)],.int .i64 x.1,.int .i64 x.2.1,undef,undef,undef,undef,undef,undef,undef,undef,undef,undef,undef],defers:=[] }) ?assign ?body ?done ?stop)
 case assign =>
  intro l x W KK hK
  unfold encB
  gi_wp2
  exact hK
 case body =>
  rintro l pre x W ⟨⟨⟨v,hv,hrow,-⟩,hB⟩,hsame⟩ hlt
  have hcv:=hv.cell
  have hfv:=hv.frozen
  have hcK:W.cell? ⟨w.heap.size,0,none⟩=some (.int .i64 K):=(hB.cell (p:=⟨w.heap.size,0,none⟩) hr0).trans q1.1.1
  have hx2:=x.2.2
  have hsl:=sofar_lt hk4 pre
  have hsn:=sofar_snoc K pre x
  obtain ⟨xn,hxn⟩:∃ n:Nat,x.2.1=(n:Int):=⟨x.2.1.toNat,by omega⟩
  rw [hxn] at hx2 hsn ⊢
  rw [Int.toNat_natCast] at hsn
  have hln:=natL_len hsl
  obtain ⟨S,hS⟩:∃ S,sofar K pre=S:=⟨_,rfl⟩
  rw [hS] at hrow hsl hsn hln
  obtain ⟨p,hp⟩:∃ p,pre.length=p:=⟨_,rfl⟩
  rw [hp] at hsl hln hlt
  have hpb:p<256:=by omega
  have hOW:OwnN w1.heap.size W v (natL S):=by
   unfold OwnN OwnV
   rw [limbs_len]; exact hrow
  have hWs:=hB.size
  have hlS:=(natL_spec S).1
  have hvS:=(natL_spec S).2.2
  replace hxn:=Hd hxn
  replace hS:=Hd hS
  replace hp:=Hd hp
  replace hsl:=Hd hsl
  replace hsn:=Hd hsn
  replace hrow:=Hd hrow
  replace hOW:=Hd hOW
  replace hlS:=Hd hlS
  replace hvS:=Hd hvS
  refine wpIn_block ?_
  refine wpIn_region_plan (fun w'=>w'.cell? ⟨w1.heap.size,0,none⟩=some v∧w'.cell? ⟨w.heap.size,0,none⟩=some (.int .i64 K)) 10 [(0,true),(1,true),(2,true),(3,true),(6,true),(7,true),(4,false),(5,false),(8,false),(9,false)] (by kernel_rfl) (by kernel_rfl) (by kernel_rfl) ?_
  obtain ⟨W1,hW1⟩:∃ W':World,W.drew=W':=⟨_,rfl⟩
  have bd:Below W.heap.size W W1:=by rw [← hW1]; exact (Below.refl _ _).drew
  rw [hW1]
  replace hW1:=Hd hW1
  have hS1:W1.cell? ⟨w1.heap.size,0,none⟩=some v∧W1.cell? ⟨w.heap.size,0,none⟩=some (.int .i64 K):=⟨(bd.cell (World.block_lt_of_cell? _ _ hcv)).trans hcv,(bd.cell (World.block_lt_of_cell? _ _ hcK)).trans hcK⟩
  refine pqY 18 hS1 ?_
  refine pqY 19 hS1 ?_
  refine pqY 20 hS1 ?_
  refine pqY 21 hS1 ?_
  refine pqY 24 hS1 ?_
  refine pqY 25 hS1 ?_
  refine headC rfl (fun KK hK=>?_)
  go_simp
  rw [wrapU (n:=K) (by omega)]
  refine (nat_from K W1 (by omega)).mono ?_
  rintro e W2 ⟨kv,rfl,b2,hkv⟩
  have b02:=Below.step bd b2
  have hS2:W2.cell? ⟨w1.heap.size,0,none⟩=some v∧W2.cell? ⟨w.heap.size,0,none⟩=some (.int .i64 K):=⟨(b02.cell (World.block_lt_of_cell? _ _ hcv)).trans hcv,(b02.cell (World.block_lt_of_cell? _ _ hcK)).trans hcK⟩
  refine hK _ _ hS2 ?_
  clear hK KK
  have hkl:=hkv.own
  have hkL:=natL_len (n:=K) (k:=1) (by omega)
  refine headC rfl (fun KK hK=>?_)
  go_simp
  refine (nat_mul v kv (natL S) (natL K) W2 (hOW.out.at.below b02) hkl.at hlS.out (natL_spec K).1 (by omega) (by omega)).mono ?_
  rintro e W3 ⟨mv,rfl,b3,hmv⟩
  rw [hvS.out,(natL_spec K).2.2] at hmv
  have b03:=Below.step b02 b3
  have hS3:W3.cell? ⟨w1.heap.size,0,none⟩=some v∧W3.cell? ⟨w.heap.size,0,none⟩=some (.int .i64 K):=⟨(b03.cell (World.block_lt_of_cell? _ _ hcv)).trans hcv,(b03.cell (World.block_lt_of_cell? _ _ hcK)).trans hcK⟩
  refine hK _ _ hS3 ?_
  clear hK KK
  refine headC rfl (fun KK hK=>?_)
  go_simp
  rw [wrapU (n:=xn) (by omega)]
  refine (nat_from xn W3 (by omega)).mono ?_
  rintro e W4 ⟨xv,rfl,b4,hxv⟩
  have b04:=Below.step b03 b4
  have hS4:W4.cell? ⟨w1.heap.size,0,none⟩=some v∧W4.cell? ⟨w.heap.size,0,none⟩=some (.int .i64 K):=⟨(b04.cell (World.block_lt_of_cell? _ _ hcv)).trans hcv,(b04.cell (World.block_lt_of_cell? _ _ hcK)).trans hcK⟩
  refine hK _ _ hS4 ?_
  clear hK KK
  have hml:S*K<4294967296 ^ (p+1):=by
   have h1:=hsl.out
   rw [Nat.pow_succ]
   have h2:S*K≤S*4:=Nat.mul_le_mul_left _ hk4
   omega
  have hmL:=natL_len hml
  have hxL:=natL_len (n:=xn) (k:=1) (by omega)
  refine headC rfl (fun KK hK=>?_)
  go_simp
  refine (nat_add mv xv (natL (S*K)) (natL xn) W4 (hmv.own.at.below b4) hxv.own.at (natL_spec _).1 (natL_spec _).1 (by omega) (by omega)).mono ?_
  rintro e W5 ⟨av,rfl,b5,hav⟩
  rw [(natL_spec _).2.2,(natL_spec _).2.2,← hsn.out] at hav
  have b05:=Below.step b04 b5
  have hS5:W5.cell? ⟨w1.heap.size,0,none⟩=some v∧W5.cell? ⟨w.heap.size,0,none⟩=some (.int .i64 K):=⟨(b05.cell (World.block_lt_of_cell? _ _ hcv)).trans hcv,(b05.cell (World.block_lt_of_cell? _ _ hcK)).trans hcK⟩
  refine hK _ _ hS5 ?_
  clear hK KK
  refine head0 ?_
  simp only [List.drop_succ_cons,List.drop_zero]
  have hf5:=(b05.frozen (p:=⟨w1.heap.size,0,none⟩) (World.block_lt_of_cell? _ _ hcv)).trans hfv
  have hv5:Boxed W5 w1.heap.size 129 v:=(b05.block w1.heap.size hv.lt).trans hv
  have hlt1:=hv.lt
  have s5:=b05.size
  have hat:OwnN w1.heap.size (W5.setCell ⟨w1.heap.size,0,none⟩ av) av (natL (sofar K (pre++[x]))):=by
   have h6:=hav.own
   have hge:=b04.size
   exact (OwnV.setBelowBase h6 (a:=⟨w1.heap.size,0,none⟩) (by show w1.heap.size<_; omega) av).mono (by omega)
  have hbx:=hv5.set av
  have hB5:Below w1.heap.size w1 (W5.setCell ⟨w1.heap.size,0,none⟩ av):=(hB.trans (b05.mono hB.size)).setCell (Nat.le_refl _) av
  have hk5:KeepB w1.heap.size (w1.heap.size+1) W (W5.setCell ⟨w1.heap.size,0,none⟩ av):=by
   obtain ⟨o,ho⟩:=hsome
   have hlt2:w1.heap.size+1<W.heap.size:=by rw [ho] at hsame; exact (Array.getElem?_eq_some_iff.1 hsame).1
   exact ⟨((Below.refl _ W).trans (b05.mono hB.size)).setCell (Nat.le_refl _) av,(Below.heap_setCell _ _ _ _ (by show w1.heap.size+1≠w1.heap.size; omega)).trans (b05.block (w1.heap.size+1) hlt2)⟩
  have hkf:KeepsFrom W0.heap.size W (W5.setCell ⟨w1.heap.size,0,none⟩ av):=by
   refine KeepsFrom.trans (Y:=W5) ⟨b05.size,fun k o _ hk _=>(b05.block k (Array.getElem?_eq_some_iff.1 hk).1).trans hk⟩ ((KeepsOthers.setCell _ _ _).from _)
  have hsm2:=hk5.2.trans hsame
  obtain ⟨ga,gn,gc,rfl⟩:=hav.own.at.shape
  have hs51:=hS5.1
  clear hS1 hS2 hS3 hS4 hS5 hcv hcK
  replace hat:=Hd hat
  replace hbx:=Hd hbx
  replace hk5:=Hd hk5
  replace hkf:=Hd hkf
  replace hav:=Hd hav
  replace hmv:=Hd hmv
  replace hxv:=Hd hxv
  replace hkv:=Hd hkv
  replace hkl:=Hd hkl
  replace hv5:=Hd hv5
  replace hv:=Hd hv
  replace hsm2:=Hd hsm2
  replace hsame:=Hd hsame
  clear hsome
  go_wp2
  refine OnlyN.normal ?_
  go_wp2
  exact ⟨hkf.out,hk5.out,⟨⟨_,hbx.out,(by have:=hat.out; unfold OwnN OwnV at this; rwa [limbs_len] at this),trivial⟩,hB5⟩,hsm2.out⟩
 case done =>
  rintro D ys W hD rfl ⟨⟨⟨v,hv,hrow,-⟩,hB⟩,hsame⟩ hK
  have hc:=hv.cell
  have hOW:OwnN w1.heap.size W v (natL (codeN K T)):=by
   unfold OwnN OwnV
   rw [limbs_len,← sofar_code zs hzs]; exact hrow
  have hB1:=Below.step b01 hB
  replace hOW:=Hd hOW
  replace hrow:=Hd hrow
  go_wp2
  refine ⟨by simp,.inl ⟨_,_,rfl,run_takeDeferred hK,?_⟩⟩
  exact ⟨_,results_tmp2 rfl _ _ _,_,_,rfl,hB1.trans (belowK_b (w:=w) (Nat.le_refl _) W D _ _ (by omega) hK rfl rfl),rfl,(OwnN.num (ownsRow_putObj hOW.out _ hK rfl)).mono (by omega)⟩
 case stop =>
  rintro D c pre W _ _ h _
  exact h.elim
set_option maxRecDepth 100000
set_option maxHeartbeats 8000000
theorem code_lt {K:Nat} {T:List Int} (hK:K≤4) (hs:Syms K T) (hl:T.length≤256):codeN K T<4294967296 ^ 256:=by
 obtain ⟨zs,hzs⟩:=syms_sub hK hs
 rw [← sofar_code zs hzs]
 refine Nat.lt_of_lt_of_le (sofar_lt hK _) (Nat.pow_le_pow_right (by decide) ?_)
 rw [bwP_len]
 have:zs.length=T.length:=by rw [← hzs]; simp [valsS]
 omega
theorem dec_short {N:Nat} (h:N<4294967296 ^ 256):(txtW (decL N)).size≤10000:=by
 have h1:=digA_len h
 have h2:=decL_len N
 unfold txtW
 rw [strOfNums_size]
 unfold dig8
 rw [List.length_map]
 omega
theorem conv_lit4 (W:World) (b:Nat) (x0 x1 x2 x3:Int) (h0:W.cell? ⟨b,0,none⟩=some (.int .u8 x0)) (h1:W.cell? ⟨b,1,none⟩=some (.int .u8 x1)) (h2:W.cell? ⟨b,2,none⟩=some (.int .u8 x2)) (h3:W.cell? ⟨b,3,none⟩=some (.int .u8 x3)) :
 (convert 34 9 (.slice (some ⟨b,0,none⟩) 4 4)).run Tryz.prog W=.ok (.string (strOfNums [x0,x1,x2,x3])) W:=by
 refine run_convert_bytes_arg (P:=Tryz.prog) W 34 5 oneBytes.ht uByte b 0 4 4 [x0,x1,x2,x3] rfl (fun i hi=>?_) 9 uStr
 have:i=0∨i=1∨i=2∨i=3:=by omega
 rcases this with rfl | rfl | rfl | rfl
 ·exact h0
 ·exact h1
 ·exact h2
 ·exact h3
theorem rule_text (r:Nat→Addr) (K R:Nat) (va:Option Addr) (vn vc:Nat) (T:List Int) (w:World) (hg:Glob r w) (h:IntsAt w (.slice va vn vc) T) (hr:RuleOk K R T) (hl:T.length≤256) :
 Calls Tryz.prog 63 #[.agg #[.int .i64 K,.int .i64 R,.slice va vn vc]] w (Ret2 (fun x y _=>y=.nilIface∧x=.string (strOfNums [48+(K:Int),46,48+(R:Int),46]++txtW (decL (codeN K T)))) w):=by
 have b0:=belowAlloc w (.cells #[.int .i64 K,.int .i64 R,.slice va vn vc] 124)
 have q:Box3 (w.alloc (.cells #[.int .i64 K,.int .i64 R,.slice va vn vc] 124)) w.heap.size (.int .i64 K) (.int .i64 R) (.slice va vn vc):=by simp [Box3,go_sem]
 have hk4:=hr.k4
 have hr3:=hr.r3
 obtain ⟨N,hN⟩:∃ N,codeN K T=N:=⟨_,rfl⟩
 rw [hN]
 have hspec:=natL_spec N
 have hml:N<4294967296 ^ 256:=by rw [← hN]; exact code_lt hr.k4 hr.syms hl
 have hsz:¬ 9223372036854775807<(strOfNums [48+(K:Int),46,48+(R:Int),46]).size+(txtW (decL N)).size:=by
  have:=dec_short hml
  rw [strOfNums_size]
  show ¬ 9223372036854775807<4+_
  omega
 have hll:=natL_len hml
 replace hg:=Hd (hg.below b0)
 replace h:=Hd (h.below b0)
 replace hr:=Hd hr
 replace hN:=Hd hN
 obtain ⟨⟨z0,z1,z2⟩,-,-,-⟩:=id q
 go_enter Tryz.func63,Tryz.ntmps63
 go_wp2_with fail
 refine (rule_code r K R va vn vc T _ hg.out h.out hr.out hl).mono ?_
 rintro e w1 ⟨x,_,rfl,b1,rfl,hx⟩
 clear z0 z1 z2
 obtain ⟨⟨z0,z1,z2⟩,-,-,-⟩:=q.below b1
 rw [hN.out] at hx
 have hat:=hx.own.at
 obtain ⟨xa,xn,xc,rfl⟩:=hat.shape
 have htx:∀ W:World,Below w1.heap.size w1 W→Calls Tryz.prog 156 #[.slice xa xn xc] W (Ret1 (fun x _=>x=.string (txtW (decL N))) W):=fun W hb=>by
  have:=nat_text (.slice xa xn xc) (natL N) W (hat.below hb) hspec.1 (by omega)
  rwa [hspec.2.2] at this
 replace hx:=Hd hx
 replace hat:=Hd hat
 replace hspec:=Hd hspec
 replace hml:=Hd hml
 replace htx:=Hd htx
 have wK1:=wrapK (x:=48+(K:Int)) (by omega) (by omega)
 have wR1:=wrapK (x:=48+(R:Int)) (by omega) (by omega)
 have wK2:IntKind.u8.wrap (48+(K:Int))=48+(K:Int):=by rw [IntKind.wrap_u8]; omega
 have wR2:IntKind.u8.wrap (48+(R:Int))=48+(R:Int):=by rw [IntKind.wrap_u8]; omega
 go_upto_region 4 with fail
 obtain ⟨W0,hW0⟩:∃ W0:World,W0=w1.drew:=⟨_,rfl⟩
 have b10:Below w1.heap.size w1 W0:=by rw [hW0]; exact (Below.refl _ _).drew
 have hS0:W0.cell? ⟨w.heap.size,0,none⟩=some (.int .i64 K)∧W0.cell? ⟨w.heap.size,1,none⟩=some (.int .i64 R):=by rw [hW0]; exact ⟨z0,z1⟩
 have hlow:=World.block_lt_of_cell? _ _ z0
 have hkeep:∀ W:World,Below w1.heap.size w1 W→W.cell? ⟨w.heap.size,0,none⟩=some (.int .i64 K)∧W.cell? ⟨w.heap.size,1,none⟩=some (.int .i64 R):=fun W hb=>⟨(hb.cell (p:=⟨w.heap.size,0,none⟩) hlow).trans z0,(hb.cell (p:=⟨w.heap.size,1,none⟩) hlow).trans z1⟩
 replace hkeep:=Hd hkeep
 refine wp_region_noPanic ?_
 refine wp_region_any (by kernel_rfl) ?_
 change wpAny _ _ _ _ _ _ _ (World.drew _)
 rw [← hW0]
 clear hW0 z0 z1 z2
 refine wpAny_of_held (S:=fun w'=>w'.cell? ⟨w.heap.size,0,none⟩=some (.int .i64 K)∧w'.cell? ⟨w.heap.size,1,none⟩=some (.int .i64 R)) _ _ _ _ ?_
 refine pqD 0 14 hS0 ?_
 refine pqD 1 15 hS0 ?_
 refine pqD 2 16 hS0 ?_
 refine pqD 3 17 hS0 ?_
 refine pqD 4 18 hS0 ?_
 refine pqD 5 19 hS0 ?_
 refine pqD 6 20 hS0 ?_
 refine pqD 7 21 hS0 ?_
 refine pqD 10 24 hS0 ?_
 refine wpAnyH_ready (rs:=[8,11]) (by kernel_rfl) (by simp) (AllReadyH.cons rfl (fun KK hK=>?_) (AllReadyH.cons rfl (fun KK hK=>?_) AllReadyH.nil))
 ·go_simp
  have bl:=belowAlloc W0 (.cells #[.int .u8 (48+(K:Int)),.int .u8 46,.int .u8 (48+(R:Int)),.int .u8 46] 5)
  have cl:∀ W:World,Below (W0.alloc (.cells #[.int .u8 (48+(K:Int)),.int .u8 46,.int .u8 (48+(R:Int)),.int .u8 46] 5)).heap.size (W0.alloc (.cells #[.int .u8 (48+(K:Int)),.int .u8 46,.int .u8 (48+(R:Int)),.int .u8 46] 5)) W→(convert 34 9 (.slice (some ⟨W0.heap.size,0,none⟩) 4 4)).run Tryz.prog W=.ok (.string (strOfNums [48+(K:Int),46,48+(R:Int),46])) W:=fun W hb =>
   conv_lit4 W W0.heap.size _ _ _ _ (by rw [hb.cell (by simp)]; simp) (by rw [hb.cell (by simp)]; simp) (by rw [hb.cell (by simp)]; simp) (by rw [hb.cell (by simp)]; simp)
  obtain ⟨L,hL⟩:∃ W':World,W0.alloc (.cells #[.int .u8 (48+(K:Int)),.int .u8 46,.int .u8 (48+(R:Int)),.int .u8 46] 5)=W':=⟨_,rfl⟩
  rw [hL] at bl cl ⊢
  obtain ⟨g,hgn⟩:∃ g,W0.heap.size=g:=⟨_,rfl⟩
  rw [hgn] at cl ⊢
  have b1L:=Below.step b10 bl
  have hSL:=hkeep.out L b1L
  refine hK.out _ _ hSL fun _=>?_
  clear hK KK hL
  replace hgn:=Hd hgn
  replace cl:=Hd cl
  refine wpAnyH_ready (rs:=[9,11]) (by kernel_rfl) (by simp) (AllReadyH.cons rfl (fun KK hK=>?_) (AllReadyH.cons rfl (fun KK hK=>?_) AllReadyH.nil))
  ·go_simp
   rw [cl.out L (Below.refl _ _)]
   go_simp
   refine hK.out _ _ hSL fun _=>?_
   clear hK KK
   refine wpAnyH_ready (rs:=[11]) (by kernel_rfl) (by simp) (AllReadyH.cons rfl (fun KK hK=>?_) AllReadyH.nil)
   go_simp
   refine (htx.out L b1L).mono ?_
   rintro e C ⟨_,rfl,bc,rfl⟩
   have b1C:=Below.step b1L bc
   have hSC:=hkeep.out C b1C
   refine hK.out _ _ hSC fun _=>?_
   clear hK KK
   refine pqD 12 26 hSC ?_
   refine pqD 13 2 hSC ?_
   refine pqD 14 3 hSC ?_
   refine wpAnyH_done (by kernel_rfl) ?_ _
   refine NoPanic.normal ?_
   have bE:=Below.step b0 (Below.step b1 b1C)
   go_wp2
   go_ret2
   exact ⟨_,_,rfl,bE,rfl,rfl⟩
  ·go_simp
   refine (htx.out L b1L).mono ?_
   rintro e C ⟨_,rfl,bc,rfl⟩
   have b1C:=Below.step b1L bc
   have hSC:=hkeep.out C b1C
   refine hK.out _ _ hSC fun _=>?_
   clear hK KK
   refine wpAnyH_ready (rs:=[9]) (by kernel_rfl) (by simp) (AllReadyH.cons rfl (fun KK hK=>?_) AllReadyH.nil)
   go_simp
   rw [cl.out C bc]
   go_simp
   refine hK.out _ _ hSC fun _=>?_
   clear hK KK
   refine pqD 12 26 hSC ?_
   refine pqD 13 2 hSC ?_
   refine pqD 14 3 hSC ?_
   refine wpAnyH_done (by kernel_rfl) ?_ _
   refine NoPanic.normal ?_
   have bE:=Below.step b0 (Below.step b1 b1C)
   go_wp2
   go_ret2
   exact ⟨_,_,rfl,bE,rfl,rfl⟩
 ·go_simp
  refine (htx.out W0 b10).mono ?_
  rintro e C ⟨_,rfl,bc,rfl⟩
  have b1C:=Below.step b10 bc
  have hSC:=hkeep.out C b1C
  refine hK.out _ _ hSC fun _=>?_
  clear hK KK
  refine wpAnyH_ready (rs:=[8]) (by kernel_rfl) (by simp) (AllReadyH.cons rfl (fun KK hK=>?_) AllReadyH.nil)
  go_simp
  have bl:=belowAlloc C (.cells #[.int .u8 (48+(K:Int)),.int .u8 46,.int .u8 (48+(R:Int)),.int .u8 46] 5)
  have cl:(convert 34 9 (.slice (some ⟨C.heap.size,0,none⟩) 4 4)).run Tryz.prog (C.alloc (.cells #[.int .u8 (48+(K:Int)),.int .u8 46,.int .u8 (48+(R:Int)),.int .u8 46] 5))=.ok (.string (strOfNums [48+(K:Int),46,48+(R:Int),46])) (C.alloc (.cells #[.int .u8 (48+(K:Int)),.int .u8 46,.int .u8 (48+(R:Int)),.int .u8 46] 5)) :=
   conv_lit4 _ C.heap.size _ _ _ _ (by simp) (by simp) (by simp) (by simp)
  obtain ⟨L,hL⟩:∃ W':World,C.alloc (.cells #[.int .u8 (48+(K:Int)),.int .u8 46,.int .u8 (48+(R:Int)),.int .u8 46] 5)=W':=⟨_,rfl⟩
  rw [hL] at bl cl ⊢
  have b1L:=Below.step b1C bl
  have hSL:=hkeep.out L b1L
  refine hK.out _ _ hSL fun _=>?_
  clear hK KK hL
  replace cl:=Hd cl
  refine wpAnyH_ready (rs:=[9]) (by kernel_rfl) (by simp) (AllReadyH.cons rfl (fun KK hK=>?_) AllReadyH.nil)
  go_simp
  rw [cl.out]
  go_simp
  refine hK.out _ _ hSL fun _=>?_
  clear hK KK
  refine pqD 12 26 hSL ?_
  refine pqD 13 2 hSL ?_
  refine pqD 14 3 hSL ?_
  refine wpAnyH_done (by kernel_rfl) ?_ _
  refine NoPanic.normal ?_
  have bE:=Below.step b0 (Below.step b1 b1L)
  go_wp2
  go_ret2
  exact ⟨_,_,rfl,bE,rfl,rfl⟩
end Go.Proofs.YtindfaehjoileaaGreatDoor
namespace Go.Proofs.YtindfaehjoileaaGreatDoor
open Go.RowKit
set_option maxRecDepth 100000
theorem orphan232:subR 2 (pw 2 (2*1)) (ecaT 232)=.orphan [0,1,0,0,1]:=by
 have h:(match subR 2 (pw 2 (2*1)) (ecaT 232) with | .orphan w=>decide (w=[0,1,0,0,1]) | _=>false)=true:=by decide +kernel
 cases hh:subR 2 (pw 2 (2*1)) (ecaT 232) with
 | on a b=>rw [hh] at h; cases h
 | orphan w=>rw [hh] at h; rw [of_decide_eq_true h]
 | big=>rw [hh] at h; cases h
theorem twins232:TwinLen 2 1 (ecaT 232) 5:=by
 refine ⟨⟨[0,0,0,0,0],[0,0,1,0,0],⟨?_,?_,rfl,by decide,by decide,rfl,rfl,by decide +kernel⟩,rfl⟩,fun a b h=>h.long⟩ <;>
 ·intro x hx
  simp at hx
  omega
theorem fin232 {w w':World} {y a b e:Value} (h:FinPost w 2 1 (ecaT 232) y a b e w'):e=.nilIface∧y=.bool false∧(∃ x,IntsAt w' a x∧x.length=5)∧∃ u m c,b=.slice u m c:=by
 obtain ⟨rfl,⟨_,_,_,hn⟩ | ⟨rfl,x,z,_,t,hl,_,ha,hb,_⟩⟩:=h
 ·obtain ⟨⟨c,d,t,_⟩,_⟩:=twins232
  exact absurd t (hn c d)
 ·exact ⟨rfl,rfl,⟨x,ha.at,hl.unique twins232⟩,hb.at.shape⟩
theorem notOne232:NotOne 2 1 (ecaT 232):=by
 obtain ⟨⟨c,d,t,_⟩,_⟩:=twins232
 exact t.notOne (by decide)
theorem pre232:preN 2 1 (ecaT 232) [0,1,0,0,1]=0:=by decide +kernel
theorem sym232:symP ((2:Nat):Int) [0,1,0,0,1] 256=none:=by decide +kernel
def s2s1:ByteArray:=⟨#[50,46,49,46,50,51,50]⟩
theorem text232:strOfNums [48+((2:Nat):Int),46,48+((1:Nat):Int),46]++txtW (decL (codeN 2 (ecaT 232)))=s2s1:=by decide +kernel
theorem decZero:txtW (decL 0)=⟨#[48]⟩:=by decide +kernel
def Kept (w w':World):Prop:=∀ (k:Nat) (o:Obj),w.heap[k]?=some o→(∀ c fz,o≠Obj.cells c 5 fz)→(∀ c fz,o≠Obj.cells c 59 fz)→w'.heap[k]?=some o
theorem Kept.of_below {w w':World} (h:Below w.heap.size w w'):Kept w w':=fun k o hk _ _=>by
 rw [h.block k (Array.getElem?_eq_some_iff.1 hk).1]; exact hk
theorem Kept.of_others {b:Nat} {w w':World} (h:Lib.OthersKept 5 (some b) w w') (hb:∃ c fz,w.heap[b]?=some (.cells c 59 fz)):Kept w w':=fun k o hk h1 h2=>by
 refine h k o hk (fun e=>?_) h1
 obtain ⟨c,fz,hc⟩:=hb
 rw [Option.some.inj e,hc] at hk
 exact h2 c fz (Option.some.inj hk).symm
theorem Kept.refl (w:World):Kept w w:=fun _ _ h _ _=>h
theorem Kept.trans {a b c:World} (h:Kept a b) (k:Kept b c):Kept a c:=fun i o hi h1 h2=>k i o (h i o hi h1 h2) h1 h2
def But (g:Nat) (w w':World):Prop:=Below 0 w w'∧∀ k,k<w.heap.size→k≠g→w'.heap[k]?=w.heap[k]?
theorem But.of_below {g:Nat} {w w':World} (h:Below w.heap.size w w'):But g w w':=⟨h.mono (Nat.zero_le _),fun k hk _=>h.block k hk⟩
theorem But.below {g B:Nat} {w w':World} (h:But g w w') (hB:B≤g) (hw:B≤w.heap.size):Below B w w' :=
 ⟨h.1.os,h.1.tape,h.1.output,h.1.size,fun k hk=>h.2 k (by omega) (by omega)⟩
theorem But.trans {g:Nat} {a b c:World} (h:But g a b) (k:But g b c):But g a c :=
 ⟨h.1.trans k.1,fun i hi hne=>(k.2 i (Nat.lt_of_lt_of_le hi h.1.size) hne).trans (h.2 i hi hne)⟩
theorem But.setCell {g:Nat} {a b:World} (h:But g a b) (i:Nat) (v:Value):But g a (b.setCell ⟨g,i,none⟩ v):=by
 refine ⟨h.1.setCell (p:=⟨g,i,none⟩) (Nat.zero_le _) v,fun k hk hne=>?_⟩
 rw [← h.2 k hk hne]
 exact Below.heap_setCell b ⟨g,i,none⟩ v k hne
theorem But.cell {g:Nat} {w w':World} (h:But g w w') {p:Addr} {v:Value} (hc:w.cell? p=some v) (hp:p.block≠g):w'.cell? p=some v:=by
 have e:=h.2 p.block (World.block_lt_of_cell? _ _ hc) hp
 unfold World.cell? at hc ⊢
 rw [e]; exact hc
theorem OwnI.keptK {B:Nat} {w w':World} {v:Value} {xs:List Int} (h:OwnI B w v xs) (k:Kept w w'):OwnI B w' v xs:=by
 refine ⟨h.1,?_⟩
 rcases h.2 with hn | ⟨g,cap,cur,e,hb,hg,rest⟩
 ·exact .inl hn
 ·exact .inr ⟨g,cap,cur,e,hb,k g _ hg (by intro c fz e; injection e with _ e2 _; exact absurd e2 (by decide)) (by intro c fz e; injection e with _ e2 _; exact absurd e2 (by decide)),rest⟩
def St0 (wb:Nat) (w:World):Prop:=w.heap[wb]?=some (.cells #[.pointer none,.slice none 0 0,.pointer none] 55 (0,0))
def St1 (wb:Nat) (w:World):Prop:=∃ rb a n c,w.heap[wb]?=some (.cells #[.pointer (some ⟨rb,0,none⟩),.slice none 0 0,.pointer none] 55 (0,0)) ∧
 w.heap[rb]?=some (.cells #[.int .i64 2,.int .i64 1,.slice a n c] 124 (0,0))∧OwnI 0 w (.slice a n c) (ecaT 232)
theorem St0.kept {wb:Nat} {w w':World} (h:St0 wb w) (k:Kept w w'):St0 wb w' :=
 k wb _ h (by intro c fz e; injection e with _ e2 _; exact absurd e2 (by decide)) (by intro c fz e; injection e with _ e2 _; exact absurd e2 (by decide))
theorem St1.kept {wb:Nat} {w w':World} (h:St1 wb w) (k:Kept w w'):St1 wb w':=by
 obtain ⟨rb,a,n,c,h1,h2,h3⟩:=h
 exact ⟨rb,a,n,c,k wb _ h1 (by intro c fz e; injection e with _ e2 _; exact absurd e2 (by decide)) (by intro c fz e; injection e with _ e2 _; exact absurd e2 (by decide)),k rb _ h2 (by intro c fz e; injection e with _ e2 _; exact absurd e2 (by decide)) (by intro c fz e; injection e with _ e2 _; exact absurd e2 (by decide)),h3.keptK k⟩
theorem box3_heap {w:World} {b:Nat} {x y z:Value} {T:TypeId} (h:w.heap[b]?=some (.cells #[x,y,z] T (0,0))):Box3 w b x y z:=by
 simp [Box3,World.cell?,World.frozen?,h]
set_option maxHeartbeats 8000000
theorem tell_nil (wp:Value) (t:ByteArray) (n:Int) (bv:Value) (w:World) :
 Calls Tryz.prog 12 #[wp,.pointer none,.agg #[.string t,.int .i64 n,bv]] w (Ret1 (fun x _=>x=.string ⟨#[]⟩) w):=by
 go_enter Tryz.func12,Tryz.ntmps12
 go_wp2
 go_ret
 exact ⟨_,rfl,belowAlloc _ _,rfl⟩
theorem tell_any (wb cb g:Nat) (fo wa t s:ByteArray) (n:Int) (bv:Value) (fb:Array Value) (R:World→World→Prop) (w:World)
 (hg:(g=53∧fb=#[])∨(g=62∧∃ c,fb=#[.pointer (some ⟨c,0,none⟩)])∨(g=188∧∃ c,fb=#[.pointer (some ⟨c,0,none⟩)]))
 (hc:Box3 w cb (.string fo) (.string wa) (.func (.func g) #[] fb)) (hs:s.size≤4096) (hwb:wb<w.heap.size) (hne:cb≠wb)
 (hmiss:∀ W,Below w.heap.size w W→Calls Tryz.prog 24 #[.pointer (some ⟨wb,0,none⟩),.string wa] W (Ret1 (fun x _=>x=.nilIface) W))
 (hdo:∀ W,Below w.heap.size w W→Calls Tryz.prog g (#[.pointer (some ⟨wb,0,none⟩),.agg #[.string t,.int .i64 n,bv]]++fb) W (fun e W'=>e=.returned (.tuple #[.string s,.nilIface])∧But wb W W'∧R W W')) :
 Calls Tryz.prog 12 #[.pointer (some ⟨wb,0,none⟩),.pointer (some ⟨cb,0,none⟩),.agg #[.string t,.int .i64 n,bv]] w (fun e W'=>e=.returned (.string (s++nlB))∧∃ W,Below w.heap.size w W∧But wb W W'∧R W W'):=by
 have hl:s.size+(⟨#[10]⟩:ByteArray).size≤maxLen:=by show s.size+1≤_; unfold maxLen; omega
 replace hl:=Hd hl
 replace hdo:=Hd hdo
 replace hmiss:=Hd hmiss
 obtain ⟨w0,hw0⟩:∃ W,w.alloc (.cells #[.string t,.int .i64 n,bv] 41)=W:=⟨_,rfl⟩
 have b0:Below w.heap.size w w0:=by rw [← hw0]; exact belowAlloc _ _
 have q0:Box3 w0 w.heap.size (.string t) (.int .i64 n) bv:=by rw [← hw0]; simp [Box3,go_sem]
 have hc0:=hc.below b0
 obtain ⟨⟨z0,z1,z2⟩,f0,f1,f2⟩:=id hc0
 have hM:=hmiss.out w0 b0
 replace hM:=Hd hM
 replace hw0:=Hd hw0
 replace hc0:=Hd hc0
 replace q0:=Hd q0
 replace b0:=Hd b0
 clear hc z0 z2 f0 f1 f2
 go_enter Tryz.func12,Tryz.ntmps12
 go_upto_region 1 with fail
 rw [hw0.out]
 go_wp2_with fail
 refine hM.out.mono ?_
 rintro e w1 ⟨x,rfl,b1,rfl⟩
 clear z1
 go_upto_region 6 with fail
 refine wp_region_plan (fun w'=>w'.cell? ⟨cb,2,none⟩=some (.func (.func g) #[] fb)∧w'.cell? ⟨w.heap.size,0,none⟩=some (.string t)∧w'.cell? ⟨w.heap.size,1,none⟩=some (.int .i64 n)∧w'.cell? ⟨w.heap.size,2,none⟩=some bv) 11 [(0,true),(1,true),(2,true),(3,true),(4,true),(5,true),(6,false),(7,true),(8,true),(9,true),(10,true)] (by kernel_rfl) (by kernel_rfl) ?_
 obtain ⟨W,hW⟩:∃ W:World,w1.drew=W:=⟨_,rfl⟩
 have b1W:Below w0.heap.size w0 W:=by rw [← hW]; exact b1.drew
 have bW:Below w.heap.size w W:=Below.step b0.out b1W
 have hcW:=hc0.out.below b1W
 have qW:=q0.out.below b1W
 have hS:W.cell? ⟨cb,2,none⟩=some (.func (.func g) #[] fb)∧W.cell? ⟨w.heap.size,0,none⟩=some (.string t)∧W.cell? ⟨w.heap.size,1,none⟩=some (.int .i64 n)∧W.cell? ⟨w.heap.size,2,none⟩=some bv:=⟨hcW.1.2.2,qW.1.1,qW.1.2.1,qW.1.2.2⟩
 rw [hW]
 clear hW b1 b1W hcW qW hw0 hM
 have hcall:=hdo.out W bW
 clear hdo hmiss hc0 q0
 rcases hg with ⟨rfl,rfl⟩ | ⟨rfl,c,rfl⟩ | ⟨rfl,c,rfl⟩
 all_goals
  refine pqY 20 hS ?_
  refine pqY 21 hS ?_
  refine pqY 22 hS ?_
  refine pqY 23 hS ?_
  refine pqY 24 hS ?_
  refine pqY 25 hS ?_
  refine headC rfl (fun KK hK=>?_)
  go_simp
  refine hcall.mono ?_
  rintro e W2 ⟨rfl,bt,hR⟩
  have hS2:=And.intro (bt.cell hS.1 hne) (And.intro (bt.cell hS.2.1 (show w.heap.size≠wb by omega)) (And.intro (bt.cell hS.2.2.1 (show w.heap.size≠wb by omega)) (bt.cell hS.2.2.2 (show w.heap.size≠wb by omega))))
  refine hK _ _ hS2 ?_
  clear hK KK hcall hS
  refine pqY 19 hS2 ?_
  refine pqY 27 hS2 ?_
  refine pqY 28 hS2 ?_
  refine pqY 8 hS2 ?_
  refine head0 ?_
  simp only [List.drop_succ_cons,List.drop_zero]
  clear hS2
  go_wp2
  refine NoPanic.normal ?_
  have hl2:=hl.out
  go_wp2
  go_ret
  exact ⟨rfl,W,bW,bt,hR⟩
end Go.Proofs.YtindfaehjoileaaGreatDoor
