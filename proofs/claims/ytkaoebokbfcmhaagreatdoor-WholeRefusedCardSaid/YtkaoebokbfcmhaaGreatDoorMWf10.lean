/-
  Texts that the proof leans on.
-/
import Derived.Test.YtkaoebokbfcmhaaGreatDoorMWf9
namespace Go.Proofs.YtkaoebokbfcmhaaGreatDoor
open Go.RowKit
set_option maxRecDepth 100000
set_option maxHeartbeats 8000000
def sInject:ByteArray:=⟨#[105,110,106,101,99,116]⟩
abbrev zRow:Value:=.agg #[.int .i64 0,.slice none 0 0,.slice none 0 0,.slice none 0 0]
section
variable {K N:Nat} {T:List Int}
theorem goes_pairG {x y:Nat} (hN:0<N) (h:Goes (adjOf (pairG K N T)) x y) (hx:x<N*N):Goes (pairL K N T) x y∧y<N*N:=by
 induction h with
 | refl=>exact ⟨.refl _,hx⟩
 | step h hz ih =>
  rw [pairG_adj ih.2] at hz
  exact ⟨.step ih.1 hz,((mem_pairL hN).1 hz).lt hN⟩
theorem live_pairG (hN:0<N) {v:Nat} (hv:v<N*N):IsLive (N*N) (adjOf (pairG K N T)) v↔LiveP (N*N) (pairL K N T) v:=by
 constructor
 ·rintro ⟨⟨u,hu,⟨t,ht,h1⟩,h2⟩,⟨u',hu',⟨t',ht',h1'⟩,h2'⟩⟩
  rw [pairG_adj hu] at ht
  rw [pairG_adj hu'] at ht'
  exact ⟨⟨u,hu,⟨t,ht,(goes_pairG hN h1 (((mem_pairL hN).1 ht).lt hN)).1⟩,(goes_pairG hN h2 hu).1⟩,⟨u',hu',⟨t',ht',(goes_pairG hN h1' (((mem_pairL hN).1 ht').lt hN)).1⟩,(goes_pairG hN h2' hv).1⟩⟩
 ·rintro ⟨⟨u,hu,⟨t,ht,h1⟩,h2⟩,⟨u',hu',⟨t',ht',h1'⟩,h2'⟩⟩
  exact ⟨⟨u,hu,⟨t,by rw [pairG_adj hu]; exact ht,(pairG_goes hN h1 (((mem_pairL hN).1 ht).lt hN)).1⟩,(pairG_goes hN h2 hu).1⟩,⟨u',hu',⟨t',by rw [pairG_adj hu']; exact ht',(pairG_goes hN h1' (((mem_pairL hN).1 ht').lt hN)).1⟩,(pairG_goes hN h2' hv).1⟩⟩
end
theorem wk_notOne {K R:Nat} {T:List Int} (hK:1≤K):NotOne K (wkR R) (wkT K R T)↔NotOne K R T:=by
 unfold wkR wkT
 by_cases e:R=0
 ·subst e; rw [if_pos rfl,if_pos rfl]; exact notOne_wide (R:=0) (d:=1) hK
 ·rw [if_neg e,if_neg e]
def oddL (K R:Nat) (L:List Nat):List Nat:=L.filter fun p=>!decide (Diag (pw K (2*wkR R)) p)
theorem odd_none {K R:Nat} {T:List Int} {L:List Nat} (hr:RuleOk K R T) (h:LiveList (pw K (2*wkR R)*pw K (2*wkR R)) (adjOf (pairG K (pw K (2*wkR R)) (wkT K R T))) L):oddL K R L=[]↔¬ NotOne K R T:=by
 have hN:=pw_pos (K:=K) (2*wkR R) hr.k1
 rw [← wk_notOne hr.k1]
 constructor
 ·intro he hno
  obtain ⟨q,h1,h2,h3⟩:=live_of_notOne (wk_ok hr) (wk_pos R) hno
  have:q∈oddL K R L:=List.mem_filter.2 ⟨(h.mem q).2 ⟨h1,(live_pairG (by omega) h1).2 h2⟩,by simp [h3]⟩
  rw [he] at this; cases this
 ·intro hno
  apply Classical.byContradiction
  intro he
  obtain ⟨q,hq⟩:=List.exists_mem_of_ne_nil _ he
  obtain ⟨h1,h2⟩:=List.mem_filter.1 hq
  obtain ⟨h3,h4⟩:=(h.mem q).1 h1
  exact hno (notOne_of_live (wk_ok hr) (wk_pos R) ((live_pairG (by omega) h3).1 h4) (by simpa using h2))
def OneIs (K R:Nat) (T:List Int) (L C Q:List Nat):Prop :=
 ∃ l v m,LiveList (pw K (2*wkR R)*pw K (2*wkR R)) (adjOf (pairG K (pw K (2*wkR R)) (wkT K R T))) l∧oddL K R l=v::m∧WitIs (pairG K (pw K (2*wkR R)) (wkT K R T)) v L C Q
def OnePost (w:World) (K R:Nat) (T:List Int) (yes x y e:Value) (w':World):Prop :=
 e=.nilIface∧((yes=.bool true∧x=zRow∧y=zRow∧¬ NotOne K R T)∨(yes=.bool false∧NotOne K R T∧∃ L C Q aL aC aQ bL bC bQ,OneIs K R T L C Q∧x=.agg #[.int .i64 0,aL,aC,aQ]∧y=.agg #[.int .i64 0,bL,bC,bQ]∧∃ f,Rows w.heap.size w' f ∧
  f (1,0)=some (rowI aL (sideA K (pw K (2*wkR R)) L))∧f (1,1)=some (rowI bL (sideB K (pw K (2*wkR R)) L))∧f (2,0)=some (rowI aC (sideA K (pw K (2*wkR R)) C))∧f (2,1)=some (rowI bC (sideB K (pw K (2*wkR R)) C))∧f (3,0)=some (rowI aQ (sideA K (pw K (2*wkR R)) Q))∧f (3,1)=some (rowI bQ (sideB K (pw K (2*wkR R)) Q))))
theorem one_bad (r:Nat→Addr) (k R:Int) (va:Option Addr) (vn vc:Nat) (T:List Int) (t:Int×List (ByteArray×Int)) (w:World) (hg:Glob r w) (h:IntsAt w (.slice va vn vc) T) (hc:smallP k R T=some t) :
 Calls Tryz.prog 15 #[.agg #[.int .i64 k,.int .i64 R,.slice va vn vc]] w (Ret4 (fun x y z u w'=>x=.bool false∧y=zRow∧z=zRow∧ErrIs r w' (under sInject 0 (under sPairs 0 (some t))) u) w):=by
 have bb:=belowAlloc w (.cells #[.int .i64 k,.int .i64 R,.slice va vn vc] 24)
 have q:Box3 (w.alloc (.cells #[.int .i64 k,.int .i64 R,.slice va vn vc] 24)) w.heap.size (.int .i64 k) (.int .i64 R) (.slice va vn vc):=by simp [Box3,go_sem]
 obtain ⟨f0,R0,n02,o02⟩:=((Rows.void w.heap.size w).below bb).box4 (0,2) (by simp) 42 (.int .i64 0) (.slice none 0 0) (.slice none 0 0) (.slice none 0 0)
 obtain ⟨f1,R1,n03,o03⟩:=R0.box4 (0,3) (by simp; omega) 42 (.int .i64 0) (.slice none 0 0) (.slice none 0 0) (.slice none 0 0)
 replace n02:=(o03 (0,2) (by decide)).trans n02
 simp only [World.size_alloc] at n02 n03
 have b0:Below w.heap.size w (((w.alloc (.cells #[.int .i64 k,.int .i64 R,.slice va vn vc] 24)).alloc (.cells #[.int .i64 0,.slice none 0 0,.slice none 0 0,.slice none 0 0] 42)).alloc (.cells #[.int .i64 0,.slice none 0 0,.slice none 0 0,.slice none 0 0] 42)):=Below.step bb (Below.step (belowAlloc _ _) (belowAlloc _ _))
 replace q:=q.below (Below.step (belowAlloc _ (.cells #[.int .i64 0,.slice none 0 0,.slice none 0 0,.slice none 0 0] 42)) (belowAlloc _ (.cells #[.int .i64 0,.slice none 0 0,.slice none 0 0,.slice none 0 0] 42)))
 clear o02 o03 R0 bb
 replace hg:=Hd (hg.below b0)
 replace h:=Hd (h.below b0)
 replace hc:=Hd hc
 obtain ⟨⟨z0,z1,z2⟩,-,-,-⟩:=q
 replace R1:=Hd R1
 replace n02:=Hd n02
 replace n03:=Hd n03
 go_enter Tryz.func15,Tryz.ntmps15
 go_wp2_with fail
 refine (pgraph_bad r k R va vn vc T t _ hg.out h.out hc.out).mono ?_
 rintro e w1 ⟨x,y,rfl,b1,rfl,hy⟩
 obtain ⟨T2,a2,rfl⟩:∃ T a,y=.iface T (.pointer (some a)):=by
  unfold under at hy
  exact ErrIs.some_shape hy
 replace hy:=Hd hy
 clear z0 z1 z2
 go_wp2_with fail
 refine (under_any r sInject 0 _ _ w1 hy.out).mono ?_
 rintro e w2 ⟨u,rfl,b2,hu⟩
 have hu':=hu
 obtain ⟨T3,a3,rfl⟩:∃ T a,u=.iface T (.pointer (some a)):=by
  unfold under at hu'
  exact ErrIs.some_shape hu'
 clear hu'
 have R2:=(R1.out.below b1).below b2
 replace n02:=n02.out
 replace n03:=n03.out
 have bw:=Below.step b0 (Below.step b1 b2)
 obtain ⟨g0,g1,g2,g3⟩:=R2.cells4 n02
 obtain ⟨h0,h1,h2,h3⟩:=R2.cells4 n03
 have fg0:=R2.frz4 n02 0
 have fh0:=R2.frz4 n03 0
 have fg1:=R2.frz4 n02 1
 have fh1:=R2.frz4 n03 1
 have fg2:=R2.frz4 n02 2
 have fh2:=R2.frz4 n03 2
 have fg3:=R2.frz4 n02 3
 have fh3:=R2.frz4 n03 3
 have c2:=R2.cells4 n02
 have c3:=R2.cells4 n03
 have lg0:=(R2.low4 n02).1
 have lh0:=(R2.low4 n03).1
 obtain ⟨f3,R3,m02,o3⟩:=R2.all4 n02 (.int .i64 0) (.slice none 0 0) (.slice none 0 0) (.slice none 0 0)
 have n03':=(o3 (0,3) (by decide)).trans n03
 have hu2:=hu.all4 c2 (.slice none 0 0) (.slice none 0 0) (.slice none 0 0)
 have hu3:=hu2.all4 (R3.cells4 n03') (.slice none 0 0) (.slice none 0 0) (.slice none 0 0)
 have b15:=Below.all4 (g:=w.heap.size+1) bw lg0 (.int .i64 0) (.slice none 0 0) (.slice none 0 0) (.slice none 0 0)
 have b16:=Below.all4 (g:=w.heap.size+2) b15 lh0 (.int .i64 0) (.slice none 0 0) (.slice none 0 0) (.slice none 0 0)
 replace hu:=Hd hu
 replace hu2:=Hd hu2
 replace hu3:=Hd hu3
 replace R2:=Hd R2
 replace R3:=Hd R3
 replace n02:=Hd n02
 replace n03:=Hd n03
 replace n03':=Hd n03'
 replace m02:=Hd m02
 clear o3 c2 c3
 go_wp2
 (try simp only [Exit.inBlock,Exit.then])
 refine bodyPost_ret (v:=.tuple #[.bool false,zRow,zRow,.iface T3 (.pointer (some a3))]) (by simp [results,Tryz.results15,go_sem,g0,g1,g2,g3,h0,h1,h2,h3]) rfl ?_
 exact ⟨_,_,_,_,rfl,b16,rfl,rfl,rfl,hu3.out⟩
theorem one_ok (r:Nat→Addr) (K R:Nat) (va:Option Addr) (vn vc:Nat) (T:List Int) (w:World) (hg:Glob r w) (h:IntsAt w (.slice va vn vc) T) (hr:RuleOk K R T) (hl:T.length≤256) :
 Calls Tryz.prog 15 #[.agg #[.int .i64 K,.int .i64 R,.slice va vn vc]] w (Ret4 (OnePost w K R T) w):=by
 have bb:=belowAlloc w (.cells #[.int .i64 K,.int .i64 R,.slice va vn vc] 24)
 have q:Box3 (w.alloc (.cells #[.int .i64 K,.int .i64 R,.slice va vn vc] 24)) w.heap.size (.int .i64 K) (.int .i64 R) (.slice va vn vc):=by simp [Box3,go_sem]
 obtain ⟨f0,R0,n02,o02⟩:=((Rows.void w.heap.size w).below bb).box4 (0,2) (by simp) 42 (.int .i64 0) (.slice none 0 0) (.slice none 0 0) (.slice none 0 0)
 obtain ⟨f1,R1,n03,o03⟩:=R0.box4 (0,3) (by simp; omega) 42 (.int .i64 0) (.slice none 0 0) (.slice none 0 0) (.slice none 0 0)
 replace n02:=(o03 (0,2) (by decide)).trans n02
 simp only [World.size_alloc] at n02 n03
 have b0:Below w.heap.size w (((w.alloc (.cells #[.int .i64 K,.int .i64 R,.slice va vn vc] 24)).alloc (.cells #[.int .i64 0,.slice none 0 0,.slice none 0 0,.slice none 0 0] 42)).alloc (.cells #[.int .i64 0,.slice none 0 0,.slice none 0 0,.slice none 0 0] 42)):=Below.step bb (Below.step (belowAlloc _ _) (belowAlloc _ _))
 replace q:=q.below (Below.step (belowAlloc _ (.cells #[.int .i64 0,.slice none 0 0,.slice none 0 0,.slice none 0 0] 42)) (belowAlloc _ (.cells #[.int .i64 0,.slice none 0 0,.slice none 0 0,.slice none 0 0] 42)))
 clear o02 o03 R0 bb
 have hk1:=hr.k1
 have hokW:=wk_ok hr
 have hlW:=wk_small hr hl
 have hRW:=wk_pos R
 have hN81:=nodes_le hokW hRW hlW
 have hN1:=pw_pos (K:=K) (2*wkR R) hk1
 obtain ⟨hdiv,hlen⟩:=hokW.half
 have hNK:pw K (2*wkR R)*K≤256:=by rw [← hlen]; exact hlW
 have hck:=pairG_check (K:=K) (N:=pw K (2*wkR R)) (T:=wkT K R T) (by omega) hN81 hNK
 have hokG:GraphOk (pairG K (pw K (2*wkR R)) (wkT K R T)):=pairG_ok (by omega)
 have hsz:∀ k,k<(pairG K (pw K (2*wkR R)) (wkT K R T)).length→((pairG K (pw K (2*wkR R)) (wkT K R T)).getD k []).length≤17592186044416:=fun k hk=>by
  rw [pairG_len] at hk
  rw [pairG_row hk,castI_len]
  have:=pairL_len K (pw K (2*wkR R)) (wkT K R T) k
  have h4:=hr.k4
  have:=Nat.mul_le_mul h4 h4
  omega
 have hgraph:=fun (w':World) (hgl:Glob r w') (hT:IntsAt w' (.slice va vn vc) T)=>pgraph_ok r K R va vn vc T w' hgl hT hr hl
 have hapart:=fun (w':World) (hgl:Glob r w') (hT:IntsAt w' (.slice va vn vc) T)=>papart_ok r K R va vn vc T w' hgl hT hr hl
 have hlenG:=pairG_len (K:=K) (N:=pw K (2*wkR R)) (T:=wkT K R T)
 have hodd:=fun (L:List Nat) (hL:LiveList (pw K (2*wkR R)*pw K (2*wkR R)) (adjOf (pairG K (pw K (2*wkR R)) (wkT K R T))) L)=>odd_none hr hL
 have hone:∀ (l:List Nat) (v:Nat) (m L C Q:List Nat),LiveList (pw K (2*wkR R)*pw K (2*wkR R)) (adjOf (pairG K (pw K (2*wkR R)) (wkT K R T))) l→oddL K R l=v::m→WitIs (pairG K (pw K (2*wkR R)) (wkT K R T)) v L C Q→OneIs K R T L C Q:=fun l v m L C Q h1 h2 h3=>⟨l,v,m,h1,h2,h3⟩
 have hsub:∀ (L:List Nat) (v:Nat) (m:List Nat),oddL K R L=v::m→v∈L:=fun L v m e=>(List.mem_filter.1 (show v∈oddL K R L by rw [e]; exact List.mem_cons_self)).1
 have hwit:=fun (ga:Option Addr) (gc v:Nat) (w':World) (hgl:Glob r w') (hT:ListsAt w' (.slice ga (pairG K (pw K (2*wkR R)) (wkT K R T)).length gc) (pairG K (pw K (2*wkR R)) (wkT K R T))) (hv:v<(pairG K (pw K (2*wkR R)) (wkT K R T)).length) (hli:IsLive (pairG K (pw K (2*wkR R)) (wkT K R T)).length (adjOf (pairG K (pw K (2*wkR R)) (wkT K R T))) v)=>witness_ok r K (pw K (2*wkR R)) ga gc _ v w' hgl hT hsz hck hokG hlenG hN1 hN81 hk1 hv hli
 replace hgraph:=Hd hgraph
 replace hapart:=Hd hapart
 replace hodd:=Hd hodd
 replace hone:=Hd hone
 replace hsub:=Hd hsub
 replace hwit:=Hd hwit
 replace hlenG:=Hd hlenG
 clear hdiv hlen hNK hck hokG hsz hokW hlW hRW hN81 hl
 replace hg:=Hd (hg.below b0)
 replace h:=Hd (h.below b0)
 replace hr:=Hd hr
 obtain ⟨⟨z0,z1,z2⟩,-,-,-⟩:=q
 have q0:=z0
 replace R1:=Hd R1
 replace n02:=Hd n02
 replace n03:=Hd n03
 replace b0:=Hd b0
 go_enter Tryz.func15,Tryz.ntmps15
 go_wp2_with fail
 refine (hgraph.out _ hg.out h.out).mono ?_
 rintro e w1 ⟨gv,y,rfl,b1,rfl,fg,vals,hrows,hwn⟩
 have hL:ListsAt w1 gv (pairG K (pw K (2*wkR R)) (wkT K R T)):=hwn.lists hrows
 obtain ⟨ga,gc,rfl⟩:=hL.shape
 have c0:w1.cell? ⟨w.heap.size,0,none⟩=some (.int .i64 K):=by rw [b1.cell (World.block_lt_of_cell? _ _ z0)]; exact z0
 have c1:w1.cell? ⟨w.heap.size,1,none⟩=some (.int .i64 R):=by rw [b1.cell (World.block_lt_of_cell? _ _ z1)]; exact z1
 have c2:w1.cell? ⟨w.heap.size,2,none⟩=some (.slice va vn vc):=by rw [b1.cell (World.block_lt_of_cell? _ _ z2)]; exact z2
 have b01:=Below.step b0.out b1
 replace hL:=Hd hL
 clear hrows hwn z0 z1 z2
 rw [hlenG.out]
 generalize hM:pw K (2*wkR R)*pw K (2*wkR R)=M at *
 replace hM:=Hd hM
 go_wp2_with fail
 refine (hapart.out w1 (hg.out.below b1) (h.out.below b1)).mono ?_
 rintro e w2 ⟨av,y,rfl,b2,rfl,L,hLL,how⟩
 have how2:OwnI w1.heap.size w2 av (castI (oddL K R L)):=how
 clear how
 have hnone:=hodd.out L hLL
 have b12:=Below.step b1 b2
 have b02:=Below.step b01 b2
 have R2:=R1.out.below b12
 have k0:w2.cell? ⟨w.heap.size,0,none⟩=some (.int .i64 K):=by rw [b2.cell (World.block_lt_of_cell? _ _ c0)]; exact c0
 have lA:=how2.at.len
 rw [castI_len] at lA
 have hsubL:=hsub.out L
 have honeL:=fun v m L' C' Q' e k=>hone.out L v m L' C' Q' hLL e k
 have hmemL:=hLL.mem
 replace hLL:=Hd hLL
 replace hsubL:=Hd hsubL
 replace honeL:=Hd honeL
 replace hmemL:=Hd hmemL
 clear c0 c1 c2
 cases hod:oddL K R L with
 | nil =>
  rw [hod] at hnone how2 lA
  have hno:=hnone.1 rfl
  obtain ⟨aa,an,ac,rfl⟩:=how2.at.shape
  replace n02:=n02.out
  replace n03:=n03.out
  obtain ⟨g0,g1,g2,g3⟩:=R2.cells4 n02
  obtain ⟨h0,h1,h2,h3⟩:=R2.cells4 n03
  have fg0:=R2.frz4 n02 0
  have fh0:=R2.frz4 n03 0
  have fg1:=R2.frz4 n02 1
  have fh1:=R2.frz4 n03 1
  have fg2:=R2.frz4 n02 2
  have fh2:=R2.frz4 n03 2
  have fg3:=R2.frz4 n02 3
  have fh3:=R2.frz4 n03 3
  have c2:=R2.cells4 n02
  have c3:=R2.cells4 n03
  have lg0:=(R2.low4 n02).1
  have lh0:=(R2.low4 n03).1
  obtain ⟨f3,R3,m02,o3⟩:=R2.all4 n02 (.int .i64 0) (.slice none 0 0) (.slice none 0 0) (.slice none 0 0)
  have b15:=Below.all4 (g:=w.heap.size+1) b02 lg0 (.int .i64 0) (.slice none 0 0) (.slice none 0 0) (.slice none 0 0)
  have b16:=Below.all4 (g:=w.heap.size+2) b15 lh0 (.int .i64 0) (.slice none 0 0) (.slice none 0 0) (.slice none 0 0)
  replace hno:=Hd hno
  replace hod:=Hd hod
  replace how2:=Hd how2
  replace R2:=Hd R2
  replace R3:=Hd R3
  replace n02:=Hd n02
  replace n03:=Hd n03
  replace m02:=Hd m02
  clear o3 c2 c3 hnone
  go_wp2
  (try simp only [Exit.inBlock,Exit.then])
  refine bodyPost_ret (v:=.tuple #[.bool true,zRow,zRow,.nilIface]) (by simp [results,Tryz.results15,go_sem,g0,g1,g2,g3,h0,h1,h2,h3]) rfl ?_
  exact ⟨_,_,_,_,rfl,b16,rfl,.inl ⟨rfl,rfl,rfl,hno.out⟩⟩
 | cons v m =>
  rw [hod] at hnone how2 lA
  have hno:NotOne K R T:=Classical.byContradiction fun q=>by have:=hnone.2 q; cases this
  obtain ⟨aa,an,ac,rfl⟩:=how2.at.shape
  have hvL:=hsubL.out v m hod
  obtain ⟨hvM,hvl⟩:=(hmemL.out v).1 hvL
  have iA:∀ w',(Instr.indexAt 22 (.slice aa an ac) (.int .i64 0)).run Tryz.prog w'=.ok (.pointer (some (valAt (.slice aa an ac) 0))) w':=fun w'=>how2.at.idx 0 (by simp [castI]) w'
  have cA:=how2.at.cellD 0 (by simp [castI])
  rw [show (castI (v::m)).getD 0 0=(v:Int) from rfl] at cA
  have e0:(((v::m).length:Nat):Int)=(m.length:Int)+1:=by simp
  rw [e0] at lA
  have e1:((m.length:Int)+1==0)=false:=by rw [beq_eq_false_iff_ne]; omega
  have hwv:=fun (w':World) (hgl:Glob r w') (hT:ListsAt w' (.slice ga M gc) (pairG K (pw K (2*wkR R)) (wkT K R T)))=>hwit.out ga gc v w' hgl (by rw [hlenG.out]; exact hT) (by rw [hlenG.out]; exact hvM) (by rw [hlenG.out]; exact hvl)
  rw [hlenG.out] at hwv
  have hG2:=hg.out.below b12
  have hL2:ListsAt w2 (.slice ga M gc) (pairG K (pw K (2*wkR R)) (wkT K R T)):=by
   have:=hL.out.below b2
   rwa [hlenG.out] at this
  replace hwv:=Hd hwv
  replace hG2:=Hd hG2
  replace hL2:=Hd hL2
  replace hno:=Hd hno
  replace hvL:=Hd hvL
  replace hvl:=Hd hvl
  replace how2:=Hd how2
  replace R2:=Hd R2
  clear hnone e0
  generalize valAt (.slice aa an ac) 0=ra at *
  replace hod:=Hd hod
  go_upto_region 7 with fail
  go_cut [7,9,10] from 39 (fun s7 s9 s10 wx=>s7=.nilIface∧∃ (g9 g10:Nat) (L C Q:List Nat) (aL aC aQ bL bC bQ:Value) (f:Names),s9=.pointer (some ⟨g9,0,none⟩)∧s10=.pointer (some ⟨g10,0,none⟩)∧Below w.heap.size w wx∧WitIs (pairG K (pw K (2*wkR R)) (wkT K R T)) v L C Q∧Rows w.heap.size wx f∧f (0,2)=some (box4 42 (w.heap.size+1) [.int .i64 0,.slice none 0 0,.slice none 0 0,.slice none 0 0])∧f (0,3)=some (box4 42 (w.heap.size+2) [.int .i64 0,.slice none 0 0,.slice none 0 0,.slice none 0 0])∧f (9,0)=some (box4 42 g9 [.int .i64 0,aL,aC,aQ])∧f (9,1)=some (box4 42 g10 [.int .i64 0,bL,bC,bQ])∧f (1,0)=some (rowI aL (sideA K (pw K (2*wkR R)) L))∧f (1,1)=some (rowI bL (sideB K (pw K (2*wkR R)) L))∧f (2,0)=some (rowI aC (sideA K (pw K (2*wkR R)) C))∧f (2,1)=some (rowI bC (sideB K (pw K (2*wkR R)) C))∧f (3,0)=some (rowI aQ (sideA K (pw K (2*wkR R)) Q))∧f (3,1)=some (rowI bQ (sideB K (pw K (2*wkR R)) Q)))
  case first =>
   obtain ⟨W0,hW0⟩:∃ W0:World,W0=w2.drew:=⟨_,rfl⟩
   have b20:Below w2.heap.size w2 W0:=by rw [hW0]; exact (Below.refl _ _).drew
   have bW0:Below w.heap.size w W0:=by rw [hW0]; exact b02.drew
   have RW0:Rows w.heap.size W0 f1:=by rw [hW0]; exact R2.out.drew
   have hB0:=bW0.size
   have hS0:W0.cell? ⟨w.heap.size,0,none⟩=some (.int .i64 K)∧W0.cell? ra=some (.int .i64 v):=by rw [hW0]; exact ⟨k0,cA⟩
   have hlow:w.heap.size<w2.heap.size∧ra.block<w2.heap.size:=⟨World.block_lt_of_cell? _ _ k0,World.block_lt_of_cell? _ _ cA⟩
   replace n02:=n02.out
   replace n03:=n03.out
   refine wp_region_noPanic ?_
   refine wp_region_any (by kernel_rfl) ?_
   change wpAny _ _ _ _ _ _ _ (World.drew _)
   rw [← hW0]
   clear hW0 k0 cA b02 R2
   refine wpAny_of_held (S:=fun w'=>w'.cell? ⟨w.heap.size,0,none⟩=some (.int .i64 K)∧w'.cell? ra=some (.int .i64 v)) _ _ _ _ ?_
   refine pqD 0 40 hS0 ?_
   refine pqD 1 41 hS0 ?_
   refine pqD 2 42 hS0 ?_
   refine pqD 3 43 hS0 ?_
   refine pqD 4 44 hS0 ?_
   refine pqD 5 45 hS0 ?_
   refine wpAnyH_ready (rs:=[6,11,12]) (by kernel_rfl) (by simp) (AllReadyH.cons rfl (fun KK hK=>?_) (AllReadyH.cons rfl (fun KK hK=>?_) (AllReadyH.cons rfl (fun KK hK=>?_) (AllReadyH.nil))))
   ·go_simp
    refine (hwv.out W0 (hG2.out.below b20) (hL2.out.below b20)).mono ?_
    rintro e W1 ⟨x,y,z,rfl,bb,hz,L',C',Q',aL,aC,aQ,bL,bC,bQ,hwi,rfl,rfl,fw,Rw,k10,k11,k20,k21,k30,k31⟩
    subst hz
    obtain ⟨aLa,aLn,aLc,haL⟩:=(Rw.ownI k10).at.shape
    subst haL
    obtain ⟨bLa,bLn,bLc,hbL⟩:=(Rw.ownI k11).at.shape
    subst hbL
    obtain ⟨aCa,aCn,aCc,haC⟩:=(Rw.ownI k20).at.shape
    subst haC
    obtain ⟨bCa,bCn,bCc,hbC⟩:=(Rw.ownI k21).at.shape
    subst hbC
    obtain ⟨aQa,aQn,aQc,haQ⟩:=(Rw.ownI k30).at.shape
    subst haQ
    obtain ⟨bQa,bQn,bQc,hbQ⟩:=(Rw.ownI k31).at.shape
    subst hbQ
    obtain ⟨f1,RW1,sel,oth⟩:=RW0.merge (fun i=>decide (i.1=1∨i.1=2∨i.1=3)) bb Rw hB0
    replace n02:=(oth (0,2) (by decide)).trans n02
    replace n03:=(oth (0,3) (by decide)).trans n03
    have n10:=(sel (1,0) (by decide)).trans k10
    have n11:=(sel (1,1) (by decide)).trans k11
    have n20:=(sel (2,0) (by decide)).trans k20
    have n21:=(sel (2,1) (by decide)).trans k21
    have n30:=(sel (3,0) (by decide)).trans k30
    have n31:=(sel (3,1) (by decide)).trans k31
    replace hwi:=Hd hwi
    clear sel oth k10 k11 k20 k21 k30 k31 Rw
    have bW1:=bW0.trans (bb.mono hB0)
    have b21:=Below.step b20 bb
    have hB1:=bW1.size
    have hS1:W1.cell? ⟨w.heap.size,0,none⟩=some (.int .i64 K)∧W1.cell? ra=some (.int .i64 v):=⟨by rw [b21.cell hlow.1,← b20.cell hlow.1]; exact hS0.1,by rw [b21.cell hlow.2,← b20.cell hlow.2]; exact hS0.2⟩
    refine hK.out _ _ hS1 fun _=>?_
    clear hK KK bb RW0
    refine pqD 7 39 hS1 ?_
    refine pqD 8 47 hS1 ?_
    refine pqD 9 48 hS1 ?_
    refine pqD 10 49 hS1 ?_
    refine wpAnyH_ready (rs:=[11,12]) (by kernel_rfl) (by simp) (AllReadyH.cons rfl (fun KK hK=>?_) (AllReadyH.cons rfl (fun KK hK=>?_) (AllReadyH.nil)))
    ·go_simp
     obtain ⟨f2,RW2,n90,oo⟩:=RW1.box4 (9,0) hB1 42 (.int .i64 0) (.slice none 0 0) (.slice none 0 0) (.slice none 0 0)
     replace n02:=(oo (0,2) (by decide)).trans n02
     replace n03:=(oo (0,3) (by decide)).trans n03
     replace n10:=(oo (1,0) (by decide)).trans n10
     replace n11:=(oo (1,1) (by decide)).trans n11
     replace n20:=(oo (2,0) (by decide)).trans n20
     replace n21:=(oo (2,1) (by decide)).trans n21
     replace n30:=(oo (3,0) (by decide)).trans n30
     replace n31:=(oo (3,1) (by decide)).trans n31
     have bb:=belowAlloc W1 (.cells #[.int .i64 0,.slice none 0 0,.slice none 0 0,.slice none 0 0] 42)
     obtain ⟨gb9,hgb9⟩:∃ g,W1.heap.size=g:=⟨_,rfl⟩
     obtain ⟨W2,hW2⟩:∃ W':World,W1.alloc (.cells #[.int .i64 0,.slice none 0 0,.slice none 0 0,.slice none 0 0] 42)=W':=⟨_,rfl⟩
     have lgb9:w2.heap.size≤gb9:=by rw [← hgb9]; exact b21.size
     have bW2:=bW1.trans (bb.mono hB1)
     have b22:=Below.step b21 bb
     rw [hW2] at RW2 bW2 b22 bb
     have hB2:=bW2.size
     have hS2:W2.cell? ⟨w.heap.size,0,none⟩=some (.int .i64 K)∧W2.cell? ra=some (.int .i64 v):=⟨by rw [b22.cell hlow.1,← b21.cell hlow.1]; exact hS1.1,by rw [b22.cell hlow.2,← b21.cell hlow.2]; exact hS1.2⟩
     rw [hW2,hgb9]
     rw [hgb9] at n90
     replace hW2:=Hd hW2
     replace hgb9:=Hd hgb9
     refine hK.out _ _ hS2 fun _=>?_
     clear hK KK bb RW1 oo
     refine wpAnyH_ready (rs:=[12]) (by kernel_rfl) (by simp) (AllReadyH.cons rfl (fun KK hK=>?_) (AllReadyH.nil))
     ·go_simp
      obtain ⟨f3,RW3,n91,oo⟩:=RW2.box4 (9,1) hB2 42 (.int .i64 0) (.slice none 0 0) (.slice none 0 0) (.slice none 0 0)
      replace n02:=(oo (0,2) (by decide)).trans n02
      replace n03:=(oo (0,3) (by decide)).trans n03
      replace n10:=(oo (1,0) (by decide)).trans n10
      replace n11:=(oo (1,1) (by decide)).trans n11
      replace n20:=(oo (2,0) (by decide)).trans n20
      replace n21:=(oo (2,1) (by decide)).trans n21
      replace n30:=(oo (3,0) (by decide)).trans n30
      replace n31:=(oo (3,1) (by decide)).trans n31
      replace n90:=(oo (9,0) (by decide)).trans n90
      have bb:=belowAlloc W2 (.cells #[.int .i64 0,.slice none 0 0,.slice none 0 0,.slice none 0 0] 42)
      obtain ⟨gb10,hgb10⟩:∃ g,W2.heap.size=g:=⟨_,rfl⟩
      obtain ⟨W3,hW3⟩:∃ W':World,W2.alloc (.cells #[.int .i64 0,.slice none 0 0,.slice none 0 0,.slice none 0 0] 42)=W':=⟨_,rfl⟩
      have lgb10:w2.heap.size≤gb10:=by rw [← hgb10]; exact b22.size
      have bW3:=bW2.trans (bb.mono hB2)
      have b23:=Below.step b22 bb
      rw [hW3] at RW3 bW3 b23 bb
      have hB3:=bW3.size
      have hS3:W3.cell? ⟨w.heap.size,0,none⟩=some (.int .i64 K)∧W3.cell? ra=some (.int .i64 v):=⟨by rw [b23.cell hlow.1,← b22.cell hlow.1]; exact hS2.1,by rw [b23.cell hlow.2,← b22.cell hlow.2]; exact hS2.2⟩
      rw [hW3,hgb10]
      rw [hgb10] at n91
      replace hW3:=Hd hW3
      replace hgb10:=Hd hgb10
      refine hK.out _ _ hS3 fun _=>?_
      clear hK KK bb RW2 oo
      obtain ⟨t0,t1,t2,t3⟩:=RW3.cells4 n90
      have ft0:=RW3.frz4 n90 0
      have ft1:=RW3.frz4 n90 1
      have ft2:=RW3.frz4 n90 2
      have ft3:=RW3.frz4 n90 3
      have lt:=(RW3.low4 n90)
      obtain ⟨f4,RW4,mm,oo⟩:=RW3.all4 n90 (.int .i64 0) (.slice aLa aLn aLc) (.slice aCa aCn aCc) (.slice aQa aQn aQc)
      replace n02:=(oo (0,2) (by decide)).trans n02
      replace n03:=(oo (0,3) (by decide)).trans n03
      replace n10:=(oo (1,0) (by decide)).trans n10
      replace n11:=(oo (1,1) (by decide)).trans n11
      replace n20:=(oo (2,0) (by decide)).trans n20
      replace n21:=(oo (2,1) (by decide)).trans n21
      replace n30:=(oo (3,0) (by decide)).trans n30
      replace n31:=(oo (3,1) (by decide)).trans n31
      replace n91:=(oo (9,1) (by decide)).trans n91
      clear n90
      have n90:=mm
      have bW4:=Below.all4 (g:=gb9) bW3 lt.1 (.int .i64 0) (.slice aLa aLn aLc) (.slice aCa aCn aCc) (.slice aQa aQn aQc)
      have b24:=Below.all4 (g:=gb9) b23 lgb9 (.int .i64 0) (.slice aLa aLn aLc) (.slice aCa aCn aCc) (.slice aQa aQn aQc)
      obtain ⟨W4,hW4⟩:∃ W':World,(((W3.setCell ⟨gb9,0,none⟩ (.int .i64 0)).setCell ⟨gb9,1,none⟩ (.slice aLa aLn aLc)).setCell ⟨gb9,2,none⟩ (.slice aCa aCn aCc)).setCell ⟨gb9,3,none⟩ (.slice aQa aQn aQc)=W':=⟨_,rfl⟩
      rw [hW4] at RW4 bW4 b24
      have hS4:W4.cell? ⟨w.heap.size,0,none⟩=some (.int .i64 K)∧W4.cell? ra=some (.int .i64 v):=⟨by rw [b24.cell hlow.1,← b23.cell hlow.1]; exact hS3.1,by rw [b24.cell hlow.2,← b23.cell hlow.2]; exact hS3.2⟩
      replace hW4:=Hd hW4
      refine wpAnyH_ready (rs:=[13]) (by kernel_rfl) (by simp) (AllReadyH.cons rfl (fun KK hK=>?_) AllReadyH.nil)
      go_simp
      rw [hW4.out]
      refine hK.out _ _ hS4 fun _=>?_
      clear hK KK t0 t1 t2 t3 ft0 ft1 ft2 ft3 mm oo lt RW3 hW4
      obtain ⟨t0,t1,t2,t3⟩:=RW4.cells4 n91
      have ft0:=RW4.frz4 n91 0
      have ft1:=RW4.frz4 n91 1
      have ft2:=RW4.frz4 n91 2
      have ft3:=RW4.frz4 n91 3
      have lt:=(RW4.low4 n91)
      obtain ⟨f5,RW5,mm,oo⟩:=RW4.all4 n91 (.int .i64 0) (.slice bLa bLn bLc) (.slice bCa bCn bCc) (.slice bQa bQn bQc)
      replace n02:=(oo (0,2) (by decide)).trans n02
      replace n03:=(oo (0,3) (by decide)).trans n03
      replace n10:=(oo (1,0) (by decide)).trans n10
      replace n11:=(oo (1,1) (by decide)).trans n11
      replace n20:=(oo (2,0) (by decide)).trans n20
      replace n21:=(oo (2,1) (by decide)).trans n21
      replace n30:=(oo (3,0) (by decide)).trans n30
      replace n31:=(oo (3,1) (by decide)).trans n31
      replace n90:=(oo (9,0) (by decide)).trans n90
      clear n91
      have n91:=mm
      have bW5:=Below.all4 (g:=gb10) bW4 lt.1 (.int .i64 0) (.slice bLa bLn bLc) (.slice bCa bCn bCc) (.slice bQa bQn bQc)
      have b25:=Below.all4 (g:=gb10) b24 lgb10 (.int .i64 0) (.slice bLa bLn bLc) (.slice bCa bCn bCc) (.slice bQa bQn bQc)
      obtain ⟨W5,hW5⟩:∃ W':World,(((W4.setCell ⟨gb10,0,none⟩ (.int .i64 0)).setCell ⟨gb10,1,none⟩ (.slice bLa bLn bLc)).setCell ⟨gb10,2,none⟩ (.slice bCa bCn bCc)).setCell ⟨gb10,3,none⟩ (.slice bQa bQn bQc)=W':=⟨_,rfl⟩
      rw [hW5] at RW5 bW5 b25
      have hS5:W5.cell? ⟨w.heap.size,0,none⟩=some (.int .i64 K)∧W5.cell? ra=some (.int .i64 v):=⟨by rw [b25.cell hlow.1,← b24.cell hlow.1]; exact hS4.1,by rw [b25.cell hlow.2,← b24.cell hlow.2]; exact hS4.2⟩
      replace hW5:=Hd hW5
      refine wpAnyH_ready (rs:=[14]) (by kernel_rfl) (by simp) (AllReadyH.cons rfl (fun KK hK=>?_) AllReadyH.nil)
      go_simp
      rw [hW5.out]
      refine hK.out _ _ hS5 fun _=>?_
      clear hK KK t0 t1 t2 t3 ft0 ft1 ft2 ft3 mm oo lt RW4 hW5
      refine pqD 15 7 hS5 ?_
      refine wpAnyH_done (by kernel_rfl) ?_ _
      refine NoPanic.normal ?_
      replace n02:=Hd n02
      replace n03:=Hd n03
      replace n90:=Hd n90
      replace n91:=Hd n91
      replace n10:=Hd n10
      replace n11:=Hd n11
      replace n20:=Hd n20
      replace n21:=Hd n21
      replace n30:=Hd n30
      replace n31:=Hd n31
      replace RW5:=Hd RW5
      go_wp2
      go_meet
      case rel=>exact ⟨rfl,gb9,gb10,L',C',Q',_,_,_,_,_,_,f5,rfl,rfl,bW5,hwi.out,RW5.out,n02.out,n03.out,n90.out,n91.out,n10.out,n11.out,n20.out,n21.out,n30.out,n31.out⟩
    ·go_simp
     obtain ⟨f6,RW6,n91,oo⟩:=RW1.box4 (9,1) hB1 42 (.int .i64 0) (.slice none 0 0) (.slice none 0 0) (.slice none 0 0)
     replace n02:=(oo (0,2) (by decide)).trans n02
     replace n03:=(oo (0,3) (by decide)).trans n03
     replace n10:=(oo (1,0) (by decide)).trans n10
     replace n11:=(oo (1,1) (by decide)).trans n11
     replace n20:=(oo (2,0) (by decide)).trans n20
     replace n21:=(oo (2,1) (by decide)).trans n21
     replace n30:=(oo (3,0) (by decide)).trans n30
     replace n31:=(oo (3,1) (by decide)).trans n31
     have bb:=belowAlloc W1 (.cells #[.int .i64 0,.slice none 0 0,.slice none 0 0,.slice none 0 0] 42)
     obtain ⟨gb10,hgb10⟩:∃ g,W1.heap.size=g:=⟨_,rfl⟩
     obtain ⟨W6,hW6⟩:∃ W':World,W1.alloc (.cells #[.int .i64 0,.slice none 0 0,.slice none 0 0,.slice none 0 0] 42)=W':=⟨_,rfl⟩
     have lgb10:w2.heap.size≤gb10:=by rw [← hgb10]; exact b21.size
     have bW6:=bW1.trans (bb.mono hB1)
     have b26:=Below.step b21 bb
     rw [hW6] at RW6 bW6 b26 bb
     have hB6:=bW6.size
     have hS6:W6.cell? ⟨w.heap.size,0,none⟩=some (.int .i64 K)∧W6.cell? ra=some (.int .i64 v):=⟨by rw [b26.cell hlow.1,← b21.cell hlow.1]; exact hS1.1,by rw [b26.cell hlow.2,← b21.cell hlow.2]; exact hS1.2⟩
     rw [hW6,hgb10]
     rw [hgb10] at n91
     replace hW6:=Hd hW6
     replace hgb10:=Hd hgb10
     refine hK.out _ _ hS6 fun _=>?_
     clear hK KK bb RW1 oo
     refine wpAnyH_ready (rs:=[11]) (by kernel_rfl) (by simp) (AllReadyH.cons rfl (fun KK hK=>?_) (AllReadyH.nil))
     ·go_simp
      obtain ⟨f7,RW7,n90,oo⟩:=RW6.box4 (9,0) hB6 42 (.int .i64 0) (.slice none 0 0) (.slice none 0 0) (.slice none 0 0)
      replace n02:=(oo (0,2) (by decide)).trans n02
      replace n03:=(oo (0,3) (by decide)).trans n03
      replace n10:=(oo (1,0) (by decide)).trans n10
      replace n11:=(oo (1,1) (by decide)).trans n11
      replace n20:=(oo (2,0) (by decide)).trans n20
      replace n21:=(oo (2,1) (by decide)).trans n21
      replace n30:=(oo (3,0) (by decide)).trans n30
      replace n31:=(oo (3,1) (by decide)).trans n31
      replace n91:=(oo (9,1) (by decide)).trans n91
      have bb:=belowAlloc W6 (.cells #[.int .i64 0,.slice none 0 0,.slice none 0 0,.slice none 0 0] 42)
      obtain ⟨gb9,hgb9⟩:∃ g,W6.heap.size=g:=⟨_,rfl⟩
      obtain ⟨W7,hW7⟩:∃ W':World,W6.alloc (.cells #[.int .i64 0,.slice none 0 0,.slice none 0 0,.slice none 0 0] 42)=W':=⟨_,rfl⟩
      have lgb9:w2.heap.size≤gb9:=by rw [← hgb9]; exact b26.size
      have bW7:=bW6.trans (bb.mono hB6)
      have b27:=Below.step b26 bb
      rw [hW7] at RW7 bW7 b27 bb
      have hB7:=bW7.size
      have hS7:W7.cell? ⟨w.heap.size,0,none⟩=some (.int .i64 K)∧W7.cell? ra=some (.int .i64 v):=⟨by rw [b27.cell hlow.1,← b26.cell hlow.1]; exact hS6.1,by rw [b27.cell hlow.2,← b26.cell hlow.2]; exact hS6.2⟩
      rw [hW7,hgb9]
      rw [hgb9] at n90
      replace hW7:=Hd hW7
      replace hgb9:=Hd hgb9
      refine hK.out _ _ hS7 fun _=>?_
      clear hK KK bb RW6 oo
      obtain ⟨t0,t1,t2,t3⟩:=RW7.cells4 n90
      have ft0:=RW7.frz4 n90 0
      have ft1:=RW7.frz4 n90 1
      have ft2:=RW7.frz4 n90 2
      have ft3:=RW7.frz4 n90 3
      have lt:=(RW7.low4 n90)
      obtain ⟨f8,RW8,mm,oo⟩:=RW7.all4 n90 (.int .i64 0) (.slice aLa aLn aLc) (.slice aCa aCn aCc) (.slice aQa aQn aQc)
      replace n02:=(oo (0,2) (by decide)).trans n02
      replace n03:=(oo (0,3) (by decide)).trans n03
      replace n10:=(oo (1,0) (by decide)).trans n10
      replace n11:=(oo (1,1) (by decide)).trans n11
      replace n20:=(oo (2,0) (by decide)).trans n20
      replace n21:=(oo (2,1) (by decide)).trans n21
      replace n30:=(oo (3,0) (by decide)).trans n30
      replace n31:=(oo (3,1) (by decide)).trans n31
      replace n91:=(oo (9,1) (by decide)).trans n91
      clear n90
      have n90:=mm
      have bW8:=Below.all4 (g:=gb9) bW7 lt.1 (.int .i64 0) (.slice aLa aLn aLc) (.slice aCa aCn aCc) (.slice aQa aQn aQc)
      have b28:=Below.all4 (g:=gb9) b27 lgb9 (.int .i64 0) (.slice aLa aLn aLc) (.slice aCa aCn aCc) (.slice aQa aQn aQc)
      obtain ⟨W8,hW8⟩:∃ W':World,(((W7.setCell ⟨gb9,0,none⟩ (.int .i64 0)).setCell ⟨gb9,1,none⟩ (.slice aLa aLn aLc)).setCell ⟨gb9,2,none⟩ (.slice aCa aCn aCc)).setCell ⟨gb9,3,none⟩ (.slice aQa aQn aQc)=W':=⟨_,rfl⟩
      rw [hW8] at RW8 bW8 b28
      have hS8:W8.cell? ⟨w.heap.size,0,none⟩=some (.int .i64 K)∧W8.cell? ra=some (.int .i64 v):=⟨by rw [b28.cell hlow.1,← b27.cell hlow.1]; exact hS7.1,by rw [b28.cell hlow.2,← b27.cell hlow.2]; exact hS7.2⟩
      replace hW8:=Hd hW8
      refine wpAnyH_ready (rs:=[13]) (by kernel_rfl) (by simp) (AllReadyH.cons rfl (fun KK hK=>?_) AllReadyH.nil)
      go_simp
      rw [hW8.out]
      refine hK.out _ _ hS8 fun _=>?_
      clear hK KK t0 t1 t2 t3 ft0 ft1 ft2 ft3 mm oo lt RW7 hW8
      obtain ⟨t0,t1,t2,t3⟩:=RW8.cells4 n91
      have ft0:=RW8.frz4 n91 0
      have ft1:=RW8.frz4 n91 1
      have ft2:=RW8.frz4 n91 2
      have ft3:=RW8.frz4 n91 3
      have lt:=(RW8.low4 n91)
      obtain ⟨f9,RW9,mm,oo⟩:=RW8.all4 n91 (.int .i64 0) (.slice bLa bLn bLc) (.slice bCa bCn bCc) (.slice bQa bQn bQc)
      replace n02:=(oo (0,2) (by decide)).trans n02
      replace n03:=(oo (0,3) (by decide)).trans n03
      replace n10:=(oo (1,0) (by decide)).trans n10
      replace n11:=(oo (1,1) (by decide)).trans n11
      replace n20:=(oo (2,0) (by decide)).trans n20
      replace n21:=(oo (2,1) (by decide)).trans n21
      replace n30:=(oo (3,0) (by decide)).trans n30
      replace n31:=(oo (3,1) (by decide)).trans n31
      replace n90:=(oo (9,0) (by decide)).trans n90
      clear n91
      have n91:=mm
      have bW9:=Below.all4 (g:=gb10) bW8 lt.1 (.int .i64 0) (.slice bLa bLn bLc) (.slice bCa bCn bCc) (.slice bQa bQn bQc)
      have b29:=Below.all4 (g:=gb10) b28 lgb10 (.int .i64 0) (.slice bLa bLn bLc) (.slice bCa bCn bCc) (.slice bQa bQn bQc)
      obtain ⟨W9,hW9⟩:∃ W':World,(((W8.setCell ⟨gb10,0,none⟩ (.int .i64 0)).setCell ⟨gb10,1,none⟩ (.slice bLa bLn bLc)).setCell ⟨gb10,2,none⟩ (.slice bCa bCn bCc)).setCell ⟨gb10,3,none⟩ (.slice bQa bQn bQc)=W':=⟨_,rfl⟩
      rw [hW9] at RW9 bW9 b29
      have hS9:W9.cell? ⟨w.heap.size,0,none⟩=some (.int .i64 K)∧W9.cell? ra=some (.int .i64 v):=⟨by rw [b29.cell hlow.1,← b28.cell hlow.1]; exact hS8.1,by rw [b29.cell hlow.2,← b28.cell hlow.2]; exact hS8.2⟩
      replace hW9:=Hd hW9
      refine wpAnyH_ready (rs:=[14]) (by kernel_rfl) (by simp) (AllReadyH.cons rfl (fun KK hK=>?_) AllReadyH.nil)
      go_simp
      rw [hW9.out]
      refine hK.out _ _ hS9 fun _=>?_
      clear hK KK t0 t1 t2 t3 ft0 ft1 ft2 ft3 mm oo lt RW8 hW9
      refine pqD 15 7 hS9 ?_
      refine wpAnyH_done (by kernel_rfl) ?_ _
      refine NoPanic.normal ?_
      replace n02:=Hd n02
      replace n03:=Hd n03
      replace n90:=Hd n90
      replace n91:=Hd n91
      replace n10:=Hd n10
      replace n11:=Hd n11
      replace n20:=Hd n20
      replace n21:=Hd n21
      replace n30:=Hd n30
      replace n31:=Hd n31
      replace RW9:=Hd RW9
      go_wp2
      go_meet
      case rel=>exact ⟨rfl,gb9,gb10,L',C',Q',_,_,_,_,_,_,f9,rfl,rfl,bW9,hwi.out,RW9.out,n02.out,n03.out,n90.out,n91.out,n10.out,n11.out,n20.out,n21.out,n30.out,n31.out⟩
   ·go_simp
    obtain ⟨f10,RW10,n90,oo⟩:=RW0.box4 (9,0) hB0 42 (.int .i64 0) (.slice none 0 0) (.slice none 0 0) (.slice none 0 0)
    replace n02:=(oo (0,2) (by decide)).trans n02
    replace n03:=(oo (0,3) (by decide)).trans n03
    have bb:=belowAlloc W0 (.cells #[.int .i64 0,.slice none 0 0,.slice none 0 0,.slice none 0 0] 42)
    obtain ⟨gb9,hgb9⟩:∃ g,W0.heap.size=g:=⟨_,rfl⟩
    obtain ⟨W10,hW10⟩:∃ W':World,W0.alloc (.cells #[.int .i64 0,.slice none 0 0,.slice none 0 0,.slice none 0 0] 42)=W':=⟨_,rfl⟩
    have lgb9:w2.heap.size≤gb9:=by rw [← hgb9]; exact b20.size
    have bW10:=bW0.trans (bb.mono hB0)
    have b210:=Below.step b20 bb
    rw [hW10] at RW10 bW10 b210 bb
    have hB10:=bW10.size
    have hS10:W10.cell? ⟨w.heap.size,0,none⟩=some (.int .i64 K)∧W10.cell? ra=some (.int .i64 v):=⟨by rw [b210.cell hlow.1,← b20.cell hlow.1]; exact hS0.1,by rw [b210.cell hlow.2,← b20.cell hlow.2]; exact hS0.2⟩
    rw [hW10,hgb9]
    rw [hgb9] at n90
    replace hW10:=Hd hW10
    replace hgb9:=Hd hgb9
    refine hK.out _ _ hS10 fun _=>?_
    clear hK KK bb RW0 oo
    refine wpAnyH_ready (rs:=[6,12]) (by kernel_rfl) (by simp) (AllReadyH.cons rfl (fun KK hK=>?_) (AllReadyH.cons rfl (fun KK hK=>?_) (AllReadyH.nil)))
    ·go_simp
     refine (hwv.out W10 (hG2.out.below b210) (hL2.out.below b210)).mono ?_
     rintro e W11 ⟨x,y,z,rfl,bb,hz,L',C',Q',aL,aC,aQ,bL,bC,bQ,hwi,rfl,rfl,fw,Rw,k10,k11,k20,k21,k30,k31⟩
     subst hz
     obtain ⟨aLa,aLn,aLc,haL⟩:=(Rw.ownI k10).at.shape
     subst haL
     obtain ⟨bLa,bLn,bLc,hbL⟩:=(Rw.ownI k11).at.shape
     subst hbL
     obtain ⟨aCa,aCn,aCc,haC⟩:=(Rw.ownI k20).at.shape
     subst haC
     obtain ⟨bCa,bCn,bCc,hbC⟩:=(Rw.ownI k21).at.shape
     subst hbC
     obtain ⟨aQa,aQn,aQc,haQ⟩:=(Rw.ownI k30).at.shape
     subst haQ
     obtain ⟨bQa,bQn,bQc,hbQ⟩:=(Rw.ownI k31).at.shape
     subst hbQ
     obtain ⟨f11,RW11,sel,oth⟩:=RW10.merge (fun i=>decide (i.1=1∨i.1=2∨i.1=3)) bb Rw hB10
     replace n02:=(oth (0,2) (by decide)).trans n02
     replace n03:=(oth (0,3) (by decide)).trans n03
     replace n90:=(oth (9,0) (by decide)).trans n90
     have n10:=(sel (1,0) (by decide)).trans k10
     have n11:=(sel (1,1) (by decide)).trans k11
     have n20:=(sel (2,0) (by decide)).trans k20
     have n21:=(sel (2,1) (by decide)).trans k21
     have n30:=(sel (3,0) (by decide)).trans k30
     have n31:=(sel (3,1) (by decide)).trans k31
     replace hwi:=Hd hwi
     clear sel oth k10 k11 k20 k21 k30 k31 Rw
     have bW11:=bW10.trans (bb.mono hB10)
     have b211:=Below.step b210 bb
     have hB11:=bW11.size
     have hS11:W11.cell? ⟨w.heap.size,0,none⟩=some (.int .i64 K)∧W11.cell? ra=some (.int .i64 v):=⟨by rw [b211.cell hlow.1,← b210.cell hlow.1]; exact hS10.1,by rw [b211.cell hlow.2,← b210.cell hlow.2]; exact hS10.2⟩
     refine hK.out _ _ hS11 fun _=>?_
     clear hK KK bb RW10
     refine pqD 7 39 hS11 ?_
     refine pqD 8 47 hS11 ?_
     refine pqD 9 48 hS11 ?_
     refine pqD 10 49 hS11 ?_
     refine wpAnyH_ready (rs:=[12]) (by kernel_rfl) (by simp) (AllReadyH.cons rfl (fun KK hK=>?_) (AllReadyH.nil))
     ·go_simp
      obtain ⟨f12,RW12,n91,oo⟩:=RW11.box4 (9,1) hB11 42 (.int .i64 0) (.slice none 0 0) (.slice none 0 0) (.slice none 0 0)
      replace n02:=(oo (0,2) (by decide)).trans n02
      replace n03:=(oo (0,3) (by decide)).trans n03
      replace n90:=(oo (9,0) (by decide)).trans n90
      replace n10:=(oo (1,0) (by decide)).trans n10
      replace n11:=(oo (1,1) (by decide)).trans n11
      replace n20:=(oo (2,0) (by decide)).trans n20
      replace n21:=(oo (2,1) (by decide)).trans n21
      replace n30:=(oo (3,0) (by decide)).trans n30
      replace n31:=(oo (3,1) (by decide)).trans n31
      have bb:=belowAlloc W11 (.cells #[.int .i64 0,.slice none 0 0,.slice none 0 0,.slice none 0 0] 42)
      obtain ⟨gb10,hgb10⟩:∃ g,W11.heap.size=g:=⟨_,rfl⟩
      obtain ⟨W12,hW12⟩:∃ W':World,W11.alloc (.cells #[.int .i64 0,.slice none 0 0,.slice none 0 0,.slice none 0 0] 42)=W':=⟨_,rfl⟩
      have lgb10:w2.heap.size≤gb10:=by rw [← hgb10]; exact b211.size
      have bW12:=bW11.trans (bb.mono hB11)
      have b212:=Below.step b211 bb
      rw [hW12] at RW12 bW12 b212 bb
      have hB12:=bW12.size
      have hS12:W12.cell? ⟨w.heap.size,0,none⟩=some (.int .i64 K)∧W12.cell? ra=some (.int .i64 v):=⟨by rw [b212.cell hlow.1,← b211.cell hlow.1]; exact hS11.1,by rw [b212.cell hlow.2,← b211.cell hlow.2]; exact hS11.2⟩
      rw [hW12,hgb10]
      rw [hgb10] at n91
      replace hW12:=Hd hW12
      replace hgb10:=Hd hgb10
      refine hK.out _ _ hS12 fun _=>?_
      clear hK KK bb RW11 oo
      obtain ⟨t0,t1,t2,t3⟩:=RW12.cells4 n90
      have ft0:=RW12.frz4 n90 0
      have ft1:=RW12.frz4 n90 1
      have ft2:=RW12.frz4 n90 2
      have ft3:=RW12.frz4 n90 3
      have lt:=(RW12.low4 n90)
      obtain ⟨f13,RW13,mm,oo⟩:=RW12.all4 n90 (.int .i64 0) (.slice aLa aLn aLc) (.slice aCa aCn aCc) (.slice aQa aQn aQc)
      replace n02:=(oo (0,2) (by decide)).trans n02
      replace n03:=(oo (0,3) (by decide)).trans n03
      replace n10:=(oo (1,0) (by decide)).trans n10
      replace n11:=(oo (1,1) (by decide)).trans n11
      replace n20:=(oo (2,0) (by decide)).trans n20
      replace n21:=(oo (2,1) (by decide)).trans n21
      replace n30:=(oo (3,0) (by decide)).trans n30
      replace n31:=(oo (3,1) (by decide)).trans n31
      replace n91:=(oo (9,1) (by decide)).trans n91
      clear n90
      have n90:=mm
      have bW13:=Below.all4 (g:=gb9) bW12 lt.1 (.int .i64 0) (.slice aLa aLn aLc) (.slice aCa aCn aCc) (.slice aQa aQn aQc)
      have b213:=Below.all4 (g:=gb9) b212 lgb9 (.int .i64 0) (.slice aLa aLn aLc) (.slice aCa aCn aCc) (.slice aQa aQn aQc)
      obtain ⟨W13,hW13⟩:∃ W':World,(((W12.setCell ⟨gb9,0,none⟩ (.int .i64 0)).setCell ⟨gb9,1,none⟩ (.slice aLa aLn aLc)).setCell ⟨gb9,2,none⟩ (.slice aCa aCn aCc)).setCell ⟨gb9,3,none⟩ (.slice aQa aQn aQc)=W':=⟨_,rfl⟩
      rw [hW13] at RW13 bW13 b213
      have hS13:W13.cell? ⟨w.heap.size,0,none⟩=some (.int .i64 K)∧W13.cell? ra=some (.int .i64 v):=⟨by rw [b213.cell hlow.1,← b212.cell hlow.1]; exact hS12.1,by rw [b213.cell hlow.2,← b212.cell hlow.2]; exact hS12.2⟩
      replace hW13:=Hd hW13
      refine wpAnyH_ready (rs:=[13]) (by kernel_rfl) (by simp) (AllReadyH.cons rfl (fun KK hK=>?_) AllReadyH.nil)
      go_simp
      rw [hW13.out]
      refine hK.out _ _ hS13 fun _=>?_
      clear hK KK t0 t1 t2 t3 ft0 ft1 ft2 ft3 mm oo lt RW12 hW13
      obtain ⟨t0,t1,t2,t3⟩:=RW13.cells4 n91
      have ft0:=RW13.frz4 n91 0
      have ft1:=RW13.frz4 n91 1
      have ft2:=RW13.frz4 n91 2
      have ft3:=RW13.frz4 n91 3
      have lt:=(RW13.low4 n91)
      obtain ⟨f14,RW14,mm,oo⟩:=RW13.all4 n91 (.int .i64 0) (.slice bLa bLn bLc) (.slice bCa bCn bCc) (.slice bQa bQn bQc)
      replace n02:=(oo (0,2) (by decide)).trans n02
      replace n03:=(oo (0,3) (by decide)).trans n03
      replace n90:=(oo (9,0) (by decide)).trans n90
      replace n10:=(oo (1,0) (by decide)).trans n10
      replace n11:=(oo (1,1) (by decide)).trans n11
      replace n20:=(oo (2,0) (by decide)).trans n20
      replace n21:=(oo (2,1) (by decide)).trans n21
      replace n30:=(oo (3,0) (by decide)).trans n30
      replace n31:=(oo (3,1) (by decide)).trans n31
      clear n91
      have n91:=mm
      have bW14:=Below.all4 (g:=gb10) bW13 lt.1 (.int .i64 0) (.slice bLa bLn bLc) (.slice bCa bCn bCc) (.slice bQa bQn bQc)
      have b214:=Below.all4 (g:=gb10) b213 lgb10 (.int .i64 0) (.slice bLa bLn bLc) (.slice bCa bCn bCc) (.slice bQa bQn bQc)
      obtain ⟨W14,hW14⟩:∃ W':World,(((W13.setCell ⟨gb10,0,none⟩ (.int .i64 0)).setCell ⟨gb10,1,none⟩ (.slice bLa bLn bLc)).setCell ⟨gb10,2,none⟩ (.slice bCa bCn bCc)).setCell ⟨gb10,3,none⟩ (.slice bQa bQn bQc)=W':=⟨_,rfl⟩
      rw [hW14] at RW14 bW14 b214
      have hS14:W14.cell? ⟨w.heap.size,0,none⟩=some (.int .i64 K)∧W14.cell? ra=some (.int .i64 v):=⟨by rw [b214.cell hlow.1,← b213.cell hlow.1]; exact hS13.1,by rw [b214.cell hlow.2,← b213.cell hlow.2]; exact hS13.2⟩
      replace hW14:=Hd hW14
      refine wpAnyH_ready (rs:=[14]) (by kernel_rfl) (by simp) (AllReadyH.cons rfl (fun KK hK=>?_) AllReadyH.nil)
      go_simp
      rw [hW14.out]
      refine hK.out _ _ hS14 fun _=>?_
      clear hK KK t0 t1 t2 t3 ft0 ft1 ft2 ft3 mm oo lt RW13 hW14
      refine pqD 15 7 hS14 ?_
      refine wpAnyH_done (by kernel_rfl) ?_ _
      refine NoPanic.normal ?_
      replace n02:=Hd n02
      replace n03:=Hd n03
      replace n90:=Hd n90
      replace n91:=Hd n91
      replace n10:=Hd n10
      replace n11:=Hd n11
      replace n20:=Hd n20
      replace n21:=Hd n21
      replace n30:=Hd n30
      replace n31:=Hd n31
      replace RW14:=Hd RW14
      go_wp2
      go_meet
      case rel=>exact ⟨rfl,gb9,gb10,L',C',Q',_,_,_,_,_,_,f14,rfl,rfl,bW14,hwi.out,RW14.out,n02.out,n03.out,n90.out,n91.out,n10.out,n11.out,n20.out,n21.out,n30.out,n31.out⟩
    ·go_simp
     obtain ⟨f15,RW15,n91,oo⟩:=RW10.box4 (9,1) hB10 42 (.int .i64 0) (.slice none 0 0) (.slice none 0 0) (.slice none 0 0)
     replace n02:=(oo (0,2) (by decide)).trans n02
     replace n03:=(oo (0,3) (by decide)).trans n03
     replace n90:=(oo (9,0) (by decide)).trans n90
     have bb:=belowAlloc W10 (.cells #[.int .i64 0,.slice none 0 0,.slice none 0 0,.slice none 0 0] 42)
     obtain ⟨gb10,hgb10⟩:∃ g,W10.heap.size=g:=⟨_,rfl⟩
     obtain ⟨W15,hW15⟩:∃ W':World,W10.alloc (.cells #[.int .i64 0,.slice none 0 0,.slice none 0 0,.slice none 0 0] 42)=W':=⟨_,rfl⟩
     have lgb10:w2.heap.size≤gb10:=by rw [← hgb10]; exact b210.size
     have bW15:=bW10.trans (bb.mono hB10)
     have b215:=Below.step b210 bb
     rw [hW15] at RW15 bW15 b215 bb
     have hB15:=bW15.size
     have hS15:W15.cell? ⟨w.heap.size,0,none⟩=some (.int .i64 K)∧W15.cell? ra=some (.int .i64 v):=⟨by rw [b215.cell hlow.1,← b210.cell hlow.1]; exact hS10.1,by rw [b215.cell hlow.2,← b210.cell hlow.2]; exact hS10.2⟩
     rw [hW15,hgb10]
     rw [hgb10] at n91
     replace hW15:=Hd hW15
     replace hgb10:=Hd hgb10
     refine hK.out _ _ hS15 fun _=>?_
     clear hK KK bb RW10 oo
     refine wpAnyH_ready (rs:=[6]) (by kernel_rfl) (by simp) (AllReadyH.cons rfl (fun KK hK=>?_) (AllReadyH.nil))
     ·go_simp
      refine (hwv.out W15 (hG2.out.below b215) (hL2.out.below b215)).mono ?_
      rintro e W16 ⟨x,y,z,rfl,bb,hz,L',C',Q',aL,aC,aQ,bL,bC,bQ,hwi,rfl,rfl,fw,Rw,k10,k11,k20,k21,k30,k31⟩
      subst hz
      obtain ⟨aLa,aLn,aLc,haL⟩:=(Rw.ownI k10).at.shape
      subst haL
      obtain ⟨bLa,bLn,bLc,hbL⟩:=(Rw.ownI k11).at.shape
      subst hbL
      obtain ⟨aCa,aCn,aCc,haC⟩:=(Rw.ownI k20).at.shape
      subst haC
      obtain ⟨bCa,bCn,bCc,hbC⟩:=(Rw.ownI k21).at.shape
      subst hbC
      obtain ⟨aQa,aQn,aQc,haQ⟩:=(Rw.ownI k30).at.shape
      subst haQ
      obtain ⟨bQa,bQn,bQc,hbQ⟩:=(Rw.ownI k31).at.shape
      subst hbQ
      obtain ⟨f16,RW16,sel,oth⟩:=RW15.merge (fun i=>decide (i.1=1∨i.1=2∨i.1=3)) bb Rw hB15
      replace n02:=(oth (0,2) (by decide)).trans n02
      replace n03:=(oth (0,3) (by decide)).trans n03
      replace n90:=(oth (9,0) (by decide)).trans n90
      replace n91:=(oth (9,1) (by decide)).trans n91
      have n10:=(sel (1,0) (by decide)).trans k10
      have n11:=(sel (1,1) (by decide)).trans k11
      have n20:=(sel (2,0) (by decide)).trans k20
      have n21:=(sel (2,1) (by decide)).trans k21
      have n30:=(sel (3,0) (by decide)).trans k30
      have n31:=(sel (3,1) (by decide)).trans k31
      replace hwi:=Hd hwi
      clear sel oth k10 k11 k20 k21 k30 k31 Rw
      have bW16:=bW15.trans (bb.mono hB15)
      have b216:=Below.step b215 bb
      have hB16:=bW16.size
      have hS16:W16.cell? ⟨w.heap.size,0,none⟩=some (.int .i64 K)∧W16.cell? ra=some (.int .i64 v):=⟨by rw [b216.cell hlow.1,← b215.cell hlow.1]; exact hS15.1,by rw [b216.cell hlow.2,← b215.cell hlow.2]; exact hS15.2⟩
      refine hK.out _ _ hS16 fun _=>?_
      clear hK KK bb RW15
      refine pqD 7 39 hS16 ?_
      refine pqD 8 47 hS16 ?_
      refine pqD 9 48 hS16 ?_
      refine pqD 10 49 hS16 ?_
      obtain ⟨t0,t1,t2,t3⟩:=RW16.cells4 n90
      have ft0:=RW16.frz4 n90 0
      have ft1:=RW16.frz4 n90 1
      have ft2:=RW16.frz4 n90 2
      have ft3:=RW16.frz4 n90 3
      have lt:=(RW16.low4 n90)
      obtain ⟨f17,RW17,mm,oo⟩:=RW16.all4 n90 (.int .i64 0) (.slice aLa aLn aLc) (.slice aCa aCn aCc) (.slice aQa aQn aQc)
      replace n02:=(oo (0,2) (by decide)).trans n02
      replace n03:=(oo (0,3) (by decide)).trans n03
      replace n91:=(oo (9,1) (by decide)).trans n91
      replace n10:=(oo (1,0) (by decide)).trans n10
      replace n11:=(oo (1,1) (by decide)).trans n11
      replace n20:=(oo (2,0) (by decide)).trans n20
      replace n21:=(oo (2,1) (by decide)).trans n21
      replace n30:=(oo (3,0) (by decide)).trans n30
      replace n31:=(oo (3,1) (by decide)).trans n31
      clear n90
      have n90:=mm
      have bW17:=Below.all4 (g:=gb9) bW16 lt.1 (.int .i64 0) (.slice aLa aLn aLc) (.slice aCa aCn aCc) (.slice aQa aQn aQc)
      have b217:=Below.all4 (g:=gb9) b216 lgb9 (.int .i64 0) (.slice aLa aLn aLc) (.slice aCa aCn aCc) (.slice aQa aQn aQc)
      obtain ⟨W17,hW17⟩:∃ W':World,(((W16.setCell ⟨gb9,0,none⟩ (.int .i64 0)).setCell ⟨gb9,1,none⟩ (.slice aLa aLn aLc)).setCell ⟨gb9,2,none⟩ (.slice aCa aCn aCc)).setCell ⟨gb9,3,none⟩ (.slice aQa aQn aQc)=W':=⟨_,rfl⟩
      rw [hW17] at RW17 bW17 b217
      have hS17:W17.cell? ⟨w.heap.size,0,none⟩=some (.int .i64 K)∧W17.cell? ra=some (.int .i64 v):=⟨by rw [b217.cell hlow.1,← b216.cell hlow.1]; exact hS16.1,by rw [b217.cell hlow.2,← b216.cell hlow.2]; exact hS16.2⟩
      replace hW17:=Hd hW17
      refine wpAnyH_ready (rs:=[13]) (by kernel_rfl) (by simp) (AllReadyH.cons rfl (fun KK hK=>?_) AllReadyH.nil)
      go_simp
      rw [hW17.out]
      refine hK.out _ _ hS17 fun _=>?_
      clear hK KK t0 t1 t2 t3 ft0 ft1 ft2 ft3 mm oo lt RW16 hW17
      obtain ⟨t0,t1,t2,t3⟩:=RW17.cells4 n91
      have ft0:=RW17.frz4 n91 0
      have ft1:=RW17.frz4 n91 1
      have ft2:=RW17.frz4 n91 2
      have ft3:=RW17.frz4 n91 3
      have lt:=(RW17.low4 n91)
      obtain ⟨f18,RW18,mm,oo⟩:=RW17.all4 n91 (.int .i64 0) (.slice bLa bLn bLc) (.slice bCa bCn bCc) (.slice bQa bQn bQc)
      replace n02:=(oo (0,2) (by decide)).trans n02
      replace n03:=(oo (0,3) (by decide)).trans n03
      replace n90:=(oo (9,0) (by decide)).trans n90
      replace n10:=(oo (1,0) (by decide)).trans n10
      replace n11:=(oo (1,1) (by decide)).trans n11
      replace n20:=(oo (2,0) (by decide)).trans n20
      replace n21:=(oo (2,1) (by decide)).trans n21
      replace n30:=(oo (3,0) (by decide)).trans n30
      replace n31:=(oo (3,1) (by decide)).trans n31
      clear n91
      have n91:=mm
      have bW18:=Below.all4 (g:=gb10) bW17 lt.1 (.int .i64 0) (.slice bLa bLn bLc) (.slice bCa bCn bCc) (.slice bQa bQn bQc)
      have b218:=Below.all4 (g:=gb10) b217 lgb10 (.int .i64 0) (.slice bLa bLn bLc) (.slice bCa bCn bCc) (.slice bQa bQn bQc)
      obtain ⟨W18,hW18⟩:∃ W':World,(((W17.setCell ⟨gb10,0,none⟩ (.int .i64 0)).setCell ⟨gb10,1,none⟩ (.slice bLa bLn bLc)).setCell ⟨gb10,2,none⟩ (.slice bCa bCn bCc)).setCell ⟨gb10,3,none⟩ (.slice bQa bQn bQc)=W':=⟨_,rfl⟩
      rw [hW18] at RW18 bW18 b218
      have hS18:W18.cell? ⟨w.heap.size,0,none⟩=some (.int .i64 K)∧W18.cell? ra=some (.int .i64 v):=⟨by rw [b218.cell hlow.1,← b217.cell hlow.1]; exact hS17.1,by rw [b218.cell hlow.2,← b217.cell hlow.2]; exact hS17.2⟩
      replace hW18:=Hd hW18
      refine wpAnyH_ready (rs:=[14]) (by kernel_rfl) (by simp) (AllReadyH.cons rfl (fun KK hK=>?_) AllReadyH.nil)
      go_simp
      rw [hW18.out]
      refine hK.out _ _ hS18 fun _=>?_
      clear hK KK t0 t1 t2 t3 ft0 ft1 ft2 ft3 mm oo lt RW17 hW18
      refine pqD 15 7 hS18 ?_
      refine wpAnyH_done (by kernel_rfl) ?_ _
      refine NoPanic.normal ?_
      replace n02:=Hd n02
      replace n03:=Hd n03
      replace n90:=Hd n90
      replace n91:=Hd n91
      replace n10:=Hd n10
      replace n11:=Hd n11
      replace n20:=Hd n20
      replace n21:=Hd n21
      replace n30:=Hd n30
      replace n31:=Hd n31
      replace RW18:=Hd RW18
      go_wp2
      go_meet
      case rel=>exact ⟨rfl,gb9,gb10,L',C',Q',_,_,_,_,_,_,f18,rfl,rfl,bW18,hwi.out,RW18.out,n02.out,n03.out,n90.out,n91.out,n10.out,n11.out,n20.out,n21.out,n30.out,n31.out⟩
   ·go_simp
    obtain ⟨f19,RW19,n91,oo⟩:=RW0.box4 (9,1) hB0 42 (.int .i64 0) (.slice none 0 0) (.slice none 0 0) (.slice none 0 0)
    replace n02:=(oo (0,2) (by decide)).trans n02
    replace n03:=(oo (0,3) (by decide)).trans n03
    have bb:=belowAlloc W0 (.cells #[.int .i64 0,.slice none 0 0,.slice none 0 0,.slice none 0 0] 42)
    obtain ⟨gb10,hgb10⟩:∃ g,W0.heap.size=g:=⟨_,rfl⟩
    obtain ⟨W19,hW19⟩:∃ W':World,W0.alloc (.cells #[.int .i64 0,.slice none 0 0,.slice none 0 0,.slice none 0 0] 42)=W':=⟨_,rfl⟩
    have lgb10:w2.heap.size≤gb10:=by rw [← hgb10]; exact b20.size
    have bW19:=bW0.trans (bb.mono hB0)
    have b219:=Below.step b20 bb
    rw [hW19] at RW19 bW19 b219 bb
    have hB19:=bW19.size
    have hS19:W19.cell? ⟨w.heap.size,0,none⟩=some (.int .i64 K)∧W19.cell? ra=some (.int .i64 v):=⟨by rw [b219.cell hlow.1,← b20.cell hlow.1]; exact hS0.1,by rw [b219.cell hlow.2,← b20.cell hlow.2]; exact hS0.2⟩
    rw [hW19,hgb10]
    rw [hgb10] at n91
    replace hW19:=Hd hW19
    replace hgb10:=Hd hgb10
    refine hK.out _ _ hS19 fun _=>?_
    clear hK KK bb RW0 oo
    refine wpAnyH_ready (rs:=[6,11]) (by kernel_rfl) (by simp) (AllReadyH.cons rfl (fun KK hK=>?_) (AllReadyH.cons rfl (fun KK hK=>?_) (AllReadyH.nil)))
    ·go_simp
     refine (hwv.out W19 (hG2.out.below b219) (hL2.out.below b219)).mono ?_
     rintro e W20 ⟨x,y,z,rfl,bb,hz,L',C',Q',aL,aC,aQ,bL,bC,bQ,hwi,rfl,rfl,fw,Rw,k10,k11,k20,k21,k30,k31⟩
     subst hz
     obtain ⟨aLa,aLn,aLc,haL⟩:=(Rw.ownI k10).at.shape
     subst haL
     obtain ⟨bLa,bLn,bLc,hbL⟩:=(Rw.ownI k11).at.shape
     subst hbL
     obtain ⟨aCa,aCn,aCc,haC⟩:=(Rw.ownI k20).at.shape
     subst haC
     obtain ⟨bCa,bCn,bCc,hbC⟩:=(Rw.ownI k21).at.shape
     subst hbC
     obtain ⟨aQa,aQn,aQc,haQ⟩:=(Rw.ownI k30).at.shape
     subst haQ
     obtain ⟨bQa,bQn,bQc,hbQ⟩:=(Rw.ownI k31).at.shape
     subst hbQ
     obtain ⟨f20,RW20,sel,oth⟩:=RW19.merge (fun i=>decide (i.1=1∨i.1=2∨i.1=3)) bb Rw hB19
     replace n02:=(oth (0,2) (by decide)).trans n02
     replace n03:=(oth (0,3) (by decide)).trans n03
     replace n91:=(oth (9,1) (by decide)).trans n91
     have n10:=(sel (1,0) (by decide)).trans k10
     have n11:=(sel (1,1) (by decide)).trans k11
     have n20:=(sel (2,0) (by decide)).trans k20
     have n21:=(sel (2,1) (by decide)).trans k21
     have n30:=(sel (3,0) (by decide)).trans k30
     have n31:=(sel (3,1) (by decide)).trans k31
     replace hwi:=Hd hwi
     clear sel oth k10 k11 k20 k21 k30 k31 Rw
     have bW20:=bW19.trans (bb.mono hB19)
     have b220:=Below.step b219 bb
     have hB20:=bW20.size
     have hS20:W20.cell? ⟨w.heap.size,0,none⟩=some (.int .i64 K)∧W20.cell? ra=some (.int .i64 v):=⟨by rw [b220.cell hlow.1,← b219.cell hlow.1]; exact hS19.1,by rw [b220.cell hlow.2,← b219.cell hlow.2]; exact hS19.2⟩
     refine hK.out _ _ hS20 fun _=>?_
     clear hK KK bb RW19
     refine pqD 7 39 hS20 ?_
     refine pqD 8 47 hS20 ?_
     refine pqD 9 48 hS20 ?_
     refine pqD 10 49 hS20 ?_
     refine wpAnyH_ready (rs:=[11]) (by kernel_rfl) (by simp) (AllReadyH.cons rfl (fun KK hK=>?_) (AllReadyH.nil))
     ·go_simp
      obtain ⟨f21,RW21,n90,oo⟩:=RW20.box4 (9,0) hB20 42 (.int .i64 0) (.slice none 0 0) (.slice none 0 0) (.slice none 0 0)
      replace n02:=(oo (0,2) (by decide)).trans n02
      replace n03:=(oo (0,3) (by decide)).trans n03
      replace n91:=(oo (9,1) (by decide)).trans n91
      replace n10:=(oo (1,0) (by decide)).trans n10
      replace n11:=(oo (1,1) (by decide)).trans n11
      replace n20:=(oo (2,0) (by decide)).trans n20
      replace n21:=(oo (2,1) (by decide)).trans n21
      replace n30:=(oo (3,0) (by decide)).trans n30
      replace n31:=(oo (3,1) (by decide)).trans n31
      have bb:=belowAlloc W20 (.cells #[.int .i64 0,.slice none 0 0,.slice none 0 0,.slice none 0 0] 42)
      obtain ⟨gb9,hgb9⟩:∃ g,W20.heap.size=g:=⟨_,rfl⟩
      obtain ⟨W21,hW21⟩:∃ W':World,W20.alloc (.cells #[.int .i64 0,.slice none 0 0,.slice none 0 0,.slice none 0 0] 42)=W':=⟨_,rfl⟩
      have lgb9:w2.heap.size≤gb9:=by rw [← hgb9]; exact b220.size
      have bW21:=bW20.trans (bb.mono hB20)
      have b221:=Below.step b220 bb
      rw [hW21] at RW21 bW21 b221 bb
      have hB21:=bW21.size
      have hS21:W21.cell? ⟨w.heap.size,0,none⟩=some (.int .i64 K)∧W21.cell? ra=some (.int .i64 v):=⟨by rw [b221.cell hlow.1,← b220.cell hlow.1]; exact hS20.1,by rw [b221.cell hlow.2,← b220.cell hlow.2]; exact hS20.2⟩
      rw [hW21,hgb9]
      rw [hgb9] at n90
      replace hW21:=Hd hW21
      replace hgb9:=Hd hgb9
      refine hK.out _ _ hS21 fun _=>?_
      clear hK KK bb RW20 oo
      obtain ⟨t0,t1,t2,t3⟩:=RW21.cells4 n90
      have ft0:=RW21.frz4 n90 0
      have ft1:=RW21.frz4 n90 1
      have ft2:=RW21.frz4 n90 2
      have ft3:=RW21.frz4 n90 3
      have lt:=(RW21.low4 n90)
      obtain ⟨f22,RW22,mm,oo⟩:=RW21.all4 n90 (.int .i64 0) (.slice aLa aLn aLc) (.slice aCa aCn aCc) (.slice aQa aQn aQc)
      replace n02:=(oo (0,2) (by decide)).trans n02
      replace n03:=(oo (0,3) (by decide)).trans n03
      replace n91:=(oo (9,1) (by decide)).trans n91
      replace n10:=(oo (1,0) (by decide)).trans n10
      replace n11:=(oo (1,1) (by decide)).trans n11
      replace n20:=(oo (2,0) (by decide)).trans n20
      replace n21:=(oo (2,1) (by decide)).trans n21
      replace n30:=(oo (3,0) (by decide)).trans n30
      replace n31:=(oo (3,1) (by decide)).trans n31
      clear n90
      have n90:=mm
      have bW22:=Below.all4 (g:=gb9) bW21 lt.1 (.int .i64 0) (.slice aLa aLn aLc) (.slice aCa aCn aCc) (.slice aQa aQn aQc)
      have b222:=Below.all4 (g:=gb9) b221 lgb9 (.int .i64 0) (.slice aLa aLn aLc) (.slice aCa aCn aCc) (.slice aQa aQn aQc)
      obtain ⟨W22,hW22⟩:∃ W':World,(((W21.setCell ⟨gb9,0,none⟩ (.int .i64 0)).setCell ⟨gb9,1,none⟩ (.slice aLa aLn aLc)).setCell ⟨gb9,2,none⟩ (.slice aCa aCn aCc)).setCell ⟨gb9,3,none⟩ (.slice aQa aQn aQc)=W':=⟨_,rfl⟩
      rw [hW22] at RW22 bW22 b222
      have hS22:W22.cell? ⟨w.heap.size,0,none⟩=some (.int .i64 K)∧W22.cell? ra=some (.int .i64 v):=⟨by rw [b222.cell hlow.1,← b221.cell hlow.1]; exact hS21.1,by rw [b222.cell hlow.2,← b221.cell hlow.2]; exact hS21.2⟩
      replace hW22:=Hd hW22
      refine wpAnyH_ready (rs:=[13]) (by kernel_rfl) (by simp) (AllReadyH.cons rfl (fun KK hK=>?_) AllReadyH.nil)
      go_simp
      rw [hW22.out]
      refine hK.out _ _ hS22 fun _=>?_
      clear hK KK t0 t1 t2 t3 ft0 ft1 ft2 ft3 mm oo lt RW21 hW22
      obtain ⟨t0,t1,t2,t3⟩:=RW22.cells4 n91
      have ft0:=RW22.frz4 n91 0
      have ft1:=RW22.frz4 n91 1
      have ft2:=RW22.frz4 n91 2
      have ft3:=RW22.frz4 n91 3
      have lt:=(RW22.low4 n91)
      obtain ⟨f23,RW23,mm,oo⟩:=RW22.all4 n91 (.int .i64 0) (.slice bLa bLn bLc) (.slice bCa bCn bCc) (.slice bQa bQn bQc)
      replace n02:=(oo (0,2) (by decide)).trans n02
      replace n03:=(oo (0,3) (by decide)).trans n03
      replace n10:=(oo (1,0) (by decide)).trans n10
      replace n11:=(oo (1,1) (by decide)).trans n11
      replace n20:=(oo (2,0) (by decide)).trans n20
      replace n21:=(oo (2,1) (by decide)).trans n21
      replace n30:=(oo (3,0) (by decide)).trans n30
      replace n31:=(oo (3,1) (by decide)).trans n31
      replace n90:=(oo (9,0) (by decide)).trans n90
      clear n91
      have n91:=mm
      have bW23:=Below.all4 (g:=gb10) bW22 lt.1 (.int .i64 0) (.slice bLa bLn bLc) (.slice bCa bCn bCc) (.slice bQa bQn bQc)
      have b223:=Below.all4 (g:=gb10) b222 lgb10 (.int .i64 0) (.slice bLa bLn bLc) (.slice bCa bCn bCc) (.slice bQa bQn bQc)
      obtain ⟨W23,hW23⟩:∃ W':World,(((W22.setCell ⟨gb10,0,none⟩ (.int .i64 0)).setCell ⟨gb10,1,none⟩ (.slice bLa bLn bLc)).setCell ⟨gb10,2,none⟩ (.slice bCa bCn bCc)).setCell ⟨gb10,3,none⟩ (.slice bQa bQn bQc)=W':=⟨_,rfl⟩
      rw [hW23] at RW23 bW23 b223
      have hS23:W23.cell? ⟨w.heap.size,0,none⟩=some (.int .i64 K)∧W23.cell? ra=some (.int .i64 v):=⟨by rw [b223.cell hlow.1,← b222.cell hlow.1]; exact hS22.1,by rw [b223.cell hlow.2,← b222.cell hlow.2]; exact hS22.2⟩
      replace hW23:=Hd hW23
      refine wpAnyH_ready (rs:=[14]) (by kernel_rfl) (by simp) (AllReadyH.cons rfl (fun KK hK=>?_) AllReadyH.nil)
      go_simp
      rw [hW23.out]
      refine hK.out _ _ hS23 fun _=>?_
      clear hK KK t0 t1 t2 t3 ft0 ft1 ft2 ft3 mm oo lt RW22 hW23
      refine pqD 15 7 hS23 ?_
      refine wpAnyH_done (by kernel_rfl) ?_ _
      refine NoPanic.normal ?_
      replace n02:=Hd n02
      replace n03:=Hd n03
      replace n90:=Hd n90
      replace n91:=Hd n91
      replace n10:=Hd n10
      replace n11:=Hd n11
      replace n20:=Hd n20
      replace n21:=Hd n21
      replace n30:=Hd n30
      replace n31:=Hd n31
      replace RW23:=Hd RW23
      go_wp2
      go_meet
      case rel=>exact ⟨rfl,gb9,gb10,L',C',Q',_,_,_,_,_,_,f23,rfl,rfl,bW23,hwi.out,RW23.out,n02.out,n03.out,n90.out,n91.out,n10.out,n11.out,n20.out,n21.out,n30.out,n31.out⟩
    ·go_simp
     obtain ⟨f24,RW24,n90,oo⟩:=RW19.box4 (9,0) hB19 42 (.int .i64 0) (.slice none 0 0) (.slice none 0 0) (.slice none 0 0)
     replace n02:=(oo (0,2) (by decide)).trans n02
     replace n03:=(oo (0,3) (by decide)).trans n03
     replace n91:=(oo (9,1) (by decide)).trans n91
     have bb:=belowAlloc W19 (.cells #[.int .i64 0,.slice none 0 0,.slice none 0 0,.slice none 0 0] 42)
     obtain ⟨gb9,hgb9⟩:∃ g,W19.heap.size=g:=⟨_,rfl⟩
     obtain ⟨W24,hW24⟩:∃ W':World,W19.alloc (.cells #[.int .i64 0,.slice none 0 0,.slice none 0 0,.slice none 0 0] 42)=W':=⟨_,rfl⟩
     have lgb9:w2.heap.size≤gb9:=by rw [← hgb9]; exact b219.size
     have bW24:=bW19.trans (bb.mono hB19)
     have b224:=Below.step b219 bb
     rw [hW24] at RW24 bW24 b224 bb
     have hB24:=bW24.size
     have hS24:W24.cell? ⟨w.heap.size,0,none⟩=some (.int .i64 K)∧W24.cell? ra=some (.int .i64 v):=⟨by rw [b224.cell hlow.1,← b219.cell hlow.1]; exact hS19.1,by rw [b224.cell hlow.2,← b219.cell hlow.2]; exact hS19.2⟩
     rw [hW24,hgb9]
     rw [hgb9] at n90
     replace hW24:=Hd hW24
     replace hgb9:=Hd hgb9
     refine hK.out _ _ hS24 fun _=>?_
     clear hK KK bb RW19 oo
     refine wpAnyH_ready (rs:=[6]) (by kernel_rfl) (by simp) (AllReadyH.cons rfl (fun KK hK=>?_) (AllReadyH.nil))
     ·go_simp
      refine (hwv.out W24 (hG2.out.below b224) (hL2.out.below b224)).mono ?_
      rintro e W25 ⟨x,y,z,rfl,bb,hz,L',C',Q',aL,aC,aQ,bL,bC,bQ,hwi,rfl,rfl,fw,Rw,k10,k11,k20,k21,k30,k31⟩
      subst hz
      obtain ⟨aLa,aLn,aLc,haL⟩:=(Rw.ownI k10).at.shape
      subst haL
      obtain ⟨bLa,bLn,bLc,hbL⟩:=(Rw.ownI k11).at.shape
      subst hbL
      obtain ⟨aCa,aCn,aCc,haC⟩:=(Rw.ownI k20).at.shape
      subst haC
      obtain ⟨bCa,bCn,bCc,hbC⟩:=(Rw.ownI k21).at.shape
      subst hbC
      obtain ⟨aQa,aQn,aQc,haQ⟩:=(Rw.ownI k30).at.shape
      subst haQ
      obtain ⟨bQa,bQn,bQc,hbQ⟩:=(Rw.ownI k31).at.shape
      subst hbQ
      obtain ⟨f25,RW25,sel,oth⟩:=RW24.merge (fun i=>decide (i.1=1∨i.1=2∨i.1=3)) bb Rw hB24
      replace n02:=(oth (0,2) (by decide)).trans n02
      replace n03:=(oth (0,3) (by decide)).trans n03
      replace n91:=(oth (9,1) (by decide)).trans n91
      replace n90:=(oth (9,0) (by decide)).trans n90
      have n10:=(sel (1,0) (by decide)).trans k10
      have n11:=(sel (1,1) (by decide)).trans k11
      have n20:=(sel (2,0) (by decide)).trans k20
      have n21:=(sel (2,1) (by decide)).trans k21
      have n30:=(sel (3,0) (by decide)).trans k30
      have n31:=(sel (3,1) (by decide)).trans k31
      replace hwi:=Hd hwi
      clear sel oth k10 k11 k20 k21 k30 k31 Rw
      have bW25:=bW24.trans (bb.mono hB24)
      have b225:=Below.step b224 bb
      have hB25:=bW25.size
      have hS25:W25.cell? ⟨w.heap.size,0,none⟩=some (.int .i64 K)∧W25.cell? ra=some (.int .i64 v):=⟨by rw [b225.cell hlow.1,← b224.cell hlow.1]; exact hS24.1,by rw [b225.cell hlow.2,← b224.cell hlow.2]; exact hS24.2⟩
      refine hK.out _ _ hS25 fun _=>?_
      clear hK KK bb RW24
      refine pqD 7 39 hS25 ?_
      refine pqD 8 47 hS25 ?_
      refine pqD 9 48 hS25 ?_
      refine pqD 10 49 hS25 ?_
      obtain ⟨t0,t1,t2,t3⟩:=RW25.cells4 n90
      have ft0:=RW25.frz4 n90 0
      have ft1:=RW25.frz4 n90 1
      have ft2:=RW25.frz4 n90 2
      have ft3:=RW25.frz4 n90 3
      have lt:=(RW25.low4 n90)
      obtain ⟨f26,RW26,mm,oo⟩:=RW25.all4 n90 (.int .i64 0) (.slice aLa aLn aLc) (.slice aCa aCn aCc) (.slice aQa aQn aQc)
      replace n02:=(oo (0,2) (by decide)).trans n02
      replace n03:=(oo (0,3) (by decide)).trans n03
      replace n91:=(oo (9,1) (by decide)).trans n91
      replace n10:=(oo (1,0) (by decide)).trans n10
      replace n11:=(oo (1,1) (by decide)).trans n11
      replace n20:=(oo (2,0) (by decide)).trans n20
      replace n21:=(oo (2,1) (by decide)).trans n21
      replace n30:=(oo (3,0) (by decide)).trans n30
      replace n31:=(oo (3,1) (by decide)).trans n31
      clear n90
      have n90:=mm
      have bW26:=Below.all4 (g:=gb9) bW25 lt.1 (.int .i64 0) (.slice aLa aLn aLc) (.slice aCa aCn aCc) (.slice aQa aQn aQc)
      have b226:=Below.all4 (g:=gb9) b225 lgb9 (.int .i64 0) (.slice aLa aLn aLc) (.slice aCa aCn aCc) (.slice aQa aQn aQc)
      obtain ⟨W26,hW26⟩:∃ W':World,(((W25.setCell ⟨gb9,0,none⟩ (.int .i64 0)).setCell ⟨gb9,1,none⟩ (.slice aLa aLn aLc)).setCell ⟨gb9,2,none⟩ (.slice aCa aCn aCc)).setCell ⟨gb9,3,none⟩ (.slice aQa aQn aQc)=W':=⟨_,rfl⟩
      rw [hW26] at RW26 bW26 b226
      have hS26:W26.cell? ⟨w.heap.size,0,none⟩=some (.int .i64 K)∧W26.cell? ra=some (.int .i64 v):=⟨by rw [b226.cell hlow.1,← b225.cell hlow.1]; exact hS25.1,by rw [b226.cell hlow.2,← b225.cell hlow.2]; exact hS25.2⟩
      replace hW26:=Hd hW26
      refine wpAnyH_ready (rs:=[13]) (by kernel_rfl) (by simp) (AllReadyH.cons rfl (fun KK hK=>?_) AllReadyH.nil)
      go_simp
      rw [hW26.out]
      refine hK.out _ _ hS26 fun _=>?_
      clear hK KK t0 t1 t2 t3 ft0 ft1 ft2 ft3 mm oo lt RW25 hW26
      obtain ⟨t0,t1,t2,t3⟩:=RW26.cells4 n91
      have ft0:=RW26.frz4 n91 0
      have ft1:=RW26.frz4 n91 1
      have ft2:=RW26.frz4 n91 2
      have ft3:=RW26.frz4 n91 3
      have lt:=(RW26.low4 n91)
      obtain ⟨f27,RW27,mm,oo⟩:=RW26.all4 n91 (.int .i64 0) (.slice bLa bLn bLc) (.slice bCa bCn bCc) (.slice bQa bQn bQc)
      replace n02:=(oo (0,2) (by decide)).trans n02
      replace n03:=(oo (0,3) (by decide)).trans n03
      replace n90:=(oo (9,0) (by decide)).trans n90
      replace n10:=(oo (1,0) (by decide)).trans n10
      replace n11:=(oo (1,1) (by decide)).trans n11
      replace n20:=(oo (2,0) (by decide)).trans n20
      replace n21:=(oo (2,1) (by decide)).trans n21
      replace n30:=(oo (3,0) (by decide)).trans n30
      replace n31:=(oo (3,1) (by decide)).trans n31
      clear n91
      have n91:=mm
      have bW27:=Below.all4 (g:=gb10) bW26 lt.1 (.int .i64 0) (.slice bLa bLn bLc) (.slice bCa bCn bCc) (.slice bQa bQn bQc)
      have b227:=Below.all4 (g:=gb10) b226 lgb10 (.int .i64 0) (.slice bLa bLn bLc) (.slice bCa bCn bCc) (.slice bQa bQn bQc)
      obtain ⟨W27,hW27⟩:∃ W':World,(((W26.setCell ⟨gb10,0,none⟩ (.int .i64 0)).setCell ⟨gb10,1,none⟩ (.slice bLa bLn bLc)).setCell ⟨gb10,2,none⟩ (.slice bCa bCn bCc)).setCell ⟨gb10,3,none⟩ (.slice bQa bQn bQc)=W':=⟨_,rfl⟩
      rw [hW27] at RW27 bW27 b227
      have hS27:W27.cell? ⟨w.heap.size,0,none⟩=some (.int .i64 K)∧W27.cell? ra=some (.int .i64 v):=⟨by rw [b227.cell hlow.1,← b226.cell hlow.1]; exact hS26.1,by rw [b227.cell hlow.2,← b226.cell hlow.2]; exact hS26.2⟩
      replace hW27:=Hd hW27
      refine wpAnyH_ready (rs:=[14]) (by kernel_rfl) (by simp) (AllReadyH.cons rfl (fun KK hK=>?_) AllReadyH.nil)
      go_simp
      rw [hW27.out]
      refine hK.out _ _ hS27 fun _=>?_
      clear hK KK t0 t1 t2 t3 ft0 ft1 ft2 ft3 mm oo lt RW26 hW27
      refine pqD 15 7 hS27 ?_
      refine wpAnyH_done (by kernel_rfl) ?_ _
      refine NoPanic.normal ?_
      replace n02:=Hd n02
      replace n03:=Hd n03
      replace n90:=Hd n90
      replace n91:=Hd n91
      replace n10:=Hd n10
      replace n11:=Hd n11
      replace n20:=Hd n20
      replace n21:=Hd n21
      replace n30:=Hd n30
      replace n31:=Hd n31
      replace RW27:=Hd RW27
      go_wp2
      go_meet
      case rel=>exact ⟨rfl,gb9,gb10,L',C',Q',_,_,_,_,_,_,f27,rfl,rfl,bW27,hwi.out,RW27.out,n02.out,n03.out,n90.out,n91.out,n10.out,n11.out,n20.out,n21.out,n30.out,n31.out⟩
  case rest =>
   obtain ⟨rfl,g9,g10,L',C',Q',aL,aC,aQ,bL,bC,bQ,f9,rfl,rfl,bc,hwi,Rc,n02,n03,n90,n91,n10,n11,n20,n21,n30,n31⟩:=hcut
   obtain ⟨aLa,aLn,aLc,haL⟩:=(Rc.ownI n10).at.shape
   subst haL
   obtain ⟨bLa,bLn,bLc,hbL⟩:=(Rc.ownI n11).at.shape
   subst hbL
   obtain ⟨aCa,aCn,aCc,haC⟩:=(Rc.ownI n20).at.shape
   subst haC
   obtain ⟨bCa,bCn,bCc,hbC⟩:=(Rc.ownI n21).at.shape
   subst hbC
   obtain ⟨aQa,aQn,aQc,haQ⟩:=(Rc.ownI n30).at.shape
   subst haQ
   obtain ⟨bQa,bQn,bQc,hbQ⟩:=(Rc.ownI n31).at.shape
   subst hbQ
   have honeR:=honeL.out v m L' C' Q' hod.out hwi
   clear hwi
   replace honeR:=Hd honeR
   obtain ⟨V,hVd⟩:∃ V:World,wc.drew=V:=⟨_,rfl⟩
   have RV:Rows w.heap.size V f9:=by rw [← hVd]; exact Rc.drew
   have bV:Below w.heap.size w V:=by rw [← hVd]; exact bc.drew
   replace hVd:=Hd hVd
   clear Rc bc
   have hS:V.cell? ⟨g9,0,none⟩=some (.int .i64 0)∧V.cell? ⟨g9,1,none⟩=some (.slice aLa aLn aLc)∧V.cell? ⟨g9,2,none⟩=some (.slice aCa aCn aCc)∧V.cell? ⟨g9,3,none⟩=some (.slice aQa aQn aQc)∧V.cell? ⟨g10,0,none⟩=some (.int .i64 0)∧V.cell? ⟨g10,1,none⟩=some (.slice bLa bLn bLc)∧V.cell? ⟨g10,2,none⟩=some (.slice bCa bCn bCc)∧V.cell? ⟨g10,3,none⟩=some (.slice bQa bQn bQc):=by
    obtain ⟨a0,a1,a2,a3⟩:=RV.cells4 n90
    obtain ⟨d0,d1,d2,d3⟩:=RV.cells4 n91
    exact ⟨a0,a1,a2,a3,d0,d1,d2,d3⟩
   obtain ⟨g0,g1,g2,g3⟩:=RV.cells4 n02
   have fg0:=RV.frz4 n02 0
   have fg1:=RV.frz4 n02 1
   have fg2:=RV.frz4 n02 2
   have fg3:=RV.frz4 n02 3
   have lg0:=(RV.low4 n02).1
   obtain ⟨f15,R15,m02,o15⟩:=RV.all4 n02 (.int .i64 0) (.slice aLa aLn aLc) (.slice aCa aCn aCc) (.slice aQa aQn aQc)
   replace n03:=(o15 (0,3) (by decide)).trans n03
   replace n90:=(o15 (9,0) (by decide)).trans n90
   replace n91:=(o15 (9,1) (by decide)).trans n91
   replace n10:=(o15 (1,0) (by decide)).trans n10
   replace n11:=(o15 (1,1) (by decide)).trans n11
   replace n20:=(o15 (2,0) (by decide)).trans n20
   replace n21:=(o15 (2,1) (by decide)).trans n21
   replace n30:=(o15 (3,0) (by decide)).trans n30
   replace n31:=(o15 (3,1) (by decide)).trans n31
   have b15:=Below.all4 (g:=w.heap.size+1) bV lg0 (.int .i64 0) (.slice aLa aLn aLc) (.slice aCa aCn aCc) (.slice aQa aQn aQc)
   obtain ⟨V15,hV15⟩:∃ V':World,(((V.setCell ⟨w.heap.size+1,0,none⟩ (.int .i64 0)).setCell ⟨w.heap.size+1,1,none⟩ (.slice aLa aLn aLc)).setCell ⟨w.heap.size+1,2,none⟩ (.slice aCa aCn aCc)).setCell ⟨w.heap.size+1,3,none⟩ (.slice aQa aQn aQc)=V':=⟨_,rfl⟩
   rw [hV15] at R15 b15
   have hS15:V15.cell? ⟨g9,0,none⟩=some (.int .i64 0)∧V15.cell? ⟨g9,1,none⟩=some (.slice aLa aLn aLc)∧V15.cell? ⟨g9,2,none⟩=some (.slice aCa aCn aCc)∧V15.cell? ⟨g9,3,none⟩=some (.slice aQa aQn aQc)∧V15.cell? ⟨g10,0,none⟩=some (.int .i64 0)∧V15.cell? ⟨g10,1,none⟩=some (.slice bLa bLn bLc)∧V15.cell? ⟨g10,2,none⟩=some (.slice bCa bCn bCc)∧V15.cell? ⟨g10,3,none⟩=some (.slice bQa bQn bQc):=by
    obtain ⟨a0,a1,a2,a3⟩:=R15.cells4 n90
    obtain ⟨d0,d1,d2,d3⟩:=R15.cells4 n91
    exact ⟨a0,a1,a2,a3,d0,d1,d2,d3⟩
   replace hV15:=Hd hV15
   clear n02 o15 RV bV lg0
   have n02:=m02
   clear m02
   go_upto_region 8 with fail
   refine wp_region_plan (fun w'=>w'.cell? ⟨g9,0,none⟩=some (.int .i64 0)∧w'.cell? ⟨g9,1,none⟩=some (.slice aLa aLn aLc)∧w'.cell? ⟨g9,2,none⟩=some (.slice aCa aCn aCc)∧w'.cell? ⟨g9,3,none⟩=some (.slice aQa aQn aQc)∧w'.cell? ⟨g10,0,none⟩=some (.int .i64 0)∧w'.cell? ⟨g10,1,none⟩=some (.slice bLa bLn bLc)∧w'.cell? ⟨g10,2,none⟩=some (.slice bCa bCn bCc)∧w'.cell? ⟨g10,3,none⟩=some (.slice bQa bQn bQc)) 6 [(0,true),(1,true),(2,true),(3,true),(4,false),(5,false)] (by kernel_rfl) (by kernel_rfl) ?_
   rw [hVd.out]
   refine pqY 50 hS ?_
   refine pqY 51 hS ?_
   refine pqY 52 hS ?_
   refine pqY 2 hS ?_
   refine headC rfl (fun KK hK=>?_)
   go_simp
   rw [hV15.out]
   refine hK _ _ hS15 ?_
   clear hK KK hS g0 g1 g2 g3 fg0 fg1 fg2 fg3
   obtain ⟨h0,h1,h2,h3⟩:=R15.cells4 n03
   have fh0:=R15.frz4 n03 0
   have fh1:=R15.frz4 n03 1
   have fh2:=R15.frz4 n03 2
   have fh3:=R15.frz4 n03 3
   have lh0:=(R15.low4 n03).1
   obtain ⟨f16,R16,m03,o16⟩:=R15.all4 n03 (.int .i64 0) (.slice bLa bLn bLc) (.slice bCa bCn bCc) (.slice bQa bQn bQc)
   replace n02:=(o16 (0,2) (by decide)).trans n02
   replace n90:=(o16 (9,0) (by decide)).trans n90
   replace n91:=(o16 (9,1) (by decide)).trans n91
   replace n10:=(o16 (1,0) (by decide)).trans n10
   replace n11:=(o16 (1,1) (by decide)).trans n11
   replace n20:=(o16 (2,0) (by decide)).trans n20
   replace n21:=(o16 (2,1) (by decide)).trans n21
   replace n30:=(o16 (3,0) (by decide)).trans n30
   replace n31:=(o16 (3,1) (by decide)).trans n31
   have b16:=Below.all4 (g:=w.heap.size+2) b15 lh0 (.int .i64 0) (.slice bLa bLn bLc) (.slice bCa bCn bCc) (.slice bQa bQn bQc)
   obtain ⟨V16,hV16⟩:∃ V':World,(((V15.setCell ⟨w.heap.size+2,0,none⟩ (.int .i64 0)).setCell ⟨w.heap.size+2,1,none⟩ (.slice bLa bLn bLc)).setCell ⟨w.heap.size+2,2,none⟩ (.slice bCa bCn bCc)).setCell ⟨w.heap.size+2,3,none⟩ (.slice bQa bQn bQc)=V':=⟨_,rfl⟩
   rw [hV16] at R16 b16
   have hS16:V16.cell? ⟨g9,0,none⟩=some (.int .i64 0)∧V16.cell? ⟨g9,1,none⟩=some (.slice aLa aLn aLc)∧V16.cell? ⟨g9,2,none⟩=some (.slice aCa aCn aCc)∧V16.cell? ⟨g9,3,none⟩=some (.slice aQa aQn aQc)∧V16.cell? ⟨g10,0,none⟩=some (.int .i64 0)∧V16.cell? ⟨g10,1,none⟩=some (.slice bLa bLn bLc)∧V16.cell? ⟨g10,2,none⟩=some (.slice bCa bCn bCc)∧V16.cell? ⟨g10,3,none⟩=some (.slice bQa bQn bQc):=by
    obtain ⟨a0,a1,a2,a3⟩:=R16.cells4 n90
    obtain ⟨d0,d1,d2,d3⟩:=R16.cells4 n91
    exact ⟨a0,a1,a2,a3,d0,d1,d2,d3⟩
   replace hV16:=Hd hV16
   clear n03 o16 R15 b15 lh0
   have n03:=m03
   clear m03
   refine headC rfl (fun KK hK=>?_)
   go_simp
   rw [hV16.out]
   refine hK _ _ hS16 ?_
   clear hK KK hS15 h0 h1 h2 h3 fh0 fh1 fh2 fh3
   refine head0 ?_
   simp only [List.drop_succ_cons,List.drop_zero]
   clear hS16
   obtain ⟨g0,g1,g2,g3⟩:=R16.cells4 n02
   obtain ⟨h0,h1,h2,h3⟩:=R16.cells4 n03
   replace n02:=Hd n02
   replace n03:=Hd n03
   replace n90:=Hd n90
   replace n91:=Hd n91
   replace n10:=Hd n10
   replace n11:=Hd n11
   replace n20:=Hd n20
   replace n21:=Hd n21
   replace n30:=Hd n30
   replace n31:=Hd n31
   replace R16:=Hd R16
   go_wp2
   refine NoPanic.normal ?_
   go_wp2
   (try simp only [Exit.inBlock,Exit.then])
   refine bodyPost_ret (v:=.tuple #[.bool false,.agg #[.int .i64 0,.slice aLa aLn aLc,.slice aCa aCn aCc,.slice aQa aQn aQc],.agg #[.int .i64 0,.slice bLa bLn bLc,.slice bCa bCn bCc,.slice bQa bQn bQc],.nilIface]) (by simp [results,Tryz.results15,go_sem,g0,g1,g2,g3,h0,h1,h2,h3]) rfl ?_
   exact ⟨_,_,_,_,rfl,b16,rfl,.inr ⟨rfl,hno.out,L',C',Q',_,_,_,_,_,_,honeR.out,rfl,rfl,f16,R16.out,n10.out,n11.out,n20.out,n21.out,n30.out,n31.out⟩⟩
theorem WitIs.pos {G:List (List Int)} {v:Nat} {L C Q:List Nat} (h:WitIs G v L C Q):1≤L.length∧1≤Q.length:=by
 obtain ⟨c,d,u1,u2,I,O,_,_,hc,_,h3,_,_,_,rfl,rfl,rfl⟩:=h
 refine ⟨?_,by simp⟩
 have he:=h3.way.ends
 obtain ⟨w',hw⟩:=h3.way.ne
 cases hd:u1.dropLast with
 | nil =>
  rw [hd,hw] at he
  simp at he
  omega
 | cons x l=>simp
theorem OneIs.pos {K R:Nat} {T:List Int} {L C Q:List Nat} (h:OneIs K R T L C Q):1≤L.length∧1≤Q.length:=by
 obtain ⟨_,_,_,_,_,h3⟩:=h
 exact h3.pos
theorem OnePost.ans {w w':World} {K R:Nat} {T:List Int} {yes x y e:Value} (h:OnePost w K R T yes x y e w'):e=.nilIface∧∃ Y,yes=.bool Y∧(Y=true↔¬ NotOne K R T) ∧
 ∃ a1 n1 c1 a2 n2 c2 a3 n3 c3 a4 n4 c4 a5 n5 c5 a6 n6 c6,x=.agg #[.int .i64 0,.slice a1 n1 c1,.slice a2 n2 c2,.slice a3 n3 c3]∧y=.agg #[.int .i64 0,.slice a4 n4 c4,.slice a5 n5 c5,.slice a6 n6 c6]:=by
 obtain ⟨rfl,⟨rfl,rfl,rfl,hn⟩ | ⟨rfl,hn,L,C,Q,aL,aC,aQ,bL,bC,bQ,_,rfl,rfl,f,hr,h1,h2,h3,h4,h5,h6⟩⟩:=h
 ·exact ⟨rfl,true,rfl,⟨fun _=>hn,fun _=>rfl⟩,_,_,_,_,_,_,_,_,_,_,_,_,_,_,_,_,_,_,rfl,rfl⟩
 ·obtain ⟨_,_,_,rfl⟩:=(hr.ownI h1).at.shape
  obtain ⟨_,_,_,rfl⟩:=(hr.ownI h2).at.shape
  obtain ⟨_,_,_,rfl⟩:=(hr.ownI h3).at.shape
  obtain ⟨_,_,_,rfl⟩:=(hr.ownI h4).at.shape
  obtain ⟨_,_,_,rfl⟩:=(hr.ownI h5).at.shape
  obtain ⟨_,_,_,rfl⟩:=(hr.ownI h6).at.shape
  exact ⟨rfl,false,rfl,⟨fun h=>(by cases h),fun h=>absurd hn h⟩,_,_,_,_,_,_,_,_,_,_,_,_,_,_,_,_,_,_,rfl,rfl⟩
end Go.Proofs.YtkaoebokbfcmhaaGreatDoor
namespace Go.Proofs.YtkaoebokbfcmhaaGreatDoor
def stepM (N v:Nat) (s:(Nat→Int)×List Nat) (t:Nat):(Nat→Int)×List Nat:=if ¬ Diag N t∧s.1 t<0 then (updN s.1 t (v:Int),s.2++[t]) else s
def rowM (N:Nat) (adj:Nat→List Nat) (v:Nat) (s:(Nat→Int)×List Nat) (k:Nat):(Nat→Int)×List Nat:=((adj v).take k).foldl (stepM N v) s
def stM (N:Nat) (adj:Nat→List Nat):Nat→(Nat→Int)×List Nat
 | 0=>(fun _=>-1,diags N)
 | j+1=>match (stM N adj j).2[j]? with
  | some v=>rowM N adj v (stM N adj j) (adj v).length
  | none=>stM N adj j
theorem rowM_succ {N:Nat} {adj:Nat→List Nat} {v k t:Nat} {s:(Nat→Int)×List Nat} (h:(adj v)[k]?=some t):rowM N adj v s (k+1)=stepM N v (rowM N adj v s k) t:=by
 unfold rowM
 rw [List.take_add_one,h,List.foldl_append]; rfl
theorem stM_succ {N:Nat} {adj:Nat→List Nat} {j v:Nat} (h:(stM N adj j).2[j]?=some v):stM N adj (j+1)=rowM N adj v (stM N adj j) (adj v).length:=by
 rw [stM,h]
def NoHit (N:Nat) (adj:Nat→List Nat) (j:Nat):Prop:=∀ v,(stM N adj j).2[j]?=some v→∀ t∈adj v,Diag N t→Diag N v
def MeetIs (N:Nat) (adj:Nat→List Nat) (ws:List Nat):Prop :=
 ∃ j v k t c,(stM N adj j).2[j]?=some v∧(adj v)[k]?=some t∧Diag N t∧¬ Diag N v∧BackWay N adj (rowM N adj v (stM N adj j) k).1 v c∧ws=c.reverse++[t]∧(∀ i,i<j→NoHit N adj i)∧∀ i x,i<k→(adj v)[i]?=some x→Diag N x→Diag N v
open Go.RowKit
set_option maxRecDepth 100000
def invP (p:List Int) (x:Int):Int:=idxOf (fun y=>x==y) p
theorem index_any (v:Value) (xs:List Int) (x:Int) (w:World) (h:IntsAt w v xs) :
 Calls Tryz.prog 148 #[v,.int .i64 x] w fun e w'=>e=.returned (.int .i64 (invP xs x))∧w=w':=by
 have hlen:=h.len
 have hm:=h.len_le
 replace h:=Hd h
 go_enter Tryz.func148,Tryz.ntmps148
 go_wp2
 go_loop [8] (fun i=>∃ j:Nat,j≤xs.length∧i=.int .i64 j∧∀ t (ht:t<xs.length),t<j→(x==xs[t])=false) (fun i=>xs.length-(intOf i).toNat)
 case atStart=>exact ⟨0,by omega,rfl,fun t ht h=>by omega⟩
 case round =>
  obtain ⟨j,hj,rfl,hne⟩:=hrel
  by_cases hjl:j<xs.length
  ·have i1:=h.out.idx j hjl
   have c1:=h.out.cell j hjl
   by_cases he:(x==xs[j])=true
   ·have hr:Hid (invP xs x=j):=Hd (idxOf_at j hjl he (fun t ht htj=>hne t ht htj))
    have he':x=xs[j]:=by simpa using he
    rw [← he'] at c1
    clear he he'
    replace hne:=Hd hne
    go_wp2
    go_ret
    exact ⟨ret_int hr.out.symm,rfl⟩
   ·have hn:Hid (∀ t (ht:t<xs.length),t<j+1→(x==xs[t])=false):=Hd (fun t ht htj=>by
     by_cases e:t=j
     ·subst e; simpa using he
     ·exact hne t ht (by omega))
    have he':(x==xs[j])=false:=by simpa using he
    obtain ⟨y,hy⟩:∃ y,y=xs[j]:=⟨_,rfl⟩
    rw [← hy] at c1 he'
    clear he hne hy
    go_wp2
    go_round
    case rel=>exact ⟨j+1,by omega,by go_num,hn.out⟩
    case measure=>simp [intOf]; omega
  ·have hr:Hid (invP xs x=-1):=Hd (idxOf_neg (fun y hy=>by
    obtain ⟨t,ht,rfl⟩:=List.mem_iff_getElem.1 hy
    exact hne t ht (by omega)))
   replace hne:=Hd hne
   go_wp2
   go_ret
   exact ⟨ret_int hr.out.symm,rfl⟩
end Go.Proofs.YtkaoebokbfcmhaaGreatDoor
namespace Go.Proofs.YtkaoebokbfcmhaaGreatDoor
theorem invP_at {T:List Int} {j:Nat} (hj:j<T.length):∃ i:Nat,invP T (T.getD j 0)=i∧i≤j∧T.getD i 0=T.getD j 0:=by
 have ej:T.getD j 0=T[j]:=by simp [List.getD,hj]
 rw [ej]
 rcases idxOf_cases (fun y=>T[j]==y) T with ⟨_,hn⟩ | ⟨k,hk,hkl,hp,hm⟩
 ·have:=hn _ (List.getElem_mem hj); simp at this
 ·refine ⟨k,hk,?_,?_⟩
  ·apply Classical.byContradiction
   intro e
   have:=hm j hj (by omega)
   simp at this
  ·simp only [List.getD,List.getElem?_eq_getElem hkl,Option.getD_some]
   exact (show T[j]=T[k] by simpa using hp).symm
def SingleIs (T:List Int) (x y:Nat):Prop:=y<T.length∧invP T (T.getD y 0)=x∧x<y∧∀ i,i<y→(i:Int)≤invP T (T.getD i 0)
theorem img0_get {K:Nat} {T a:List Int} {i:Nat} (hi:i<a.length):(imgP K 0 T a).getD i 0=T.getD (a.getD i 0).toNat 0:=by
 rw [imgP_getD K 0 T a i (by omega)]
 have e:(a.drop i).take (2*0+1)=[a.getD i 0]:=by
  rw [List.drop_eq_getElem_cons hi,show 2*0+1=0+1 from rfl,List.take_succ_cons,List.take_zero]
  simp [List.getD,hi]
 rw [e]
 simp [numW]
theorem SingleIs.twins {K:Nat} {T:List Int} {x y:Nat} (hK:T.length=K) (h:SingleIs T x y):IsTwins K 0 T [(x:Int)] [(y:Int)]:=by
 obtain ⟨h1,h2,h3,h4⟩:=h
 have sx:Syms K [(x:Int)]:=fun z hz=>by simp at hz; subst hz; omega
 have sy:Syms K [(y:Int)]:=fun z hz=>by simp at hz; subst hz; omega
 refine ⟨sx,sy,rfl,by simp; omega,by simp,by simp,by simp,?_⟩
 have he:T.getD x 0=T.getD y 0:=by
  obtain ⟨i,i1,i2,i3⟩:=invP_at h1
  rw [h2] at i1
  obtain rfl:x=i:=by omega
  exact i3
 refine List.ext_getElem (by rw [imgP_length,imgP_length]; rfl) fun i h1 h2=>?_
 rw [imgP_length] at h1
 have hi:i=0:=by simp at h1; omega
 subst hi
 have g1:=img0_get (K:=K) (T:=T) (a:=[(x:Int)]) (i:=0) (by simp)
 have g2:=img0_get (K:=K) (T:=T) (a:=[(y:Int)]) (i:=0) (by simp)
 simp [List.getD] at g1 g2 he
 have l1:0<(imgP K 0 T [(x:Int)]).length:=by rw [imgP_length]; simp
 have l2:0<(imgP K 0 T [(y:Int)]).length:=by rw [imgP_length]; simp
 simp [List.getElem?_eq_getElem l1] at g1
 simp [List.getElem?_eq_getElem l2] at g2
 rw [g1,g2]
 exact he
theorem twins_pos {K R:Nat} {T a b:List Int} (h:IsTwins K R T a b):1≤a.length:=by
 have hl:=h.len
 have hn:=h.ne
 rcases a with _ | ⟨x,a⟩
 ·cases b with
  | nil=>exact absurd rfl hn
  | cons _ _=>simp at hl
 ·simp
theorem no_single {K:Nat} {T:List Int} (hK:T.length=K) (h:∀ i,i<T.length→(i:Int)≤invP T (T.getD i 0)) (a b:List Int):¬ IsTwins K 0 T a b:=by
 intro t
 apply t.ne
 have hinj:∀ i j,i<T.length→j<T.length→T.getD i 0=T.getD j 0→i≤j:=fun i j hi hj e=>by
  obtain ⟨p,p1,p2,_⟩:=invP_at hj
  have:=h i hi
  rw [e,p1] at this
  omega
 refine List.ext_getElem t.len fun i h1 h2=>?_
 have e:=congrArg (fun l=>l.getD i 0) t.img
 simp only [img0_get h1,img0_get h2] at e
 simp only [List.getD,List.getElem?_eq_getElem h1,List.getElem?_eq_getElem h2,Option.getD_some] at e
 have s1:=t.sa _ (List.getElem_mem h1)
 have s2:=t.sb _ (List.getElem_mem h2)
 have l1:=hinj a[i].toNat b[i].toNat (by omega) (by omega) e
 have l2:=hinj b[i].toNat a[i].toNat (by omega) (by omega) e.symm
 omega
def FinIs (K R:Nat) (T a b:List Int):Prop :=
 (R=0∧∃ x y,SingleIs T x y∧a=[(x:Int)]∧b=[(y:Int)]) ∨
 (R≠0∧∃ ws,MeetIs (pw K (2*R)) (pairL K (pw K (2*R)) T) ws∧a=alongW K (2*R) (·/pw K (2*R)) ws∧b=alongW K (2*R) (·%pw K (2*R)) ws)
open Go.RowKit
set_option maxRecDepth 100000
set_option maxHeartbeats 8000000
def SinglePost (w:World) (T:List Int) (x y:Value) (w':World):Prop :=
 (∃ a b,SingleIs T a b∧OwnI w.heap.size w' x [(a:Int)]∧OwnI w.heap.size w' y [(b:Int)]∧(x.ownBlock=none∨x.ownBlock≠y.ownBlock)) ∨
 (x=.slice none 0 0∧y=.slice none 0 0∧∀ i,i<T.length→(i:Int)≤invP T (T.getD i 0))
theorem single_any (k R:Int) (va:Option Addr) (vn vc:Nat) (T:List Int) (w:World) (h:IntsAt w (.slice va vn vc) T) :
 Calls Tryz.prog 117 #[.agg #[.int .i64 k,.int .i64 R,.slice va vn vc]] w (Ret2 (SinglePost w T) w):=by
 have b0:=belowAlloc w (.cells #[.int .i64 k,.int .i64 R,.slice va vn vc] 24)
 have q:Box3 (w.alloc (.cells #[.int .i64 k,.int .i64 R,.slice va vn vc] 24)) w.heap.size (.int .i64 k) (.int .i64 R) (.slice va vn vc):=by simp [Box3,go_sem]
 have hlen:=h.len
 have hm:=h.len_le
 replace h:=Hd (h.below b0)
 obtain ⟨⟨y0,y1,y2⟩,-,-,-⟩:=q
 go_enter Tryz.func117,Tryz.ntmps117
 go_wp2
 obtain ⟨W,hW⟩:∃ W:World,W=w.alloc (.cells #[.int .i64 k,.int .i64 R,.slice va vn vc] 24):=⟨_,rfl⟩
 rw [← hW] at y0 y1 y2 b0 h ⊢
 replace hW:=Hd hW
 go_loop [10] (fun jv=>∃ j:Nat,j≤T.length∧jv=.int .i64 j∧∀ i,i<j→(i:Int)≤invP T (T.getD i 0)) (fun jv=>T.length-(intOf jv).toNat)
 case atStart=>exact ⟨0,by omega,rfl,fun i hi=>absurd hi (Nat.not_lt_zero _)⟩
 case round =>
  obtain ⟨j,hj,rfl,hno0⟩:=hrel
  have hno:∀ i,i<j→(i:Int)≤invP T (T.getD i 0):=fun i hi=>by have:=hno0 i hi; omega
  clear hno0
  replace hno:=Hd hno
  by_cases hjl:j<T.length
  ·have i1:=fun w'=>h.out.idx j hjl w'
   have c1:=h.out.cellD j hjl
   obtain ⟨z,hz⟩:∃ z,T.getD j 0=z:=⟨_,rfl⟩
   rw [hz] at c1
   obtain ⟨p,hp1,hp2,hp3⟩:=invP_at hjl
   rw [hz] at hp1
   have hIx:=index_any (.slice va vn vc) T z W h.out
   rw [hp1] at hIx
   generalize valAt (.slice va vn vc) j=ja at *
   have hjl2:=Hd hjl
   replace hIx:=Hd hIx
   replace hz:=Hd hz
   replace hp1:=Hd hp1
   replace hp3:=Hd hp3
   by_cases hpj:p<j
   ·have hpd:decide (p<j)=true:=decide_eq_true hpj
    have hpd2:decide ((p:Int)<(j:Int))=true:=decide_eq_true (by omega)
    have hpj2:=Hd hpj
    go_wp2_with (go_at_call 148; refine hIx.out.mono ?_; rintro e w' ⟨rfl,rfl⟩)
    have bA:=belowAlloc W (.cells #[.int .i64 p] 3)
    have hoA:=OwnI.lit W.heap.size W (Nat.le_refl _) [(p:Int)] (by simp [maxLen]) #[.int .i64 (p:Int)] rfl 1 rfl
    have bB:=belowAlloc (W.alloc (.cells #[.int .i64 p] 3)) (.cells #[.int .i64 j] 3)
    have hoB:=OwnI.lit (W.alloc (.cells #[.int .i64 p] 3)).heap.size (W.alloc (.cells #[.int .i64 p] 3)) (Nat.le_refl _) [(j:Int)] (by simp [maxLen]) #[.int .i64 (j:Int)] rfl 1 rfl
    have hs:=b0.size
    go_ret2
    refine ⟨_,_,rfl,b0.trans ((bA.trans (bB.mono bA.size)).mono hs),.inl ⟨p,j,⟨hjl2.out,by rw [hz.out]; exact hp1.out,hpj2.out,hno.out⟩,(hoA.below bB).mono hs,(show OwnI W.heap.size _ (Value.slice (some ⟨W.heap.size+1,0,none⟩) 1 1) _ from (by simpa using hoB.mono bA.size)).mono hs,.inr ?_⟩⟩
    simp [Value.ownBlock]
   ·have hpe:p=j:=by omega
    subst hpe
    go_wp2_with (go_at_call 148; refine hIx.out.mono ?_; rintro e w' ⟨rfl,rfl⟩)
    have hj1:=hjl2.out
    go_round
    case measure=>simp [intOf]; omega
    case rel =>
     refine ⟨p+1,by omega,by go_num,fun i hi=>?_⟩
     by_cases e:i=p
     ·subst e; rw [hz.out,hp1.out]; omega
     ·exact hno.out i (by omega)
  ·obtain rfl:j=T.length:=by omega
   go_wp2
   go_ret2
   exact ⟨_,_,rfl,b0,.inr ⟨rfl,rfl,hno.out⟩⟩
theorem tnodes_any (N:Nat) (w:World) (hN1:1≤N) (hN:N≤81) :
 Calls Tryz.prog 149 #[.int .i64 ((N*N:Nat):Int)] w fun e w'=>e=.returned (.int .i64 N)∧w=w':=by
 have hM6:N*N≤6561:=Nat.mul_le_mul hN hN
 obtain ⟨M,hM⟩:∃ M,N*N=M:=⟨_,rfl⟩
 rw [hM] at hM6 ⊢
 replace hM:=Hd hM
 go_enter Tryz.func149,Tryz.ntmps149
 go_wp2_with fail
 go_loop [3] (fun nv=>∃ k:Nat,k≤N∧nv=.int .i64 k) (fun nv=>N-(intOf nv).toNat)
 case atStart=>exact ⟨1,hN1,rfl⟩
 case round =>
  obtain ⟨k,hk,rfl⟩:=hrel
  obtain ⟨kk,hkk⟩:∃ z,k*k=z:=⟨_,rfl⟩
  have hkk2:(k:Int)*(k:Int)=(kk:Int):=by rw [← hkk]; simp
  have hkkM:kk≤M:=by rw [← hkk,← hM.out]; exact Nat.mul_le_mul hk hk
  by_cases hlt:kk<M
  ·have hkN:k<N:=Nat.lt_of_le_of_ne hk (fun e=>by have:=hM.out; rw [e] at hkk; omega)
   replace hkk:=Hd hkk
   go_wp2
   go_round
   case measure=>simp [intOf]; omega
   case rel=>exact ⟨k+1,by omega,by go_num⟩
  ·have hkN:k=N:=by
    apply Classical.byContradiction
    intro e
    have h2:k*k<N*N:=Nat.mul_lt_mul_of_lt_of_lt (by omega) (by omega)
    rw [hkk,hM.out] at h2
    omega
   subst hkN
   replace hkk:=Hd hkk
   go_wp2
   go_ret
   exact ⟨rfl,rfl⟩
def sliceN:Value→Nat
 | .slice _ n _=>n
 | _=>0
theorem sliceN_of {w:World} {v:Value} {xs:List Int} (h:IntsAt w v xs):sliceN v=xs.length:=by
 obtain ⟨a,cap,rfl,_⟩:=h; rfl
def MeetPost (w:World) (N:Nat) (adj:Nat→List Nat) (x:Value) (w':World):Prop :=
 (∃ ws,MeetIs N adj ws∧ApartWay N adj ws∧(∀ u,ApartWay N adj u→ws.length≤u.length)∧ws.length≤20000∧OwnI w.heap.size w' x (castI ws))∨(x=.slice none 0 0∧∀ u,¬ ApartWay N adj u)
def diagsTo (N i:Nat):List Nat:=(List.range i).map fun u=>u*N+u
theorem diagsTo_succ (N i:Nat):diagsTo N (i+1)=diagsTo N i++[i*N+i]:=by simp [diagsTo,List.range_succ]
theorem meet_any (K N:Nat) (T:List Int) (ga:Option Addr) (gc:Nat) (w:World) (hk4:K≤4) (hN1:1≤N) (hN81:N≤81) (h:ListsAt w (.slice ga (pairG K N T).length gc) (pairG K N T)) :
 Calls Tryz.prog 118 #[.slice ga (pairG K N T).length gc] w (Ret1 (MeetPost w N (pairL K N T)) w):=by
 have hM6:N*N≤6561:=Nat.mul_le_mul hN81 hN81
 have hnodes:=tnodes_any N w hN1 hN81
 have lg:=h.len 3
 have hrow:=fun (p:Nat) (hp:p<N*N)=>h.row p (by rw [pairG_len]; exact hp)
 have hrow2:∀ p,p<N*N→(pairG K N T).getD p []=castI (pairL K N T p):=fun p hp=>pairG_row hp
 rw [pairG_len] at lg h ⊢
 obtain ⟨M,hM⟩:∃ M,N*N=M:=⟨_,rfl⟩
 have hMe:=hM
 rw [pairG_len] at hrow
 rw [hM] at hnodes hM6 lg h hrow hrow2 ⊢
 have b0:=belowAlloc w (.cells #[.int .i64 (-1)] 3)
 have hI:=(OwnI.lit w.heap.size w (Nat.le_refl _) [-1] (by simp [maxLen]) #[.int .i64 (-1)] rfl 1 rfl).at
 have hRep:=repeat_any _ (-1) M _ hI (by omega)
 replace hRep:=Hd hRep
 replace hI:=Hd hI
 replace hnodes:=Hd hnodes
 replace hM:=Hd hM
 replace hMe:=Hd hMe
 replace h:=Hd h
 replace hrow:=Hd hrow
 replace hrow2:=Hd hrow2
 go_enter Tryz.func118,Tryz.ntmps118
 go_wp2_with fail
 refine hnodes.out.mono ?_
 rintro e w' ⟨rfl,rfl⟩
 go_wp2_with fail
 refine hRep.out.mono ?_
 rintro e w1 ⟨cv,rfl,b1,hcv⟩
 obtain ⟨w0,hw0⟩:∃ w0:World,w0=w.alloc (.cells #[.int .i64 (-1)] 3):=⟨_,rfl⟩
 rw [← hw0] at b0 b1 hcv
 rw [← tabI_neg1] at hcv
 clear hRep hI hw0
 have b01:=Below.step b0 b1
 have R1:=(rowsE w.heap.size w0).add (i:=(1,0)) (r':=rowI cv (tabI M fun _=>-1)) b1 (hcv.mono b0.size) (fun k hk=>(hcv.lt k hk).1)
 have R2:=R1.add (i:=(2,0)) (r':=rowI (.slice none 0 0) []) (Below.refl _ _) (OwnI.nil _ _) (fun k hk=>by cases hk)
 obtain ⟨f0,hf0⟩:∃ f0,f0=upd (upd (fun _=>none) (1,0) (some (rowI cv (tabI M fun _=>-1)))) (2,0) (some (rowI (.slice none 0 0) [])):=⟨_,rfl⟩
 rw [← hf0] at R2
 have hF0:FN f0 cv (.slice none 0 0) M (fun _=>-1) (diagsTo N 0):=⟨by rw [hf0,upd_ne _ _ (by simp),upd_same],by rw [hf0,upd_same]; rfl⟩
 obtain ⟨ca,cn,cc,rfl⟩:=hcv.at.shape
 replace R2:=Hd R2
 replace hF0:=Hd hF0
 replace hcv:=Hd hcv
 clear R1 hf0
 go_wp2_with fail
 go_loopw [5,22] (fun qv iv wr=>∃ (i:Nat) (f:Names) (qw:Value),i≤N∧iv=.int .i64 i∧qw=qv∧Rows w.heap.size wr f∧Below w.heap.size w wr∧FN f (.slice ca cn cc) qw M (fun _=>-1) (diagsTo N i)) (fun _ iv _=>N-(intOf iv).toNat)
 case atStart=>exact ⟨0,f0,_,by omega,rfl,rfl,R2.out,b01,hF0.out⟩
 case round =>
  clear R2 hF0 hcv
  obtain ⟨i,f1,qv,hi,rfl,rfl,hr1,bI,hF⟩:=hrel
  obtain ⟨wo,rfl⟩:∃ wo:World,wo=wr:=⟨_,rfl⟩
  by_cases hil:i<N
  ·obtain ⟨m,hm⟩:∃ z,i*N=z:=⟨_,rfl⟩
   have hm2:(i:Int)*(N:Int)=(m:Int):=by rw [← hm]; simp
   have hml:m≤6561:=by rw [← hm]; exact Nat.le_trans (Nat.mul_le_mul (show i≤81 by omega) hN81) (by decide)
   obtain ⟨z,hz⟩:∃ z,m+i=z:=⟨_,rfl⟩
   have hz2:(m:Int)+(i:Int)=(z:Int):=by omega
   have hwm:IntKind.i64.wrap (m:Int)=m:=wrapK (by omega) (by omega)
   have hwz:IntKind.i64.wrap (z:Int)=z:=wrapK (by omega) (by omega)
   have hds:diagsTo N (i+1)=diagsTo N i++[z]:=by rw [diagsTo_succ,hm,hz]
   have hoQ:=hr1.ownI hF.queue
   have hB:=bI.size
   have hil2:=Hd hil
   have hlq:(castI (diagsTo N i)).length≤81:=by rw [castI_len]; simp [diagsTo]; omega
   replace hr1:=Hd hr1
   replace hF:=Hd hF
   replace hm:=Hd hm
   replace hz:=Hd hz
   replace hds:=Hd hds
   go_wp2_with (at_builtin; refine wpl_app1 rfl _ _ rfl w.heap.size qv _ z hoQ rfl rfl (by omega) hB ?_)
   intro qv' w7 ho7 b7 hal7
   obtain ⟨f8,hr8,h8,_⟩:=hF.out.push hr1.out z ho7 hal7
   obtain ⟨q1,q2,q3,rfl⟩:=ho7.at.shape
   replace hr8:=Hd hr8
   replace ho7:=Hd ho7
   clear hal7 hoQ
   go_wp2
   go_roundw
   case measure=>have:=hil2.out; simp [intOf]; omega
   case rel=>exact ⟨i+1,f8,_,by have:=hil2.out; omega,by go_num,rfl,hr8.out,bI.trans b7,by rw [hds.out]; exact h8⟩
  ·obtain rfl:i=N:=by omega
   have hO0:=MOut.init i (pairL K i T)
   have hC0:=CameOf.init i (pairL K i T)
   have hNz1:¬ (i:Int)=0:=by omega
   have hNz2:((i:Int)==0)=false:=by rw [beq_eq_false_iff_ne]; omega
   have hNz3:¬ i=0:=by omega
   replace hr1:=Hd hr1
   replace hF:=Hd hF
   replace hO0:=Hd hO0
   replace hC0:=Hd hC0
   go_wp2_with fail
   go_loopw [5,7] (fun qv iv wr=>∃ (j:Nat) (f:Names) (qw:Value) (came:Nat→Int) (q:List Nat) (D:Nat→Nat),j≤q.length∧iv=.int .i64 j∧qw=qv∧Rows w.heap.size wr f∧Below w.heap.size w wr∧FN f (.slice ca cn cc) qw M came q∧MOut i (pairL K i T) D q j∧CameOf i (pairL K i T) D q came∧stM i (pairL K i T) j=(came,q)∧∀ z,z<j→NoHit i (pairL K i T) z) (fun _ iv _=>M+1-(intOf iv).toNat)
   case atStart=>exact ⟨0,f1,_,_,_,_,by omega,rfl,rfl,hr1.out,bI,hF.out,hO0.out,hC0.out,rfl,fun z hz=>absurd hz (Nat.not_lt_zero _)⟩
   case round =>
    clear hr1 hF hO0 hC0 bI
    obtain ⟨j,f2,qv,came,q,D,hj,rfl,rfl,hr2,b2,hF2,hO,hC,hst,hnh⟩:=hrel
    obtain ⟨wo,rfl⟩:∃ wo:World,wo=wr:=⟨_,rfl⟩
    have hqlen:q.length≤M:=nodup_len M q hO.nodup (fun x hx=>by rw [← hM.out]; exact hO.low x hx)
    have hOQ:=hr2.ownI hF2.queue
    have lQ:=hOQ.at.len
    rw [castI_len] at lQ
    by_cases hjl:j<q.length
    ·obtain ⟨v,hv⟩:∃ v,q[j]?=some v:=⟨_,List.getElem?_eq_getElem hjl⟩
     have hvM:v<M:=by rw [← hM.out]; exact hO.low v (List.mem_of_getElem? hv)
     have iV:=fun w'=>hOQ.at.idx j (by rw [castI_len]; exact hjl) w'
     have cV:=hOQ.at.cellD j (by rw [castI_len]; exact hjl)
     rw [castI_get hv] at cV
     obtain ⟨mv,iR,cR,hMv⟩:=hrow.out v hvM
     rw [hrow2.out v hvM] at hMv
     have cR2:=(b2.cell (World.block_lt_of_cell? _ _ cR)).trans cR
     have lM:=hMv.len
     rw [castI_len] at lM
     have hadjl:(pairL K i T v).length≤16:=Nat.le_trans (pairL_len K i T v) (Nat.le_trans (Nat.mul_le_mul hk4 hk4) (by decide))
     obtain ⟨d1,d2,d3,d4,d5,d6⟩:=dm v i (by omega)
     obtain ⟨u1,hu1⟩:∃ z,v/i=z:=⟨_,rfl⟩
     obtain ⟨v1,hv1⟩:∃ z,v%i=z:=⟨_,rfl⟩
     rw [hu1] at d1 d3 d5
     rw [hv1] at d2 d4 d6
     have hvd:Diag i v↔u1=v1:=by unfold Diag; rw [hu1,hv1]
     have hin:=hO.enter hv
     have hjl2:=Hd hjl
     obtain ⟨L,hL⟩:∃ L,pairL K i T v=L:=⟨_,rfl⟩
     rw [hL] at hMv lM hadjl
     have hLlow:∀ t∈L,t<M:=fun t ht=>by
      rw [← hL] at ht
      rw [← hM.out]; exact ((mem_pairL (by omega)).1 ht).lt (by omega)
     generalize valAt qv j=qa at *
     generalize valAt (.slice ga M gc) v=ra at *
     obtain ⟨ap,hap⟩:∃ ap:Bool,ap=((u1:Int) != (v1:Int)):=⟨_,rfl⟩
     have hapd:ap=true↔¬ Diag i v:=by rw [hap,bne_iff_ne,hvd]; omega
     have hap2:((u1:Int) != (v1:Int))=ap:=hap.symm
     have hap3:(u1 != v1)=ap:=by rw [hap]; rw [Bool.eq_iff_iff,bne_iff_ne,bne_iff_ne]; omega
     replace hap:=Hd hap
     replace hu1:=Hd hu1
     replace hv1:=Hd hv1
     replace hvd:=Hd hvd
     replace hL:=Hd hL
     replace hMv:=Hd hMv
     replace hin:=Hd hin
     replace hr2:=Hd hr2
     replace hF2:=Hd hF2
     replace hO:=Hd hO
     replace hC:=Hd hC
     replace hOQ:=Hd hOQ
     replace hv:=Hd hv
     have hstv:(stM i (pairL K i T) j).2[j]?=some v:=by rw [hst]; exact hv.out
     replace hstv:=Hd hstv
     replace hst:=Hd hst
     replace hnh:=Hd hnh
     go_upto_region 13 with fail
     refine wp_region_plan (fun _=>True) 7 [(0,true),(1,true),(2,true),(3,true),(4,true),(5,true),(6,true)] (by kernel_rfl) (by kernel_rfl) ?_
     have hS:True:=trivial
     refine pqY 44 hS ?_
     refine pqY 45 hS ?_
     refine pqY 46 hS ?_
     refine pqY 47 hS ?_
     refine pqY 48 hS ?_
     refine pqY 49 hS ?_
     refine pqY 50 hS ?_
     refine head0 ?_
     simp only [List.drop_succ_cons,List.drop_zero]
     clear hS
     go_wp2
     refine NoPanic.normal ?_
     go_wp2_with fail
     clear cV iV cR2 lQ hap2 hap3
     go_loopw [5,56] (fun qv tv wr=>∃ (k:Nat) (f:Names) (qw:Value) (came:Nat→Int) (q:List Nat) (D:Nat→Nat),k≤L.length∧tv=.int .i64 k∧qw=qv∧Rows w.heap.size wr f∧Below w.heap.size w wr∧FN f (.slice ca cn cc) qw M came q∧j<q.length∧MIn i (pairL K i T) D q j v (L.take k)∧CameOf i (pairL K i T) D q came∧rowM i (pairL K i T) v (stM i (pairL K i T) j) k=(came,q)) (fun _ tv _=>L.length-(intOf tv).toNat)
     case atStart=>exact ⟨0,f2,_,came,q,D,by omega,rfl,rfl,hr2.out,by first | exact b2 | exact b2.drew,hF2.out,hjl2.out,hin.out,hC.out,hst.out⟩
     case round =>
      clear hr2 hF2 hO hC hOQ hin b2 hqlen hst
      obtain ⟨k,f3,qv,came,q,D,hk,rfl,rfl,hr3,b3,hF3,hjq,hIn,hC,hrm⟩:=hrel
      obtain ⟨wp',rfl⟩:∃ wo:World,wo=wr:=⟨_,rfl⟩
      have hqlen:q.length≤M:=nodup_len M q hIn.nodup (fun x hx=>by rw [← hM.out]; exact hIn.low x hx)
      by_cases hkl:k<L.length
      ·obtain ⟨t,ht⟩:∃ t,L[k]?=some t:=⟨_,List.getElem?_eq_getElem hkl⟩
       have htm:t∈pairL K i T v:=by rw [hL.out]; exact List.mem_of_getElem? ht
       have htM:t<M:=hLlow t (List.mem_of_getElem? ht)
       have hM3:=hMv.out.below b3
       have iT:=fun w'=>hM3.idx k (by rw [castI_len]; exact hkl) w'
       have cT:=hM3.cellD k (by rw [castI_len]; exact hkl)
       rw [castI_get ht] at cT
       have htk:L.take (k+1)=L.take k++[t]:=by rw [List.take_add_one,ht]; rfl
       have hrs:rowM i (pairL K i T) v (stM i (pairL K i T) j) (k+1)=stepM i v (came,q) t:=by rw [rowM_succ (t:=t) (by rw [hL.out]; exact ht),hrm]
       have hskip:(Diag i t∨¬ came t<0)→stepM i v (came,q) t=(came,q):=fun e=>by
        unfold stepM; rw [if_neg]; rintro ⟨e1,e2⟩; rcases e with e | e
        ·exact e1 e
        ·exact e e2
       have hpush:¬ Diag i t→came t<0→stepM i v (came,q) t=(updN came t (v:Int),q++[t]):=fun e1 e2=>by
        unfold stepM; rw [if_pos ⟨e1,e2⟩]
       replace hrs:=Hd hrs
       replace hskip:=Hd hskip
       replace hpush:=Hd hpush
       replace hrm:=Hd hrm
       obtain ⟨e1,e2,e3,e4,e5,e6⟩:=dm t i (by omega)
       obtain ⟨a,ha⟩:∃ z,t/i=z:=⟨_,rfl⟩
       obtain ⟨b,hb⟩:∃ z,t%i=z:=⟨_,rfl⟩
       have htd:Diag i t↔a=b:=by unfold Diag; rw [ha,hb]
       rw [ha] at e1 e3 e5
       rw [hb] at e2 e4 e6
       have hOC:=hr3.ownI hF3.came
       have iC:=fun w'=>hOC.at.idx t (by rw [tabI_len]; exact htM) w'
       have cC:=hOC.at.cellD t (by rw [tabI_len]; exact htM)
       rw [tabI_get _ _ _ htM] at cC
       have fC:=hOC.frz t (by rw [tabI_len]; exact htM)
       have kC:=(hOC.toV.blkB t (by rw [List.length_map,tabI_len]; exact htM)).2
       obtain ⟨f8,hr8,h8,hf8⟩:=hF3.set hr3 t htM (v:Int)
       obtain ⟨ct,hct⟩:∃ ct,came t=ct:=⟨_,rfl⟩
       rw [hct] at cC
       have hC1:=hC.1 t (by rw [hM.out]; exact htM)
       rw [hct] at hC1
       have hkl2:=Hd hkl
       have hBs:=b3.size
       generalize valAt mv k=ta at *
       generalize valAt (.slice ca cn cc) t=tc at *
       replace ha:=Hd ha
       replace hb:=Hd hb
       replace ht:=Hd ht
       replace hM3:=Hd hM3
       replace hOC:=Hd hOC
       replace hr3:=Hd hr3
       replace hF3:=Hd hF3
       replace hIn:=Hd hIn
       replace hC:=Hd hC
       replace hr8:=Hd hr8
       replace h8:=Hd h8
       replace htk:=Hd htk
       replace htm:=Hd htm
       replace hct:=Hd hct
       replace hC1:=Hd hC1
       by_cases hab:a=b
       ·have hq:((a:Int) != (b:Int))=false:=by rw [bne_eq_false_iff_eq]; omega
        have hq2:((a:Int)==(b:Int))=true:=by rw [beq_iff_eq]; omega
        have htD:=htd.2 hab
        replace htd:=Hd htd
        go_upto_region 17 with fail
        refine wp_region_plan (fun _=>True) 14 [(0,true),(1,true),(2,true),(3,true),(4,true),(5,true),(6,true),(7,true),(8,true),(9,true),(10,true),(11,true),(12,true),(13,true)] (by kernel_rfl) (by kernel_rfl) ?_
        have hS:True:=trivial
        refine pqY 61 hS ?_
        refine pqY 62 hS ?_
        refine pqY 63 hS ?_
        refine pqY 64 hS ?_
        refine pqY 65 hS ?_
        refine pqY 66 hS ?_
        refine pqY 67 hS ?_
        refine pqY 68 hS ?_
        refine pqN 69 hS ?_
        refine pqN 70 hS ?_
        refine pqN 71 hS ?_
        refine pqN 72 hS ?_
        refine pqN 73 hS ?_
        refine pqY 74 hS ?_
        refine head0 ?_
        simp only [List.drop_succ_cons,List.drop_zero]
        clear hS
        go_wp2
        refine NoPanic.normal ?_
        go_upto_region 20 with fail
        refine wp_region_plan (fun _=>True) 10 [(0,true),(1,true),(2,true),(3,true),(4,true),(5,true),(6,true),(7,true),(8,true),(9,true)] (by kernel_rfl) (by kernel_rfl) ?_
        have hS:True:=trivial
        refine pqY 84 hS ?_
        refine pqY 85 hS ?_
        refine pqY 86 hS ?_
        refine pqY 87 hS ?_
        refine pqY 88 hS ?_
        refine pqY 89 hS ?_
        refine pqY 90 hS ?_
        refine pqY 91 hS ?_
        refine pqY 92 hS ?_
        refine pqY 93 hS ?_
        refine head0 ?_
        simp only [List.drop_succ_cons,List.drop_zero]
        clear hS
        cases ap with
        | false =>
         have hvD:Diag i v:=by
          apply Classical.byContradiction
          intro e
          have:=hapd.2 e
          cases this
         have hsk:=hIn.out.skip (.inl ⟨htD,hvD⟩)
         rw [← htk.out] at hsk
         replace hsk:=Hd hsk
         clear hapd
         go_wp2
         refine NoPanic.normal ?_
         go_wp2
         go_roundw
         case measure=>have:=hkl2.out; simp [intOf]; omega
         case rel=>exact ⟨k+1,f3,_,came,q,D,by have:=hkl2.out; omega,by go_num,rfl,hr3.out.drew.drew,b3.drew.drew,hF3.out,hjq,hsk.out,hC.out,by rw [hrs.out,hskip.out (.inl htD)]⟩
        | true =>
         have hvD:¬ Diag i v:=hapd.1 rfl
         obtain ⟨c,hbw,hap1,hap2,hap3⟩:=hIn.out.met hC.out hvD htD (by rw [hM.out]; exact htM) htm.out
         have hmi:MeetIs i (pairL K i T) (c.reverse++[t]):=⟨j,v,k,t,c,hstv.out,by rw [hL.out]; exact ht.out,htD,hvD,by rw [hrm.out]; exact hbw,rfl,hnh.out,fun z x hz hx hd=>(hIn.out.now x (by rw [hL.out] at hx; exact List.mem_of_getElem? (by rw [List.getElem?_take,if_pos hz]; exact hx))).2 hd⟩
         have hDv:D v≤q.length:=hIn.out.bnd v (List.mem_of_getElem? hIn.out.at_)
         have hcl:c.length≤7000:=by
          have:(c.reverse++[t]).length=c.length+1:=by simp
          omega
         have hnx:=hbw.next (by rw [hM.out]; exact hvM)
         have hrc:castI (c.reverse++[t])=(castI (t::c)).reverse:=by rw [← castI_reverse,List.reverse_cons]
         obtain ⟨c',hc'⟩:=hbw.ne
         have hc0:c[0]?=some v:=by rw [hc']; rfl
         have hc1:0<c.length:=by rw [hc']; simp
         obtain ⟨W,hW⟩:∃ W:World,W=wp'.drew.drew:=⟨_,rfl⟩
         have bWp:Below wp'.heap.size wp' W:=by rw [hW]; exact (Below.refl _ _).drew.drew
         have hrW:Rows w.heap.size W f3:=by rw [hW]; exact hr3.out
         have bW:=b3.trans (bWp.mono b3.size)
         have bl:=belowAlloc W (.cells #[.int .i64 t] 3)
         have hlit:=OwnI.lit W.heap.size W (Nat.le_refl _) [(t:Int)] (by simp [maxLen]) #[.int .i64 (t:Int)] rfl 1 rfl
         replace hnx:=Hd hnx
         replace hbw:=Hd hbw
         replace hrc:=Hd hrc
         replace hap1:=Hd hap1
         replace hmi:=Hd hmi
         replace hap2:=Hd hap2
         replace hap3:=Hd hap3
         replace hc':=Hd hc'
         replace hc0:=Hd hc0
         replace hlit:=Hd hlit
         replace hrW:=Hd hrW
         clear hapd iT cT iC cC fC
         go_wp2
         refine NoPanic.normal ?_
         go_upto_region 21 with fail
         rw [← hW]
         replace hW:=Hd hW
         go_wp2_with fail
         go_loopw [12,13] (fun wv uv wr=>∃ (m:Nat) (ww:Value),m≤c.length∧ww=wv∧((m<c.length∧∃ y,c[m]?=some y∧uv=.int .i64 (y:Nat))∨(m=c.length∧uv=.int .i64 (-1)))∧OwnI W.heap.size wr ww (castI (t::c.take m))∧Below W.heap.size W wr) (fun wv _ _=>c.length+1-sliceN wv)
         case atStart=>exact ⟨0,_,by omega,rfl,.inl ⟨hc1,v,hc0.out,rfl⟩,hlit.out,bl⟩
         case round =>
          obtain ⟨m,ww,hm,rfl,hcase,hoW,bWr⟩:=hrel
          obtain ⟨wz,rfl⟩:∃ wo:World,wo=wr:=⟨_,rfl⟩
          have hwl:(castI (t::c.take m)).length=m+1:=by rw [castI_len,List.length_cons,List.length_take]; omega
          have hsn:sliceN ww=m+1:=by rw [sliceN_of hoW.at,hwl]
          rcases hcase with ⟨hmc,y,hy,rfl⟩ | ⟨hmc,rfl⟩
          ·obtain ⟨hyM,hnext⟩:=hnx.out m y hy
           rw [hM.out] at hyM
           have htk2:castI (t::c.take m)++[(y:Int)]=castI (t::c.take (m+1)):=by
            rw [← castI_snoc,List.take_add_one,hy]; rfl
           have hBW:=bWr.size
           replace hnext:=Hd hnext
           replace hy:=Hd hy
           replace hsn:=Hd hsn
           replace htk2:=Hd htk2
           go_wp2_with (at_builtin; go_loud (refine wpl_append1 rfl _ _ rfl W.heap.size ww _ y hoW rfl rfl (by omega) hBW ?_))
           intro v' w7 ho7 b7 _ _
           have bW7:=bWr.trans b7
           have hOC7:=(hrW.out.below bW7).ownI hF3.out.came
           have iY:=fun w'=>hOC7.at.idx y (by rw [tabI_len]; exact hyM) w'
           have cY:=hOC7.at.cellD y (by rw [tabI_len]; exact hyM)
           rw [tabI_get _ _ _ hyM] at cY
           rw [htk2.out] at ho7
           have hl7:(castI (t::c.take (m+1))).length=m+2:=by rw [castI_len,List.length_cons,List.length_take]; omega
           have hs7:sliceN v'=m+2:=by rw [sliceN_of ho7.at,hl7]
           obtain ⟨va,vn,vc,rfl⟩:=ho7.at.shape
           generalize valAt (.slice ca cn cc) y=ya at *
           obtain ⟨z,hz⟩:∃ z,came y=z:=⟨_,rfl⟩
           rw [hz] at cY
           have hnext2:(m+1<c.length∧∃ x,c[m+1]?=some x∧z=(x:Nat))∨(m+1=c.length∧z=-1):=by rw [← hz]; exact hnext.out
           replace ho7:=Hd ho7
           replace hOC7:=Hd hOC7
           replace hz:=Hd hz
           replace hs7:=Hd hs7
           replace hnext2:=Hd hnext2
           clear hoW
           go_wp2
           go_roundw
           case measure=>have:=hs7.out; have:=hsn.out; omega
           case rel =>
            refine ⟨m+1,_,by omega,rfl,?_,ho7.out,bW7⟩
            rcases hnext2.out with ⟨h1,x,h2,h3⟩ | ⟨h1,h2⟩
            ·exact .inl ⟨h1,x,h2,by rw [h3]⟩
            ·exact .inr ⟨h1,by rw [h2]⟩
          ·subst hmc
           rw [List.take_length] at hoW
           replace hoW:=Hd hoW
           replace hsn:=Hd hsn
           go_wp2_with fail
           refine (reverse_own W.heap.size ww _ wz hoW.out (by rw [castI_len,List.length_cons]; omega)).mono ?_
           rintro e w8 ⟨rfl,ho8,b8⟩
           rw [← hrc.out] at ho8
           have bE:=bW.trans ((bWr.trans b8).mono bW.size)
           have ho9:=ho8.mono (B':=w.heap.size) bW.size
           have hlen9:(c.reverse++[t]).length≤20000:=by simp; omega
           obtain ⟨va,vn,vc,rfl⟩:=ho8.at.shape
           replace ho8:=Hd ho8
           replace ho9:=Hd ho9
           go_wp2
           go_ret
           exact ⟨_,rfl,bE,.inl ⟨_,hmi.out,hap1.out,hap3.out,hlen9,ho9.out⟩⟩
       ·have hq:((a:Int) != (b:Int))=true:=by rw [bne_iff_ne]; omega
        have hq2:((a:Int)==(b:Int))=false:=by rw [beq_eq_false_iff_ne]; omega
        have htD:¬ Diag i t:=fun e=>hab (htd.1 e)
        replace htd:=Hd htd
        by_cases hneg:ct<0
        ·obtain rfl:=hC1.out.2 hneg
         have htq:t∉q:=(hC1.out.1.1 (by decide)).resolve_left htD
         have hadd:=hIn.out.add (by rw [hM.out]; exact htM) htD htq
         have hcadd:=hC.out.add hIn.out htD htq htm.out
         rw [← htk.out] at hadd
         replace hadd:=Hd hadd
         replace hcadd:=Hd hcadd
         replace htq:=Hd htq
         go_upto_region 17 with fail
         refine wp_region_plan (fun w'=>w'.cell? tc=some (.int .i64 (-1))) 14 [(0,true),(1,true),(2,true),(3,true),(4,true),(5,true),(6,true),(7,true),(8,true),(9,true),(10,true),(11,true),(12,true),(13,true)] (by kernel_rfl) (by kernel_rfl) ?_
         have hS:wp'.drew.cell? tc=some (.int .i64 (-1)):=cC
         refine pqY 61 hS ?_
         refine pqY 62 hS ?_
         refine pqY 63 hS ?_
         refine pqY 64 hS ?_
         refine pqY 65 hS ?_
         refine pqY 66 hS ?_
         refine pqY 67 hS ?_
         refine pqY 68 hS ?_
         refine pqY 69 hS ?_
         refine pqY 70 hS ?_
         refine pqY 71 hS ?_
         refine pqY 72 hS ?_
         refine pqY 73 hS ?_
         refine pqY 74 hS ?_
         refine head0 ?_
         simp only [List.drop_succ_cons,List.drop_zero]
         clear hS
         have hr8':Rows w.heap.size ((wp'.setCell tc (.int .i64 (v:Int))).drew) f8:=hr8.out
         have b8:Below w.heap.size w ((wp'.setCell tc (.int .i64 (v:Int))).drew):=(b3.setCell kC _).drew
         obtain ⟨W8,hW8⟩:∃ W:World,W=(wp'.setCell tc (.int .i64 (v:Int))).drew:=⟨_,rfl⟩
         rw [← hW8] at hr8' b8
         have hoQ8:=hr8'.ownI h8.out.queue
         have hB8:=b8.size
         have hlq:(castI q).length≤7000:=by rw [castI_len]; omega
         replace hr8':=Hd hr8'
         go_wp2
         refine NoPanic.normal ?_
         go_upto_region 19 with fail
         rw [← hW8]
         replace hW8:=Hd hW8
         go_wp2_with (at_builtin; go_loud (refine wpl_app1 rfl _ _ rfl w.heap.size qv _ t hoQ8 rfl rfl (by omega) hB8 ?_))
         intro qv' w9 ho9 b9 hal9
         obtain ⟨f9,hr9,h9,_⟩:=h8.out.push hr8'.out t ho9 hal9
         obtain ⟨q1,q2,q3,rfl⟩:=ho9.at.shape
         replace hr9:=Hd hr9
         replace ho9:=Hd ho9
         clear hal9 hoQ8
         go_wp2
         go_roundw
         case measure=>have:=hkl2.out; simp [intOf]; omega
         case rel=>exact ⟨k+1,f9,_,_,_,_,by have:=hkl2.out; omega,by go_num,rfl,hr9.out,b8.trans b9,h9,by simp; omega,hadd.out,hcadd.out,by rw [hrs.out,hpush.out htD (by rw [hct.out]; decide)]⟩
        ·obtain ⟨pc,rfl⟩:=Int.eq_ofNat_of_zero_le (show 0≤ct by omega)
         have htq:t∈q:=by
          apply Classical.byContradiction
          intro e
          exact hneg (hC1.out.1.2 (.inr e))
         have hsk:=hIn.out.skip (.inr ⟨htD,htq⟩)
         rw [← htk.out] at hsk
         replace hsk:=Hd hsk
         replace htq:=Hd htq
         go_upto_region 17 with fail
         refine wp_region_plan (fun w'=>w'.cell? tc=some (.int .i64 (pc:Nat))) 14 [(0,true),(1,true),(2,true),(3,true),(4,true),(5,true),(6,true),(7,true),(8,true),(9,true),(10,true),(11,true),(12,true),(13,true)] (by kernel_rfl) (by kernel_rfl) ?_
         have hS:wp'.drew.cell? tc=some (.int .i64 (pc:Nat)):=cC
         refine pqY 61 hS ?_
         refine pqY 62 hS ?_
         refine pqY 63 hS ?_
         refine pqY 64 hS ?_
         refine pqY 65 hS ?_
         refine pqY 66 hS ?_
         refine pqY 67 hS ?_
         refine pqY 68 hS ?_
         refine pqY 69 hS ?_
         refine pqY 70 hS ?_
         refine pqY 71 hS ?_
         refine pqY 72 hS ?_
         refine pqY 73 hS ?_
         refine pqY 74 hS ?_
         refine head0 ?_
         simp only [List.drop_succ_cons,List.drop_zero]
         clear hS
         go_wp2
         refine NoPanic.normal ?_
         go_upto_region 20 with fail
         refine wp_region_plan (fun _=>True) 10 [(0,true),(1,true),(2,true),(3,true),(4,true),(5,true),(6,true),(7,true),(8,true),(9,true)] (by kernel_rfl) (by kernel_rfl) ?_
         have hS:True:=trivial
         refine pqY 84 hS ?_
         refine pqY 85 hS ?_
         refine pqY 86 hS ?_
         refine pqY 87 hS ?_
         refine pqY 88 hS ?_
         refine pqY 89 hS ?_
         refine pqY 90 hS ?_
         refine pqY 91 hS ?_
         refine pqN 92 hS ?_
         refine pqY 93 hS ?_
         refine head0 ?_
         simp only [List.drop_succ_cons,List.drop_zero]
         clear hS
         go_wp2
         refine NoPanic.normal ?_
         go_wp2
         go_roundw
         case measure=>have:=hkl2.out; simp [intOf]; omega
         case rel=>exact ⟨k+1,f3,_,came,q,D,by have:=hkl2.out; omega,by go_num,rfl,hr3.out.drew.drew,b3.drew.drew,hF3.out,hjq,hsk.out,hC.out,by rw [hrs.out,hskip.out (.inr (by rw [hct.out]; omega))]⟩
      ·obtain rfl:k=L.length:=by omega
       rw [List.take_length] at hIn
       have hout:=hIn.leave hL.out.symm
       have hst2:stM i (pairL K i T) (j+1)=(came,q):=by rw [stM_succ hstv.out,hL.out,hrm]
       have hnh2:∀ z,z<j+1→NoHit i (pairL K i T) z:=fun z hz=>by
        by_cases e:z=j
        ·subst e
         intro v' hv' t ht htD
         rw [hstv.out] at hv'
         obtain rfl:=Option.some.inj hv'
         rw [hL.out] at ht
         exact (hIn.now t ht).2 htD
        ·exact hnh.out z (by omega)
       replace hst2:=Hd hst2
       replace hnh2:=Hd hnh2
       replace hout:=Hd hout
       replace hIn:=Hd hIn
       replace hr3:=Hd hr3
       replace hF3:=Hd hF3
       replace hC:=Hd hC
       go_wp2
       go_roundw
       case measure=>simp [intOf]; omega
       case rel=>exact ⟨j+1,f3,_,came,q,D,by omega,by go_num,rfl,hr3.out,b3,hF3.out,hout.out,hC.out,hst2.out,hnh2.out⟩
    ·obtain rfl:j=q.length:=by omega
     have hno:=hO.none (Nat.le_refl _)
     replace hno:=Hd hno
     replace hr2:=Hd hr2
     replace hF2:=Hd hF2
     replace hO:=Hd hO
     replace hC:=Hd hC
     replace hOQ:=Hd hOQ
     go_wp2
     go_ret
     exact ⟨_,rfl,b2,.inr ⟨rfl,hno.out⟩⟩
def FinPost (w:World) (K R:Nat) (T:List Int) (yes a b e:Value) (w':World):Prop :=
 e=.nilIface∧((yes=.bool true∧a=.slice none 0 0∧b=.slice none 0 0∧∀ x y,¬ IsTwins K R T x y) ∨
 (yes=.bool false∧∃ x y,FinIs K R T x y∧IsTwins K R T x y∧TwinLen K R T x.length∧x.length≤20010∧OwnI w.heap.size w' a x∧OwnI w.heap.size w' b y∧(a.ownBlock=none∨a.ownBlock≠b.ownBlock)))
theorem finite_bad (r:Nat→Addr) (k R:Int) (va:Option Addr) (vn vc:Nat) (T:List Int) (t:Int×List (ByteArray×Int)) (w:World) (hg:Glob r w) (h:IntsAt w (.slice va vn vc) T) (hc:smallP k R T=some t) :
 Calls Tryz.prog 67 #[.agg #[.int .i64 k,.int .i64 R,.slice va vn vc]] w (Ret4 (fun x y z u w'=>x=.bool false∧y=.slice none 0 0∧z=.slice none 0 0∧ErrIs r w' (under sTwins 0 (under sPairs 0 (some t))) u) w):=by
 have b0:=belowAlloc w (.cells #[.int .i64 k,.int .i64 R,.slice va vn vc] 24)
 replace hg:=Hd (hg.below b0)
 replace h:=Hd (h.below b0)
 replace hc:=Hd hc
 go_enter Tryz.func67,Tryz.ntmps67
 go_wp2_with fail
 refine (pgraph_bad r k R va vn vc T t _ hg.out h.out hc.out).mono ?_
 rintro e w1 ⟨x,y,rfl,b1,rfl,hy⟩
 obtain ⟨T2,a2,rfl⟩:∃ T a,y=.iface T (.pointer (some a)):=by
  unfold under at hy
  exact ErrIs.some_shape hy
 replace hy:=Hd hy
 go_wp2_with fail
 refine (under_any r sTwins 0 _ _ w1 hy.out).mono ?_
 rintro e w2 ⟨u,rfl,b2,hu⟩
 obtain ⟨T3,a3,rfl⟩:∃ T a,u=.iface T (.pointer (some a)):=by
  unfold under at hu
  exact ErrIs.some_shape hu
 replace hu:=Hd hu
 go_wp2
 (try simp only [Exit.inBlock,Exit.then])
 refine bodyPost_ret (results_tmp4 rfl _ _ _) rfl ?_
 exact ⟨_,_,_,_,rfl,Below.step b0 (Below.step b1 b2),rfl,rfl,rfl,hu.out⟩
theorem finite_zero (r:Nat→Addr) (K:Nat) (va:Option Addr) (vn vc:Nat) (T:List Int) (w:World) (hg:Glob r w) (h:IntsAt w (.slice va vn vc) T) (hr:RuleOk K 0 T) (hl:T.length≤256) :
 Calls Tryz.prog 67 #[.agg #[.int .i64 K,.int .i64 ((0:Nat):Int),.slice va vn vc]] w (Ret4 (FinPost w K 0 T) w):=by
 have b0:=belowAlloc w (.cells #[.int .i64 K,.int .i64 ((0:Nat):Int),.slice va vn vc] 24)
 have q:Box3 (w.alloc (.cells #[.int .i64 K,.int .i64 ((0:Nat):Int),.slice va vn vc] 24)) w.heap.size (.int .i64 K) (.int .i64 ((0:Nat):Int)) (.slice va vn vc):=by simp [Box3,go_sem]
 have hTK:T.length=K:=by rw [hr.len]; simp [pw]
 have hgraph:=fun (w':World) (hgl:Glob r w') (hT:IntsAt w' (.slice va vn vc) T)=>pgraph_ok r K 0 va vn vc T w' hgl hT hr hl
 replace hgraph:=Hd hgraph
 replace hTK:=Hd hTK
 replace hg:=Hd (hg.below b0)
 replace h:=Hd (h.below b0)
 replace hr:=Hd hr
 go_enter Tryz.func67,Tryz.ntmps67
 go_wp2_with fail
 refine (hgraph.out _ hg.out h.out).mono ?_
 rintro e w1 ⟨gv,y,rfl,b1,rfl,-⟩
 obtain ⟨⟨z0,z1,z2⟩,-,-,-⟩:=q.below b1
 have b01:=Below.step b0 b1
 have hs:=b01.size
 go_wp2_with fail
 refine (single_any K ((0:Nat):Int) va vn vc T w1 (h.out.below b1)).mono ?_
 rintro e w2 ⟨x,y,rfl,b2,hp⟩
 have b02:=Below.step b01 b2
 rcases hp with ⟨a,b,hsi,hoa,hob,hd⟩ | ⟨rfl,rfl,hno⟩
 ·have lx:=hoa.at.len
  obtain ⟨x1,x2,x3,rfl⟩:=hoa.at.shape
  obtain ⟨y1,y2,y3,rfl⟩:=hob.at.shape
  have htw:=hsi.twins hTK.out
  have htl:TwinLen K 0 T [(a:Int)].length:=⟨⟨_,_,htw,rfl⟩,fun c d hcd=>twins_pos hcd⟩
  replace hsi:=Hd hsi
  replace hoa:=Hd hoa
  replace hob:=Hd hob
  replace hd:=Hd hd
  replace htw:=Hd htw
  replace htl:=Hd htl
  clear z0 z1 z2
  go_wp2
  (try simp only [Exit.inBlock,Exit.then])
  refine bodyPost_ret (results_tmp4 rfl _ _ _) rfl ?_
  exact ⟨_,_,_,_,rfl,b02,rfl,.inr ⟨rfl,_,_,.inl ⟨rfl,a,b,hsi.out,rfl,rfl⟩,htw.out,htl.out,by simp,hoa.out.mono hs,hob.out.mono hs,hd.out⟩⟩
 ·have hn:=no_single (K:=K) hTK.out hno
  replace hn:=Hd hn
  clear hno z0 z1 z2
  go_wp2
  (try simp only [Exit.inBlock,Exit.then])
  refine bodyPost_ret (results_tmp4 rfl _ _ _) rfl ?_
  exact ⟨_,_,_,_,rfl,b02,rfl,.inl ⟨rfl,rfl,rfl,hn.out⟩⟩
theorem finite_pos (r:Nat→Addr) (K R:Nat) (va:Option Addr) (vn vc:Nat) (T:List Int) (w:World) (hg:Glob r w) (h:IntsAt w (.slice va vn vc) T) (hr:RuleOk K R T) (hl:T.length≤256) (hR:1≤R) :
 Calls Tryz.prog 67 #[.agg #[.int .i64 K,.int .i64 R,.slice va vn vc]] w (Ret4 (FinPost w K R T) w):=by
 have b0:=belowAlloc w (.cells #[.int .i64 K,.int .i64 R,.slice va vn vc] 24)
 have q:Box3 (w.alloc (.cells #[.int .i64 K,.int .i64 R,.slice va vn vc] 24)) w.heap.size (.int .i64 K) (.int .i64 R) (.slice va vn vc):=by simp [Box3,go_sem]
 have hk1:=hr.k1
 have hk4:=hr.k4
 have hR3:=hr.r3
 have hN81:=nodes_le hr hR hl
 have hN1:=pw_pos (K:=K) (2*R) hk1
 have hwR:wkR R=R:=if_neg (by omega)
 have hwT:wkT K R T=T:=if_neg (by omega)
 have hgraph:=fun (w':World) (hgl:Glob r w') (hT:IntsAt w' (.slice va vn vc) T)=>pgraph_ok r K R va vn vc T w' hgl hT hr hl
 have hwords:=fun (u:Value) (ns:List Nat) (w':World) (hgl:Glob r w') (hT:IntsAt w' (.slice va vn vc) T)=>pwords_way r K R va vn vc T u ns w' hgl hT hr hl
 rw [hwR,hwT] at hgraph hwords
 have hmeet:=fun (ga:Option Addr) (gc:Nat) (w':World)=>meet_any K (pw K (2*R)) T ga gc w' hk4 hN1 hN81
 have hR0:((R:Int)==0)=false:=by rw [beq_eq_false_iff_ne]; omega
 have hR1:¬ (R:Int)=0:=by omega
 have hR2:¬ R=0:=by omega
 have hR22:=Hd hR2
 have hRR:=Hd hR
 replace hgraph:=Hd hgraph
 replace hwords:=Hd hwords
 replace hmeet:=Hd hmeet
 replace hg:=Hd (hg.below b0)
 replace h:=Hd (h.below b0)
 replace hr:=Hd hr
 clear hwR hwT
 go_enter Tryz.func67,Tryz.ntmps67
 go_wp2_with fail
 refine (hgraph.out _ hg.out h.out).mono ?_
 rintro e w1 ⟨gv,y,rfl,b1,rfl,f,vals,hrows,hwn⟩
 have hL:ListsAt w1 gv (pairG K (pw K (2*R)) T):=hwn.lists hrows
 obtain ⟨ga,gc,rfl⟩:=hL.shape
 obtain ⟨⟨z0,z1,z2⟩,-,-,-⟩:=q.below b1
 have b01:=Below.step b0 b1
 replace hL:=Hd hL
 clear hrows hwn
 go_wp2_with fail
 refine (hmeet.out ga gc w1 hL.out).mono ?_
 rintro e w2 ⟨mv,rfl,b2,hp⟩
 have b12:=Below.step b1 b2
 have b02:=Below.step b01 b2
 clear z0 z1 z2
 obtain ⟨⟨z0,z1,z2⟩,-,-,-⟩:=q.below b12
 rcases hp with ⟨ws,hmi,haw,hmin,hws,how⟩ | ⟨rfl,hno⟩
 ·have hw3:=haw.len
  have hlow:∀ p∈ws,p<pw K (2*R)*pw K (2*R):=fun p hp=>by
   obtain ⟨i,hi,rfl⟩:=List.mem_iff_getElem.1 hp
   have:=haw.low i hi
   simpa [List.getD,hi] using this
  have hne:ws≠[]:=by intro e; rw [e] at hw3; simp at hw3
  have hfit:AllFit K (pw K (2*R)) T ws:=fun i hi=>(fits_iff hk1 hR (haw.low _ hi)).2 ((mem_pairL (by omega)).1 (haw.arr i hi))
  have htw:=haw.twins hk1 hR
  have htl:=way_twinLen hk1 hR haw hmin
  have lm:=how.at.len
  rw [castI_len] at lm
  have hln:(((ws.length:Nat):Int)==0)=false:=by rw [beq_eq_false_iff_ne]; omega
  have hln2:¬ ((ws.length:Nat):Int)=0:=by omega
  have hln3:¬ ws.length=0:=by omega
  obtain ⟨m1,m2,m3,rfl⟩:=how.at.shape
  replace hmi:=Hd hmi
  replace haw:=Hd haw
  replace hlow:=Hd hlow
  replace hne:=Hd hne
  replace hfit:=Hd hfit
  replace htw:=Hd htw
  replace htl:=Hd htl
  replace how:=Hd how
  have hws2:=Hd hws
  clear hmin
  go_wp2_with fail
  refine (hwords.out _ ws w2 (hg.out.below b12) (h.out.below b12) how.out.at hne.out hlow.out (by have:=hws2.out; omega)).mono ?_
  rintro e w3 ⟨x,y,z,rfl,b3,hpo⟩
  rcases hpo with ⟨_,rfl,hox,hoy,hd⟩ | ⟨hnf,_⟩
  ·obtain ⟨x1,x2,x3,rfl⟩:=hox.at.shape
   obtain ⟨y1,y2,y3,rfl⟩:=hoy.at.shape
   have hs:=b02.size
   replace hox:=Hd hox
   replace hoy:=Hd hoy
   replace hd:=Hd hd
   clear z0 z1 z2
   go_wp2
   (try simp only [Exit.inBlock,Exit.then])
   refine bodyPost_ret (results_tmp4 rfl _ _ _) rfl ?_
   refine ⟨_,_,_,_,rfl,Below.step b02 b3,rfl,.inr ⟨rfl,_,_,.inr ⟨hR22.out,ws,hmi.out,rfl,rfl⟩,htw.out,?_,?_,hox.out.mono hs,hoy.out.mono hs,hd.out⟩⟩
   ·rw [alongW_len]; exact htl.out
   ·rw [alongW_len]; have:=hws2.out; omega
  ·exact absurd hfit.out hnf
 ·have hn:=no_twins (K:=K) (R:=R) (T:=T) hk1 hR hno
  replace hn:=Hd hn
  clear hno z0 z1 z2
  go_wp2
  (try simp only [Exit.inBlock,Exit.then])
  refine bodyPost_ret (results_tmp4 rfl _ _ _) rfl ?_
  exact ⟨_,_,_,_,rfl,b02,rfl,.inl ⟨rfl,rfl,rfl,hn.out⟩⟩
theorem finite_ok (r:Nat→Addr) (K R:Nat) (va:Option Addr) (vn vc:Nat) (T:List Int) (w:World) (hg:Glob r w) (h:IntsAt w (.slice va vn vc) T) (hr:RuleOk K R T) (hl:T.length≤256) :
 Calls Tryz.prog 67 #[.agg #[.int .i64 K,.int .i64 R,.slice va vn vc]] w (Ret4 (FinPost w K R T) w):=by
 by_cases e:R=0
 ·subst e; exact finite_zero r K va vn vc T w hg h hr hl
 ·exact finite_pos r K R va vn vc T w hg h hr hl (by omega)
end Go.Proofs.YtkaoebokbfcmhaaGreatDoor
namespace Go.Proofs.YtkaoebokbfcmhaaGreatDoor
end Go.Proofs.YtkaoebokbfcmhaaGreatDoor
