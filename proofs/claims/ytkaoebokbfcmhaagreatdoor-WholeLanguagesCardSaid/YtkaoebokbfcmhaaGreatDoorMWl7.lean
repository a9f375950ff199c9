/-
  Texts that the proof leans on.
-/
import Derived.Test.YtkaoebokbfcmhaaGreatDoorMWl6
import Derived.Sort.Statements
import Derived.Shelf.SlSortCmp.Whole1
import Derived.Ground.SlsfProg
namespace Go.Proofs.YtkaoebokbfcmhaaGreatDoor
open Go.RowKit
set_option maxRecDepth 100000
set_option maxHeartbeats 8000000
def WordsPost (r:Nat→Addr) (w:World) (K R:Nat) (T:List Int) (ns:List Nat) (x y z:Value) (w':World):Prop :=
 (AllFit K (pw K (2*R)) T ns∧z=.nilIface∧OwnI w.heap.size w' x (alongW K (2*R) (·/pw K (2*R)) ns)∧OwnI w.heap.size w' y (alongW K (2*R) (·%pw K (2*R)) ns)∧(x.ownBlock=none∨x.ownBlock≠y.ownBlock)) ∨
 (¬ AllFit K (pw K (2*R)) T ns∧x=.slice none 0 0∧y=.slice none 0 0∧ErrIs r w' (fresh sPairs 1 3) z)
theorem pwords_way (r:Nat→Addr) (K R:Nat) (va:Option Addr) (vn vc:Nat) (T:List Int) (u:Value) (ns:List Nat) (w:World) (hg:Glob r w) (h:IntsAt w (.slice va vn vc) T) (hr:RuleOk K R T) (hl:T.length≤256) (hu:IntsAt w u (castI ns)) (hne:ns≠[]) (hlow:∀ p∈ns,p<pw K (2*wkR R)*pw K (2*wkR R)) (hnl:ns.length≤17592186044000) :
 Calls Tryz.prog 119 #[.agg #[.int .i64 K,.int .i64 R,.slice va vn vc],u] w (Ret3 (WordsPost r w K (wkR R) (wkT K R T) ns) w):=by
 have b0:=belowAlloc w (.cells #[.int .i64 K,.int .i64 R,.slice va vn vc] 24)
 have hk1:=hr.k1
 have hk4:=hr.k4
 have hokW:=wk_ok hr
 have hlW:=wk_small hr hl
 have hRW:=wk_pos R
 have hN81:=nodes_le hokW hRW hlW
 obtain ⟨hdiv,hlen⟩:=hokW.half
 have hR3:=hokW.r3
 have hN1:=pw_pos (K:=K) (2*wkR R) hk1
 have hwork:=fun (w':World) (hgl:Glob r w') (hT:IntsAt w' (.slice va vn vc) T)=>working_ok r K R va vn vc T w' hgl hT hr hl
 have hNodes:=fun (a:Option Addr) (n c:Nat) (w':World) (hgl:Glob r w') (hT:IntsAt w' (.slice a n c) (wkT K R T))=>over_Nodes r K (wkR R) a n c (wkT K R T) w' hgl hT hokW hlW
 have hEdge:=fun (a:Option Addr) (n c u s:Nat) (w':World) (hgl:Glob r w') (hT:IntsAt w' (.slice a n c) (wkT K R T)) (hu:u<pw K (2*wkR R)) (hs:s<K)=>over_Edge r K (wkR R) a n c (wkT K R T) u s w' hgl hT hokW hlW (by rw [hdiv]; exact hu) hs
 rw [hdiv] at hNodes hEdge
 have hpost:=fun (x y z:Value) (w':World)=>@WordsPost r w K (wkR R) (wkT K R T) ns x y z w'
 obtain ⟨m,hm⟩:∃ m,2*wkR R=m:=⟨_,rfl⟩
 unfold WordsPost
 rw [hm] at hNodes hEdge hlow hN81 hN1 hdiv hlen ⊢
 obtain ⟨N,hN⟩:∃ N,pw K m=N:=⟨_,rfl⟩
 rw [hN] at hNodes hEdge hlow hN81 hN1 hdiv hlen ⊢
 generalize wkT K R T=T' at *
 generalize wkR R=R' at *
 clear hpost
 have lu:=hu.len
 obtain ⟨up,hup,hupI⟩:=hu.post 1 (by rw [castI_len]; exact List.length_pos_iff.2 hne)
 have lup:=hupI.len
 have hcl:(castI ns).length=ns.length:=castI_len ns
 have hdl:((castI ns).drop 1).length=ns.length-1:=by rw [List.length_drop,castI_len]
 rw [hdl] at lup
 rw [hcl] at lu
 have hnp:0<ns.length:=List.length_pos_iff.2 hne
 have iU:=fun (i:Nat) (hi:i<ns.length) w'=>hu.idx i (by rw [castI_len]; exact hi) w'
 have cU:=fun (i:Nat) (hi:i<ns.length)=>hu.cellD i (by rw [castI_len]; exact hi)
 have iP:=fun (i:Nat) (hi:i+1<ns.length) w'=>hupI.idx i (by rw [hdl]; omega) w'
 have cP:=fun (i:Nat) (hi:i+1<ns.length)=>hupI.cellD i (by rw [hdl]; omega)
 have gU:∀ i,i<ns.length→(castI ns).getD i 0=((ns.getD i 0:Nat):Int):=fun i hi=>by simp [castI,List.getD,hi]
 have gP:∀ i,i+1<ns.length→((castI ns).drop 1).getD i 0=((ns.getD (i+1) 0:Nat):Int):=fun i hi=>by
  rw [List.getD_eq_getElem?_getD,List.getElem?_drop,Nat.add_comm 1 i,← List.getD_eq_getElem?_getD]; exact gU _ hi
 have cU2:=fun (i:Nat) (hi:i<ns.length)=>(cU i hi).trans (by rw [gU i hi])
 have cP2:=fun (i:Nat) (hi:i+1<ns.length)=>(cP i hi).trans (by rw [gP i hi])
 have hlow2:∀ i,i<ns.length→ns.getD i 0<N*N:=fun i hi=>by
  simp only [List.getD_eq_getElem?_getD,List.getElem?_eq_getElem hi,Option.getD_some]
  exact hlow _ (List.getElem_mem hi)
 have hM6:N*N≤6561:=Nat.mul_le_mul hN81 hN81
 have hokway:decide (0≤idxOf (odd1 ((N*N:Nat):Int)) (castI ns))=false:=by
  rw [decide_eq_false_iff_not,idxOf_neg]
  ·omega
  ·intro x hx
   obtain ⟨p,hp,rfl⟩:=List.mem_map.1 hx
   have:=hlow p hp
   rw [odd1_false]; omega
 have hl0:¬ ns.length=0:=by omega
 have hl1:((ns.length:Int)==0)=false:=by rw [beq_eq_false_iff_ne]; omega
 obtain ⟨ua,un,uc,rfl⟩:=hu.shape
 obtain ⟨pa,pn,pc,rfl⟩:=hupI.shape
 replace hwork:=Hd hwork
 replace hNodes:=Hd hNodes
 replace hEdge:=Hd hEdge
 replace hg:=Hd (hg.below b0)
 replace h:=Hd (h.below b0)
 replace hu:=Hd (hu.below b0)
 replace hokW:=Hd hokW
 replace hr:=Hd hr
 replace hdiv:=Hd hdiv
 replace hlen:=Hd hlen
 replace hm:=Hd hm
 replace hN:=Hd hN
 replace iU:=Hd iU
 replace iP:=Hd iP
 replace cU2:=Hd cU2
 replace cP2:=Hd cP2
 replace hlow2:=Hd hlow2
 replace hlow:=Hd hlow
 replace hokway:=Hd hokway
 replace hne:=Hd hne
 replace hupI:=Hd hupI
 clear cU cP gU gP hdl hcl
 go_enter Tryz.func119,Tryz.ntmps119
 go_wp2_with fail
 refine (hwork.out _ hg.out h.out).mono ?_
 rintro e w1 ⟨x,y,rfl,b1,rfl,a,n,c,rfl,hT1⟩
 have ba:=belowAlloc w1 (.cells #[.int .i64 K,.int .i64 R',.slice a n c] 24)
 have qw:Box3 (w1.alloc (.cells #[.int .i64 K,.int .i64 R',.slice a n c] 24)) w1.heap.size (.int .i64 K) (.int .i64 R') (.slice a n c):=by simp [Box3,go_sem]
 have b12:=Below.step b1 ba
 have hT2:=hT1.below ba
 replace hT1:=Hd hT1
 replace hT2:=Hd hT2
 replace qw:=Hd qw
 go_wp2_with fail
 refine (hNodes.out a n c _ (hg.out.below b12) hT2.out).mono ?_
 rintro e w3 ⟨x,y,rfl,b3,rfl,rfl⟩
 have bb:=belowAlloc w3 (.cells #[.int .i64 N] 3)
 have b34:=Below.step b3 bb
 have b14:=Below.step b12 b34
 have cN:(w3.alloc (.cells #[.int .i64 N] 3)).cell? ⟨w3.heap.size,0,none⟩=some (.int .i64 N):=by simp [go_sem]
 have hcf:=containsFunc_any (.slice ua un uc) (.pointer (some ⟨w3.heap.size,0,none⟩)) 151 (castI ns) (odd1 ((N*N:Nat):Int)) _ (hu.out.below b14) eg_words1 (fun x _=>words1_any x w3.heap.size N _ (by omega) cN)
 replace hcf:=Hd hcf
 replace cN:=Hd cN
 go_wp2_with fail
 refine hcf.out.mono ?_
 rintro e w5 ⟨rfl,hw5⟩
 rw [hokway.out]
 have cN5:=cN.out
 have qw5:=qw.out.below b34
 have hT5:=hT2.out.below b34
 rw [hw5] at b14 cN5 qw5 hT5
 clear hcf cN hw5 bb b34 b3 b12
 have b05:=Below.step b0 b14
 have hg5:=hg.out.below b14
 clear b14
 -- region 8
 obtain ⟨L1,hL1⟩:∃ L1,ns.length=L1+1:=⟨ns.length-1,by omega⟩
 rw [hL1,Nat.add_sub_cancel] at lup
 have hLbig:L1≤17592186044000:=by omega
 have hup1:∀ w',(Instr.slice 22 (.slice ua un uc) (some (.int .i64 1)) none none).run Tryz.prog w'=.ok (.slice pa pn pc) w':=hup
 obtain ⟨p0,hp0⟩:∃ p,ns.getD 0 0=p:=⟨_,rfl⟩
 have hp0l:p0<N*N:=by rw [← hp0]; exact hlow2.out 0 hnp
 have i0:∀ w',(Instr.indexAt 22 (.slice ua un uc) (.int .i64 0)).run Tryz.prog w'=.ok (.pointer (some (valAt (.slice ua un uc) 0))) w':=fun w'=>iU.out 0 hnp w'
 have c0:=cU2.out 0 hnp
 rw [hp0] at c0
 have c05:=(b05.cell (World.block_lt_of_cell? _ _ c0)).trans c0
 have hN0:((N:Int)==0)=false:=by rw [beq_eq_false_iff_ne]; omega
 have hN2:¬ (N:Int)=0:=by omega
 have hN3:¬ N=0:=by omega
 have hK0:((K:Int)==0)=false:=by rw [beq_eq_false_iff_ne]; omega
 have hK1:¬ (K:Int)=0:=by omega
 have hK3:¬ K=0:=by omega
 obtain ⟨d1,d2,d3,d4,d5,d6⟩:=dm p0 N (by omega)
 obtain ⟨u0,hu0⟩:∃ z,p0/N=z:=⟨_,rfl⟩
 obtain ⟨v0,hv0⟩:∃ z,p0%N=z:=⟨_,rfl⟩
 rw [hu0] at d1 d3 d5
 rw [hv0] at d2 d4 d6
 have hu0l:u0<N:=by rw [← hu0]; exact div_lt_of hp0l
 have hv0l:v0<N:=by rw [← hv0]; exact Nat.mod_lt _ (by omega)
 clear c0
 generalize valAt (.slice ua un uc) 0=t0 at *
 replace hL1:=Hd hL1
 replace hp0:=Hd hp0
 replace hu0:=Hd hu0
 replace hv0:=Hd hv0
 replace hT5:=Hd hT5
 replace hg5:=Hd hg5
 go_upto_region 8 with fail
 refine wp_region_plan (fun w'=>w'.cell? t0=some (.int .i64 p0)∧w'.cell? ⟨w3.heap.size,0,none⟩=some (.int .i64 N)) 15 [(0,true),(1,true),(2,true),(3,true),(4,true),(5,true),(7,true),(8,true),(9,true),(10,true),(11,true),(12,true),(6,false),(13,false),(14,true)] (by kernel_rfl) (by kernel_rfl) ?_
 have hS:w5.drew.cell? t0=some (.int .i64 p0)∧w5.drew.cell? ⟨w3.heap.size,0,none⟩=some (.int .i64 N):=⟨c05,cN5⟩
 refine pqY 47 hS ?_
 refine pqY 48 hS ?_
 refine pqY 49 hS ?_
 refine pqY 50 hS ?_
 refine pqY 51 hS ?_
 refine pqY 52 hS ?_
 refine pqY 54 hS ?_
 refine pqY 55 hS ?_
 refine pqY 56 hS ?_
 refine pqY 57 hS ?_
 refine pqY 58 hS ?_
 refine pqY 59 hS ?_
 refine headC rfl (fun KK hK=>?_)
 go_simp
 refine (words2_any K R' u0 w1.heap.size w5.drew hk1 hk4 hR3 (by omega) qw5.1.1 qw5.1.2.1).mono ?_
 rintro e w6 ⟨av,rfl,b6,ho6⟩
 have hS6:w6.cell? t0=some (.int .i64 p0)∧w6.cell? ⟨w3.heap.size,0,none⟩=some (.int .i64 N):=⟨(b6.cell (World.block_lt_of_cell? _ _ hS.1)).trans hS.1,cell_keep b6 hS.2⟩
 have qw6:=qw5.below (w':=w6) (Below.trans ((Below.refl _ _).drew) b6)
 refine hK _ _ hS6 ?_
 clear hK KK
 refine headC rfl (fun KK hK=>?_)
 go_simp
 refine (words2_any K R' v0 w1.heap.size w6 hk1 hk4 hR3 (by omega) qw6.1.1 qw6.1.2.1).mono ?_
 rintro e w7 ⟨bv,rfl,b7,ho7⟩
 have hS7:w7.cell? t0=some (.int .i64 p0)∧w7.cell? ⟨w3.heap.size,0,none⟩=some (.int .i64 N):=⟨(b7.cell (World.block_lt_of_cell? _ _ hS6.1)).trans hS6.1,cell_keep b7 hS6.2⟩
 refine hK _ _ hS7 ?_
 clear hK KK
 refine pqY 12 hS7 ?_
 refine head0 ?_
 simp only [List.drop_succ_cons,List.drop_zero]
 have b56:Below w5.heap.size w5 w6:=Below.trans ((Below.refl _ _).drew) b6
 have b57:=Below.step b56 b7
 rw [hm.out] at ho6 ho7
 have r1:=(Rows.void w5.heap.size w5).add (i:=(1,0)) (r':=rowI av (digs K m u0)) b56 ho6 (fun k hk=>(ho6.lt k hk).1)
 have r2:=r1.add (i:=(2,0)) (r':=rowI bv (digs K m v0)) b7 (ho7.mono b56.size) (fun k hk=>(ho7.lt k hk).1)
 obtain ⟨f,hf⟩:∃ f,f=upd (upd (fun _=>none) (1,0) (some (rowI av (digs K m u0)))) (2,0) (some (rowI bv (digs K m v0))):=⟨_,rfl⟩
 have hfa:f (1,0)=some (rowI av (digs K m u0)):=by rw [hf,upd_ne _ _ (by simp),upd_same]
 have hfb:f (2,0)=some (rowI bv (digs K m v0)):=by rw [hf,upd_same]
 rw [← hf] at r2
 have htk:ns.take 1=[p0]:=by
  cases hns:ns with
  | nil=>exact absurd hns hne.out
  | cons a l=>have:=hp0.out; rw [hns] at this; simp at this; simp [this]
 have ha1:alongW K m (·/N) (ns.take 1)=digs K m u0:=by rw [htk,alongW_one,hu0.out]
 have hb1:alongW K m (·%N) (ns.take 1)=digs K m v0:=by rw [htk,alongW_one,hv0.out]
 rw [← ha1] at hfa
 rw [← hb1] at hfb
 clear hS hS6 hS7 ho6 ho7 r1 hf htk ha1 hb1 qw6 i0 c05 d1 d2 d3 d4 d5 d6
 obtain ⟨aa,an,ac,rfl⟩:=(r2.ownI hfa).at.shape
 obtain ⟨ba',bn,bc,rfl⟩:=(r2.ownI hfb).at.shape
 replace r2:=Hd r2
 replace hfa:=Hd hfa
 replace hfb:=Hd hfb
 replace qw5:=Hd qw5
 replace cN5:=Hd cN5
 go_wp2
 refine NoPanic.normal ?_
 go_wp2_with fail
 clear hup hup1
 go_loopw [12,13,64] (fun xa xb jv wr=>∃ (j:Nat) (f:Names) (va' vb':Value),j≤L1∧jv=.int .i64 j∧va'=xa∧vb'=xb∧Rows w5.heap.size wr f∧Below w5.heap.size w5 wr∧f (1,0)=some (rowI va' (alongW K m (·/N) (ns.take (j+1))))∧f (2,0)=some (rowI vb' (alongW K m (·%N) (ns.take (j+1))))∧(∀ i,i<j→StepFits K N T' (ns.getD i 0) (ns.getD (i+1) 0))) (fun _ _ jv _=>L1-(intOf jv).toNat)
 case atStart=>exact ⟨0,f,_,_,by omega,rfl,rfl,rfl,r2.out,b57,hfa.out,hfb.out,fun i hi=>by omega⟩
 case round =>
  clear hfa hfb r2 b57 b56 b6 b7
  obtain ⟨j,f2,av,bv,hj,rfl,rfl,rfl,hr,bI,hfa,hfb,hfit⟩:=hrel
  obtain ⟨wo,rfl⟩:∃ wo:World,wo=wr:=⟨_,rfl⟩
  have b0o:=b05.trans (bI.mono b05.size)
  by_cases hjl:j<L1
  ·obtain ⟨p,hp⟩:∃ p,ns.getD (j+1) 0=p:=⟨_,rfl⟩
   obtain ⟨pj,hpj⟩:∃ p,ns.getD j 0=p:=⟨_,rfl⟩
   have hll:=hL1.out
   have hjl2:=Hd hjl
   have hpl:p<N*N:=by rw [← hp]; exact hlow2.out (j+1) (by omega)
   have hpjl:pj<N*N:=by rw [← hpj]; exact hlow2.out j (by omega)
   have iJ:=fun w'=>iP.out j (by omega) w'
   have cJ:=cP2.out j (by omega)
   have iI:=fun w'=>iU.out j (by omega) w'
   have cI:=cU2.out j (by omega)
   rw [hp] at cJ
   rw [hpj] at cI
   have cJo:=(b0o.cell (World.block_lt_of_cell? _ _ cJ)).trans cJ
   have cIo:=(b0o.cell (World.block_lt_of_cell? _ _ cI)).trans cI
   have htk:ns.take (j+1+1)=ns.take (j+1)++[p]:=by
    rw [List.take_add_one,List.getElem?_eq_getElem (show j+1<ns.length by omega)]
    have:ns[j+1]'(by omega)=p:=by rw [← hp]; simp [List.getD,show j+1<ns.length by omega]
    rw [this]; rfl
   have htn:ns.take (j+1)≠[]:=by
    intro e
    have:=congrArg List.length e
    rw [List.length_take,List.length_nil] at this; omega
   have haS:=alongW_snoc K m (·/N) (ns.take (j+1)) p htn
   have hbS:=alongW_snoc K m (·%N) (ns.take (j+1)) p htn
   rw [← htk] at haS hbS
   obtain ⟨d1,d2,d3,d4,d5,d6⟩:=dm p N (by omega)
   obtain ⟨u1,hu1⟩:∃ z,p/N=z:=⟨_,rfl⟩
   obtain ⟨v1,hv1⟩:∃ z,p%N=z:=⟨_,rfl⟩
   rw [hu1] at d1 d3 d5 haS
   rw [hv1] at d2 d4 d6 hbS
   have hu1l:u1<N:=by rw [← hu1]; exact div_lt_of hpl
   have hv1l:v1<N:=by rw [← hv1]; exact Nat.mod_lt _ (by omega)
   obtain ⟨g1,g2,g3,g4,g5,g6⟩:=dm pj N (by omega)
   obtain ⟨uj,huj⟩:∃ z,pj/N=z:=⟨_,rfl⟩
   obtain ⟨vj,hvj⟩:∃ z,pj%N=z:=⟨_,rfl⟩
   rw [huj] at g1 g3 g5
   rw [hvj] at g2 g4 g6
   have hujl:uj<N:=by rw [← huj]; exact div_lt_of hpjl
   have hvjl:vj<N:=by rw [← hvj]; exact Nat.mod_lt _ (by omega)
   obtain ⟨_,x2,_,x4,_,x6⟩:=dm u1 K (by omega)
   obtain ⟨_,z2,_,z4,_,z6⟩:=dm v1 K (by omega)
   obtain ⟨s,hs⟩:∃ z,u1%K=z:=⟨_,rfl⟩
   obtain ⟨t,ht⟩:∃ z,v1%K=z:=⟨_,rfl⟩
   rw [hs] at x2 x4 x6 haS
   rw [ht] at z2 z4 z6 hbS
   have hsl:s<K:=by rw [← hs]; exact Nat.mod_lt _ (by omega)
   have htl:t<K:=by rw [← ht]; exact Nat.mod_lt _ (by omega)
   have hstep:StepFits K N T' pj p↔toN K N uj s=u1∧toN K N vj t=v1∧labN K T' uj s=labN K T' vj t:=by
    unfold StepFits; rw [hu1,hv1,huj,hvj,hs,ht]
   have qwo:=qw5.out.below bI
   have cNo:=cell_keep bI cN5.out
   clear cJ cI
   generalize valAt (.slice pa pn pc) j=tj at *
   generalize valAt (.slice ua un uc) j=ti at *
   have hoa:=hr.ownI hfa
   have hob:=hr.ownI hfb
   have hm6:m≤6:=by have:=hm.out; omega
   have hLa:(alongW K m (·/N) (ns.take (j+1))).length≤17592186044100:=by rw [alongW_len,List.length_take]; omega
   have hLb:(alongW K m (·%N) (ns.take (j+1))).length≤17592186044100:=by rw [alongW_len,List.length_take]; omega
   replace hp:=Hd hp
   replace hpj:=Hd hpj
   replace hll:=Hd hll
   replace htk:=Hd htk
   replace htn:=Hd htn
   replace haS:=Hd haS
   replace hbS:=Hd hbS
   replace hu1:=Hd hu1
   replace hv1:=Hd hv1
   replace huj:=Hd huj
   replace hvj:=Hd hvj
   replace hs:=Hd hs
   replace ht:=Hd ht
   replace hstep:=Hd hstep
   replace hfit:=Hd hfit
   replace hr:=Hd hr
   replace hfa:=Hd hfa
   replace hfb:=Hd hfb
   replace hoa:=Hd hoa
   replace hob:=Hd hob
   go_upto_region 12 with fail
   refine wp_region_plan (fun w'=>w'.cell? ⟨w1.heap.size,0,none⟩=some (.int .i64 K)∧w'.cell? ⟨w3.heap.size,0,none⟩=some (.int .i64 N)) 13 [(0,true),(1,true),(2,true),(3,true),(4,true),(5,true),(6,true),(7,true),(8,true),(9,true),(10,true),(11,true),(12,true)] (by kernel_rfl) (by kernel_rfl) ?_
   have hS:wo.drew.cell? ⟨w1.heap.size,0,none⟩=some (.int .i64 K)∧wo.drew.cell? ⟨w3.heap.size,0,none⟩=some (.int .i64 N):=⟨qwo.1.1,cNo⟩
   refine pqY 69 hS ?_
   refine pqY 70 hS ?_
   refine pqY 71 hS ?_
   refine pqY 72 hS ?_
   refine pqY 73 hS ?_
   refine pqY 74 hS ?_
   refine pqY 75 hS ?_
   refine pqY 76 hS ?_
   refine pqY 77 hS ?_
   refine pqY 78 hS ?_
   refine pqY 79 hS ?_
   refine pqY 80 hS ?_
   refine pqY 16 hS ?_
   refine head0 ?_
   simp only [List.drop_succ_cons,List.drop_zero]
   clear hS
   go_wp2
   refine NoPanic.normal ?_
   go_upto_region 13 with fail
   refine wp_region_plan (fun w'=>w'.cell? ⟨w1.heap.size,0,none⟩=some (.int .i64 K)∧w'.cell? ⟨w1.heap.size,1,none⟩=some (.int .i64 R')∧w'.cell? ⟨w1.heap.size,2,none⟩=some (.slice a n c)∧w'.cell? ⟨w3.heap.size,0,none⟩=some (.int .i64 N)∧w'.cell? ti=some (.int .i64 pj)) 15 [(0,true),(1,true),(2,true),(3,true),(4,true),(5,true),(6,true),(7,true),(8,false),(9,true),(10,true),(11,true),(12,true),(13,true),(14,true)] (by kernel_rfl) (by kernel_rfl) ?_
   have hS:wo.drew.drew.cell? ⟨w1.heap.size,0,none⟩=some (.int .i64 K)∧wo.drew.drew.cell? ⟨w1.heap.size,1,none⟩=some (.int .i64 R')∧wo.drew.drew.cell? ⟨w1.heap.size,2,none⟩=some (.slice a n c)∧wo.drew.drew.cell? ⟨w3.heap.size,0,none⟩=some (.int .i64 N)∧wo.drew.drew.cell? ti=some (.int .i64 pj):=⟨qwo.1.1,qwo.1.2.1,qwo.1.2.2,cNo,cIo⟩
   refine pqY 82 hS ?_
   refine pqY 83 hS ?_
   refine pqY 84 hS ?_
   refine pqY 85 hS ?_
   refine pqY 86 hS ?_
   refine pqY 87 hS ?_
   refine pqY 88 hS ?_
   refine pqY 89 hS ?_
   refine headC rfl (fun KK hK=>?_)
   go_simp
   refine (hEdge.out a n c uj s wo.drew.drew (hg5.out.below bI.drew.drew) (hT5.out.below bI.drew.drew) hujl hsl).mono ?_
   rintro e w6 ⟨x,y,z,rfl,b6,rfl,rfl,rfl⟩
   obtain ⟨X1,hX1⟩:∃ X,toN K N uj s=X:=⟨_,rfl⟩
   obtain ⟨O1,hO1⟩:∃ X,labN K T' uj s=X:=⟨_,rfl⟩
   rw [hX1,hO1]
   have bo6:Below wo.heap.size wo w6:=Below.trans ((Below.refl _ _).drew.drew) b6
   have hS6:w6.cell? ⟨w1.heap.size,0,none⟩=some (.int .i64 K)∧w6.cell? ⟨w1.heap.size,1,none⟩=some (.int .i64 R')∧w6.cell? ⟨w1.heap.size,2,none⟩=some (.slice a n c)∧w6.cell? ⟨w3.heap.size,0,none⟩=some (.int .i64 N)∧w6.cell? ti=some (.int .i64 pj):=⟨cell_keep b6 hS.1,cell_keep b6 hS.2.1,cell_keep b6 hS.2.2.1,cell_keep b6 hS.2.2.2.1,(b6.cell (World.block_lt_of_cell? _ _ hS.2.2.2.2)).trans hS.2.2.2.2⟩
   refine hK _ _ hS6 ?_
   clear hK KK
   refine pqY 81 hS6 ?_
   refine pqY 91 hS6 ?_
   refine pqY 92 hS6 ?_
   refine pqY 93 hS6 ?_
   refine pqY 18 hS6 ?_
   refine pqY 19 hS6 ?_
   refine head0 ?_
   simp only [List.drop_succ_cons,List.drop_zero]
   have bI6:=bI.trans (bo6.mono bI.size)
   have hS6':=Hd hS6
   clear hS hS6
   go_wp2
   refine NoPanic.normal ?_
   go_upto_region 14 with fail
   refine wp_region_plan (fun w'=>w'.cell? ⟨w1.heap.size,0,none⟩=some (.int .i64 K)∧w'.cell? ⟨w1.heap.size,1,none⟩=some (.int .i64 R')∧w'.cell? ⟨w1.heap.size,2,none⟩=some (.slice a n c)∧w'.cell? ⟨w3.heap.size,0,none⟩=some (.int .i64 N)∧w'.cell? ti=some (.int .i64 pj)) 15 [(0,true),(1,true),(2,true),(3,true),(4,true),(5,true),(6,true),(7,true),(8,false),(9,true),(10,true),(11,true),(12,true),(13,true),(14,true)] (by kernel_rfl) (by kernel_rfl) ?_
   have hS:w6.drew.cell? ⟨w1.heap.size,0,none⟩=some (.int .i64 K)∧w6.drew.cell? ⟨w1.heap.size,1,none⟩=some (.int .i64 R')∧w6.drew.cell? ⟨w1.heap.size,2,none⟩=some (.slice a n c)∧w6.drew.cell? ⟨w3.heap.size,0,none⟩=some (.int .i64 N)∧w6.drew.cell? ti=some (.int .i64 pj):=hS6'.out
   refine pqY 95 hS ?_
   refine pqY 96 hS ?_
   refine pqY 97 hS ?_
   refine pqY 98 hS ?_
   refine pqY 99 hS ?_
   refine pqY 100 hS ?_
   refine pqY 101 hS ?_
   refine pqY 102 hS ?_
   refine headC rfl (fun KK hK=>?_)
   go_simp
   refine (hEdge.out a n c vj t w6.drew (hg5.out.below bI6.drew) (hT5.out.below bI6.drew) hvjl htl).mono ?_
   rintro e w7 ⟨x,y,z,rfl,b7,rfl,rfl,rfl⟩
   obtain ⟨X2,hX2⟩:∃ X,toN K N vj t=X:=⟨_,rfl⟩
   obtain ⟨O2,hO2⟩:∃ X,labN K T' vj t=X:=⟨_,rfl⟩
   rw [hX2,hO2]
   have b67:Below w6.heap.size w6 w7:=Below.trans ((Below.refl _ _).drew) b7
   have bo7:=Below.step bo6 b67
   have bI7:=bI.trans (bo7.mono bI.size)
   have hS7:w7.cell? ⟨w1.heap.size,0,none⟩=some (.int .i64 K)∧w7.cell? ⟨w1.heap.size,1,none⟩=some (.int .i64 R')∧w7.cell? ⟨w1.heap.size,2,none⟩=some (.slice a n c)∧w7.cell? ⟨w3.heap.size,0,none⟩=some (.int .i64 N)∧w7.cell? ti=some (.int .i64 pj):=⟨cell_keep b7 hS.1,cell_keep b7 hS.2.1,cell_keep b7 hS.2.2.1,cell_keep b7 hS.2.2.2.1,(b7.cell (World.block_lt_of_cell? _ _ hS.2.2.2.2)).trans hS.2.2.2.2⟩
   refine hK _ _ hS7 ?_
   clear hK KK
   refine pqY 94 hS7 ?_
   refine pqY 104 hS7 ?_
   refine pqY 105 hS7 ?_
   refine pqY 106 hS7 ?_
   refine pqY 21 hS7 ?_
   refine pqY 22 hS7 ?_
   refine head0 ?_
   simp only [List.drop_succ_cons,List.drop_zero]
   obtain ⟨k0,k1,k2,k3,k4⟩:=hS7
   clear hS hS6' cIo cJo k0 k1 k2 k4 cNo
   rw [hX1,hO1,hX2,hO2] at hstep
   replace hX1:=Hd hX1
   replace hX2:=Hd hX2
   replace hO1:=Hd hO1
   replace hO2:=Hd hO2
   go_wp2
   refine NoPanic.normal ?_
   by_cases e1:X1=u1
   ·have q1:((X1:Int) != (u1:Int))=false:=by rw [bne_eq_false_iff_eq]; omega
    by_cases e2:X2=v1
    ·have q2:((X2:Int) != (v1:Int))=false:=by rw [bne_eq_false_iff_eq]; omega
     by_cases e3:O1=O2
     ·have q3:(O1 != O2)=false:=by rw [bne_eq_false_iff_eq]; exact e3
      have hnow:=hstep.out.2 ⟨e1,e2,e3⟩
      have hr7:=hr.out.below bo7
      have hoa7:=hoa.out.below bo7
      have hB7:=bI7.size
      replace e1:=Hd e1
      replace e2:=Hd e2
      replace e3:=Hd e3
      replace hr7:=Hd hr7
      go_wp2_with (at_builtin; go_loud (refine wpl_append1 rfl _ _ rfl w5.heap.size av _ s hoa7 rfl rfl (by omega) hB7 ?_))
      intro av2 w8 ho8 b8 hgr8 hal8
      have hr8:=hr7.out.push hfa.out (s:Int) ho8 hgr8 hal8
      have hfb8:upd f2 (1,0) (some (rowI av2 (alongW K m (·/N) (ns.take (j+1))++[(s:Int)]))) (2,0)=some (rowI bv (alongW K m (·%N) (ns.take (j+1)))):=by rw [upd_ne _ _ (by simp)]; exact hfb.out
      have hob8:=hr8.ownI hfb8
      have hB8:w5.heap.size≤w8.heap.size:=Nat.le_trans hB7 b8.size
      obtain ⟨a2a,a2n,a2c,rfl⟩:=ho8.at.shape
      replace hr8:=Hd hr8
      replace ho8:=Hd ho8
      clear hgr8 hal8 hoa7
      go_wp2_with (at_builtin; go_loud (refine wpl_append1 rfl _ _ rfl w5.heap.size bv _ t hob8 rfl rfl (by omega) hB8 ?_))
      intro bv2 w9 ho9 b9 hgr9 hal9
      have hr9:=hr8.out.push hfb8 (t:Int) ho9 hgr9 hal9
      obtain ⟨b2a,b2n,b2c,rfl⟩:=ho9.at.shape
      replace hr9:=Hd hr9
      replace ho9:=Hd ho9
      replace hfb8:=Hd hfb8
      clear hgr9 hal9 hob8
      go_wp2
      go_roundw
      case measure=>have:=hjl2.out; simp [intOf]; omega
      case rel =>
       refine ⟨j+1,_,_,_,by have:=hjl2.out; omega,by go_num,rfl,rfl,hr9.out,bI7.trans (b8.trans b9),?_,?_,fun i hi=>?_⟩
       ·rw [upd_ne _ _ (by simp),upd_same,haS.out]
       ·rw [upd_same,hbS.out]
       ·by_cases e:i=j
        ·subst e; rw [hpj.out,hp.out]; exact hnow
        ·exact hfit.out i (by omega)
     ·have q3:(O1 != O2)=true:=by rw [bne_iff_ne]; exact e3
      have hnow:¬ AllFit K N T' ns:=fun hA=>by
       have:=hA j (by have:=hll.out; have:=hjl2.out; omega)
       rw [hpj.out,hp.out,hstep.out] at this
       exact e3 this.2.2
      replace hnow:=Hd hnow
      go_wp2_with fail
      refine (pairs_wrong r _ _ w7 (hg5.out.below bI7) (by decide) (by decide)).mono ?_
      rintro e w8 ⟨x,rfl,b8,he⟩
      replace he:=Hd he
      have bE:=Below.step (b05.trans (bI7.mono b05.size)) b8
      go_wp2
      go_ret3
      exact ⟨_,_,_,rfl,bE,.inr ⟨hnow.out,rfl,rfl,he.out⟩⟩
    ·have q2:((X2:Int) != (v1:Int))=true:=by rw [bne_iff_ne]; omega
     have hnow:¬ AllFit K N T' ns:=fun hA=>by
      have:=hA j (by have:=hll.out; have:=hjl2.out; omega)
      rw [hpj.out,hp.out,hstep.out] at this
      exact e2 this.2.1
     replace hnow:=Hd hnow
     go_wp2_with fail
     refine (pairs_wrong r _ _ w7 (hg5.out.below bI7) (by decide) (by decide)).mono ?_
     rintro e w8 ⟨x,rfl,b8,he⟩
     replace he:=Hd he
     have bE:=Below.step (b05.trans (bI7.mono b05.size)) b8
     go_wp2
     go_ret3
     exact ⟨_,_,_,rfl,bE,.inr ⟨hnow.out,rfl,rfl,he.out⟩⟩
   ·have q1:((X1:Int) != (u1:Int))=true:=by rw [bne_iff_ne]; omega
    have hnow:¬ AllFit K N T' ns:=fun hA=>by
     have:=hA j (by have:=hll.out; have:=hjl2.out; omega)
     rw [hpj.out,hp.out,hstep.out] at this
     exact e1 this.1
    replace hnow:=Hd hnow
    go_wp2_with fail
    refine (pairs_wrong r _ _ w7 (hg5.out.below bI7) (by decide) (by decide)).mono ?_
    rintro e w8 ⟨x,rfl,b8,he⟩
    replace he:=Hd he
    have bE:=Below.step (b05.trans (bI7.mono b05.size)) b8
    go_wp2
    go_ret3
    exact ⟨_,_,_,rfl,bE,.inr ⟨hnow.out,rfl,rfl,he.out⟩⟩
  ·obtain rfl:j=L1:=by omega
   have hall:ns.take (j+1)=ns:=List.take_of_length_le (by have:=hL1.out; omega)
   rw [hall] at hfa hfb
   have hoa:=hr.ownI hfa
   have hob:=hr.ownI hfb
   have hdis:=hr.2 (1,0) (2,0) _ _ hfa hfb (by simp)
   have hAll:AllFit K N T' ns:=fun i hi=>hfit i (by have:=hL1.out; omega)
   have hoa':=hoa.mono (B':=w.heap.size) b05.size
   have hob':=hob.mono (B':=w.heap.size) b05.size
   obtain ⟨a2a,a2n,a2c,rfl⟩:=hoa.at.shape
   obtain ⟨b2a,b2n,b2c,rfl⟩:=hob.at.shape
   replace hr:=Hd hr
   replace hfa:=Hd hfa
   replace hfb:=Hd hfb
   replace hoa:=Hd hoa
   replace hob:=Hd hob
   replace hoa':=Hd hoa'
   replace hob':=Hd hob'
   replace hdis:=Hd hdis
   replace hAll:=Hd hAll
   replace hfit:=Hd hfit
   go_wp2
   go_ret3
   exact ⟨_,_,_,rfl,b0o,.inl ⟨hAll.out,rfl,hoa'.out,hob'.out,hdis.out⟩⟩
end Go.Proofs.YtkaoebokbfcmhaaGreatDoor
namespace Go.Proofs.YtkaoebokbfcmhaaGreatDoor
open Go.RowKit
def Ret4 (Φ:Value→Value→Value→Value→World→Prop) (w:World) (e:Ending) (w':World):Prop:=∃ x y z u,e=.returned (.tuple #[x,y,z,u])∧Below w.heap.size w w'∧Φ x y z u w'
theorem results_tmp4 {fn:Func} {t u v x:Tmp} (h:fn.results=#[.tmp t,.tmp u,.tmp v,.tmp x]) (tmps:Array Value) (P:Program) (w:World) :
 (results fn tmps).run P w=.ok (.tuple #[tmps.getD t undef,tmps.getD u undef,tmps.getD v undef,tmps.getD x undef]) w:=by
 simp [results,h]
set_option maxRecDepth 100000
set_option maxHeartbeats 8000000
def FinPost (w:World) (K R:Nat) (T:List Int) (yes a b e:Value) (w':World):Prop :=
 e=.nilIface∧((yes=.bool true∧a=.slice none 0 0∧b=.slice none 0 0∧∀ x y,¬ IsTwins K R T x y) ∨
 (yes=.bool false∧∃ x y,FinIs K R T x y∧IsTwins K R T x y∧TwinLen K R T x.length∧x.length≤20010∧OwnI w.heap.size w' a x∧OwnI w.heap.size w' b y∧(a.ownBlock=none∨a.ownBlock≠b.ownBlock)))
theorem finite_zero (r:Nat→Addr) (K:Nat) (va:Option Addr) (vn vc:Nat) (T:List Int) (w:World) (hg:Glob r w) (h:IntsAt w (.slice va vn vc) T) (hr:RuleOk K 0 T) (hl:T.length≤256) :
 Calls Tryz.prog 67 #[.agg #[.int .i64 K,.int .i64 ((0:Nat):Int),.slice va vn vc]] w (Ret4 (FinPost w K 0 T) w):=by
 have b0:=belowAlloc w (.cells #[.int .i64 K,.int .i64 ((0:Nat):Int),.slice va vn vc] 24)
 have q:Box3 (w.alloc (.cells #[.int .i64 K,.int .i64 ((0:Nat):Int),.slice va vn vc] 24)) w.heap.size (.int .i64 K) (.int .i64 ((0:Nat):Int)) (.slice va vn vc):=by simp [Box3,go_sem]
 have hTK:T.length=K:=by rw [hr.len]; simp [pw]
 have hgraph:=fun (w':World) (hgl:Glob r w') (hT:IntsAt w' (.slice va vn vc) T)=>pgraph_ok r K 0 va vn vc T w' hgl hT hr hl
 replace hgraph:=Hd hgraph
 replace hTK:=Hd hTK
 replace hg:=Hd (hg.below b0)
 replace h:=Hd (h.below b0)
 replace hr:=Hd hr
 go_enter Tryz.func67,Tryz.ntmps67
 go_wp2_with fail
 refine (hgraph.out _ hg.out h.out).mono ?_
 rintro e w1 ⟨gv,y,rfl,b1,rfl,-⟩
 obtain ⟨⟨z0,z1,z2⟩,-,-,-⟩:=q.below b1
 have b01:=Below.step b0 b1
 have hs:=b01.size
 go_wp2_with fail
 refine (single_any K ((0:Nat):Int) va vn vc T w1 (h.out.below b1)).mono ?_
 rintro e w2 ⟨x,y,rfl,b2,hp⟩
 have b02:=Below.step b01 b2
 rcases hp with ⟨a,b,hsi,hoa,hob,hd⟩ | ⟨rfl,rfl,hno⟩
 ·have lx:=hoa.at.len
  obtain ⟨x1,x2,x3,rfl⟩:=hoa.at.shape
  obtain ⟨y1,y2,y3,rfl⟩:=hob.at.shape
  have htw:=hsi.twins hTK.out
  have htl:TwinLen K 0 T [(a:Int)].length:=⟨⟨_,_,htw,rfl⟩,fun c d hcd=>twins_pos hcd⟩
  replace hsi:=Hd hsi
  replace hoa:=Hd hoa
  replace hob:=Hd hob
  replace hd:=Hd hd
  replace htw:=Hd htw
  replace htl:=Hd htl
  clear z0 z1 z2
  go_wp2
  (try simp only [Exit.inBlock,Exit.then])
  refine bodyPost_ret (results_tmp4 rfl _ _ _) rfl ?_
  exact ⟨_,_,_,_,rfl,b02,rfl,.inr ⟨rfl,_,_,.inl ⟨rfl,a,b,hsi.out,rfl,rfl⟩,htw.out,htl.out,by simp,hoa.out.mono hs,hob.out.mono hs,hd.out⟩⟩
 ·have hn:=no_single (K:=K) hTK.out hno
  replace hn:=Hd hn
  clear hno z0 z1 z2
  go_wp2
  (try simp only [Exit.inBlock,Exit.then])
  refine bodyPost_ret (results_tmp4 rfl _ _ _) rfl ?_
  exact ⟨_,_,_,_,rfl,b02,rfl,.inl ⟨rfl,rfl,rfl,hn.out⟩⟩
theorem finite_pos (r:Nat→Addr) (K R:Nat) (va:Option Addr) (vn vc:Nat) (T:List Int) (w:World) (hg:Glob r w) (h:IntsAt w (.slice va vn vc) T) (hr:RuleOk K R T) (hl:T.length≤256) (hR:1≤R) :
 Calls Tryz.prog 67 #[.agg #[.int .i64 K,.int .i64 R,.slice va vn vc]] w (Ret4 (FinPost w K R T) w):=by
 have b0:=belowAlloc w (.cells #[.int .i64 K,.int .i64 R,.slice va vn vc] 24)
 have q:Box3 (w.alloc (.cells #[.int .i64 K,.int .i64 R,.slice va vn vc] 24)) w.heap.size (.int .i64 K) (.int .i64 R) (.slice va vn vc):=by simp [Box3,go_sem]
 have hk1:=hr.k1
 have hk4:=hr.k4
 have hR3:=hr.r3
 have hN81:=nodes_le hr hR hl
 have hN1:=pw_pos (K:=K) (2*R) hk1
 have hwR:wkR R=R:=if_neg (by omega)
 have hwT:wkT K R T=T:=if_neg (by omega)
 have hgraph:=fun (w':World) (hgl:Glob r w') (hT:IntsAt w' (.slice va vn vc) T)=>pgraph_ok r K R va vn vc T w' hgl hT hr hl
 have hwords:=fun (u:Value) (ns:List Nat) (w':World) (hgl:Glob r w') (hT:IntsAt w' (.slice va vn vc) T)=>pwords_way r K R va vn vc T u ns w' hgl hT hr hl
 rw [hwR,hwT] at hgraph hwords
 have hmeet:=fun (ga:Option Addr) (gc:Nat) (w':World)=>meet_any K (pw K (2*R)) T ga gc w' hk4 hN1 hN81
 have hR0:((R:Int)==0)=false:=by rw [beq_eq_false_iff_ne]; omega
 have hR1:¬ (R:Int)=0:=by omega
 have hR2:¬ R=0:=by omega
 have hR22:=Hd hR2
 have hRR:=Hd hR
 replace hgraph:=Hd hgraph
 replace hwords:=Hd hwords
 replace hmeet:=Hd hmeet
 replace hg:=Hd (hg.below b0)
 replace h:=Hd (h.below b0)
 replace hr:=Hd hr
 clear hwR hwT
 go_enter Tryz.func67,Tryz.ntmps67
 go_wp2_with fail
 refine (hgraph.out _ hg.out h.out).mono ?_
 rintro e w1 ⟨gv,y,rfl,b1,rfl,f,vals,hrows,hwn⟩
 have hL:ListsAt w1 gv (pairG K (pw K (2*R)) T):=hwn.lists hrows
 obtain ⟨ga,gc,rfl⟩:=hL.shape
 obtain ⟨⟨z0,z1,z2⟩,-,-,-⟩:=q.below b1
 have b01:=Below.step b0 b1
 replace hL:=Hd hL
 clear hrows hwn
 go_wp2_with fail
 refine (hmeet.out ga gc w1 hL.out).mono ?_
 rintro e w2 ⟨mv,rfl,b2,hp⟩
 have b12:=Below.step b1 b2
 have b02:=Below.step b01 b2
 clear z0 z1 z2
 obtain ⟨⟨z0,z1,z2⟩,-,-,-⟩:=q.below b12
 rcases hp with ⟨ws,hmi,haw,hmin,hws,how⟩ | ⟨rfl,hno⟩
 ·have hw3:=haw.len
  have hlow:∀ p∈ws,p<pw K (2*R)*pw K (2*R):=fun p hp=>by
   obtain ⟨i,hi,rfl⟩:=List.mem_iff_getElem.1 hp
   have:=haw.low i hi
   simpa [List.getD,hi] using this
  have hne:ws≠[]:=by intro e; rw [e] at hw3; simp at hw3
  have hfit:AllFit K (pw K (2*R)) T ws:=fun i hi=>(fits_iff hk1 hR (haw.low _ hi)).2 ((mem_pairL (by omega)).1 (haw.arr i hi))
  have htw:=haw.twins hk1 hR
  have htl:=way_twinLen hk1 hR haw hmin
  have lm:=how.at.len
  rw [castI_len] at lm
  have hln:(((ws.length:Nat):Int)==0)=false:=by rw [beq_eq_false_iff_ne]; omega
  have hln2:¬ ((ws.length:Nat):Int)=0:=by omega
  have hln3:¬ ws.length=0:=by omega
  obtain ⟨m1,m2,m3,rfl⟩:=how.at.shape
  replace hmi:=Hd hmi
  replace haw:=Hd haw
  replace hlow:=Hd hlow
  replace hne:=Hd hne
  replace hfit:=Hd hfit
  replace htw:=Hd htw
  replace htl:=Hd htl
  replace how:=Hd how
  have hws2:=Hd hws
  clear hmin
  go_wp2_with fail
  refine (hwords.out _ ws w2 (hg.out.below b12) (h.out.below b12) how.out.at hne.out hlow.out (by have:=hws2.out; omega)).mono ?_
  rintro e w3 ⟨x,y,z,rfl,b3,hpo⟩
  rcases hpo with ⟨_,rfl,hox,hoy,hd⟩ | ⟨hnf,_⟩
  ·obtain ⟨x1,x2,x3,rfl⟩:=hox.at.shape
   obtain ⟨y1,y2,y3,rfl⟩:=hoy.at.shape
   have hs:=b02.size
   replace hox:=Hd hox
   replace hoy:=Hd hoy
   replace hd:=Hd hd
   clear z0 z1 z2
   go_wp2
   (try simp only [Exit.inBlock,Exit.then])
   refine bodyPost_ret (results_tmp4 rfl _ _ _) rfl ?_
   refine ⟨_,_,_,_,rfl,Below.step b02 b3,rfl,.inr ⟨rfl,_,_,.inr ⟨hR22.out,ws,hmi.out,rfl,rfl⟩,htw.out,?_,?_,hox.out.mono hs,hoy.out.mono hs,hd.out⟩⟩
   ·rw [alongW_len]; exact htl.out
   ·rw [alongW_len]; have:=hws2.out; omega
  ·exact absurd hfit.out hnf
 ·have hn:=no_twins (K:=K) (R:=R) (T:=T) hk1 hR hno
  replace hn:=Hd hn
  clear hno z0 z1 z2
  go_wp2
  (try simp only [Exit.inBlock,Exit.then])
  refine bodyPost_ret (results_tmp4 rfl _ _ _) rfl ?_
  exact ⟨_,_,_,_,rfl,b02,rfl,.inl ⟨rfl,rfl,rfl,hn.out⟩⟩
theorem finite_ok (r:Nat→Addr) (K R:Nat) (va:Option Addr) (vn vc:Nat) (T:List Int) (w:World) (hg:Glob r w) (h:IntsAt w (.slice va vn vc) T) (hr:RuleOk K R T) (hl:T.length≤256) :
 Calls Tryz.prog 67 #[.agg #[.int .i64 K,.int .i64 R,.slice va vn vc]] w (Ret4 (FinPost w K R T) w):=by
 by_cases e:R=0
 ·subst e; exact finite_zero r K va vn vc T w hg h hr hl
 ·exact finite_pos r K R va vn vc T w hg h hr hl (by omega)
end Go.Proofs.YtkaoebokbfcmhaaGreatDoor
namespace Go.Proofs.YtkaoebokbfcmhaaGreatDoor
open Go.RowKit
set_option maxRecDepth 100000
theorem eca_ok (n:Nat):RuleOk 2 1 (ecaT n):=by
 refine ⟨by decide,by decide,by decide,?_,?_⟩
 ·simp [ecaT,pw]
 ·intro x hx
  simp only [ecaT,List.mem_map] at hx
  obtain ⟨i,_,rfl⟩:=hx
  have:=Nat.and_le_right (n:=n >>> i) (m:=1)
  constructor<;>omega
theorem eca_len (n:Nat):(ecaT n).length=8:=by simp [ecaT]
theorem on90:∃ a b,subR 2 (pw 2 (2*1)) (ecaT 90)=.on a b:=by
 have h:(match subR 2 (pw 2 (2*1)) (ecaT 90) with | .on _ _=>true | _=>false)=true:=by decide +kernel
 cases hh:subR 2 (pw 2 (2*1)) (ecaT 90) with
 | on a b=>exact ⟨a,b,rfl⟩
 | orphan w=>rw [hh] at h; cases h
 | big=>rw [hh] at h; cases h
theorem on110:∃ w,subR 2 (pw 2 (2*1)) (ecaT 110)=.orphan w∧w.length=5:=by
 have h:(match subR 2 (pw 2 (2*1)) (ecaT 110) with | .orphan w=>decide (w.length=5) | _=>false)=true:=by decide +kernel
 cases hh:subR 2 (pw 2 (2*1)) (ecaT 110) with
 | on a b=>rw [hh] at h; cases h
 | orphan w=>rw [hh] at h; exact ⟨w,rfl,of_decide_eq_true h⟩
 | big=>rw [hh] at h; cases h
theorem no_twins90:∀ x y,¬ IsTwins 2 1 (ecaT 90) x y:=by
 obtain ⟨a,b,h⟩:=on90
 exact sub_on_twins (eca_ok 90) h
theorem twins0:TwinLen 2 1 (ecaT 0) 5:=by
 refine ⟨⟨[0,0,0,0,0],[0,0,1,0,0],⟨?_,?_,rfl,by decide,by decide,rfl,rfl,by decide +kernel⟩,rfl⟩,fun a b h=>h.long⟩ <;>
 ·intro x hx
  simp at hx
  omega
theorem fin90 {w w':World} {y a b e:Value} (h:FinPost w 2 1 (ecaT 90) y a b e w'):e=.nilIface∧y=.bool true∧a=.slice none 0 0∧b=.slice none 0 0:=by
 obtain ⟨rfl,⟨rfl,rfl,rfl,_⟩ | ⟨_,x,z,_,t,_⟩⟩:=h
 ·exact ⟨rfl,rfl,rfl,rfl⟩
 ·exact absurd t (no_twins90 x z)
theorem fin0 {w w':World} {y a b e:Value} (h:FinPost w 2 1 (ecaT 0) y a b e w'):e=.nilIface∧y=.bool false∧(∃ x,IntsAt w' a x∧x.length=5)∧∃ u m c,b=.slice u m c:=by
 obtain ⟨rfl,⟨_,_,_,hn⟩ | ⟨rfl,x,z,_,t,hl,_,ha,hb,_⟩⟩:=h
 ·obtain ⟨⟨c,d,t,_⟩,_⟩:=twins0
  exact absurd t (hn c d)
 ·exact ⟨rfl,rfl,⟨x,ha.at,hl.unique twins0⟩,hb.at.shape⟩
theorem pre110a:preN 2 1 (ecaT 110) [0]=3:=by decide +kernel
theorem pre110b:preN 2 1 (ecaT 110) [0,1,0,1,0]=0:=by decide +kernel
theorem nats_len (v u:Value) (xs ys:List Nat) (w:World) (h:LimbsAt w v xs) (k:LimbsAt w u ys) (hne:xs.length≠ys.length) :
 Calls Tryz.prog 13 #[v,u] w (RetB false w):=by
 have h1:=fun w=>h.len w
 have h2:=fun w=>k.len w
 have hd:((xs.length:Int) != (ys.length:Int))=true:=by simp; omega
 clear h k hne
 go_enter Tryz.func13,Tryz.ntmps13
 go_wp2
 go_ret
 exact ⟨0,rfl,rfl⟩
theorem nats_any (v u:Value) (xs ys:List Nat) (w:World) (h:LimbsAt w v xs) (k:LimbsAt w u ys) :
 Calls Tryz.prog 13 #[v,u] w (RetB (decide (xs=ys)) w):=by
 by_cases hl:xs.length=ys.length
 case neg =>
  rw [show decide (xs=ys)=false by simp; intro e; exact hl (by rw [e])]
  exact nats_len v u xs ys w h k hl
 have h1:=fun w=>h.len w
 have h2:=fun w=>k.len w
 have hm:=h.len_le
 have hd:((xs.length:Int) != (ys.length:Int))=false:=by simp; omega
 have hl':=Hd hl
 have hlt':xs.length≤ys.length:=by omega
 clear hl
 go_enter Tryz.func13,Tryz.ntmps13
 go_wp2
 go_loopw [5] (fun i wr=>(∃ j:Nat,j≤xs.length∧i=.int .i64 j∧∀ t (h1:t<xs.length) (h2:t<ys.length),t<j→xs[t]=ys[t])∧∃ n,wr=w.drewN n) (fun i _=>xs.length-(intOf i).toNat)
 case atStart=>exact ⟨⟨0,by omega,rfl,by intro t _ _ h; omega⟩,0,rfl⟩
 case round =>
  obtain ⟨⟨j,hj,rfl,hp⟩,n,rfl⟩:=hrel
  replace hp:=Hd hp
  by_cases hlt:j<xs.length
  ·have i1:=h.idx j hlt
   have i2:=k.idx j (by omega)
   have c1:w.cell? (valAt v j)=some (.int .u32 ((xs[j]:Nat):Int)):=by have:=h.cell j hlt; rwa [show xs.getD j 0=xs[j] by simp [List.getD,hlt]] at this
   have hlt2:j<ys.length:=by omega
   have c2:w.cell? (valAt u j)=some (.int .u32 ((ys[j]:Nat):Int)):=by have:=k.cell j hlt2; rwa [show ys.getD j 0=ys[j] by simp [List.getD,hlt2]] at this
   clear h k
   by_cases he:xs[j]=ys[j]
   ·have hq:(((xs[j]:Nat):Int) != ((ys[j]:Nat):Int))=false:=by simp [he]
    have hE:=Hd he
    clear he
    generalize hx:xs[j]=x at c1 hq
    generalize hy:ys[j]=y at c2 hq
    clear hx hy
    go_wp2
    go_quiet (fail)
    go_wp2
    go_roundw
    case rel =>
     refine ⟨⟨j+1,by omega,by go_num,?_⟩,_,rfl⟩
     intro t h1 h2 ht
     by_cases e:t=j
     ·subst e; exact hE.out
     ·exact hp.out t h1 h2 (by omega)
    case measure=>simp [intOf]; omega
   ·have hq:(((xs[j]:Nat):Int) != ((ys[j]:Nat):Int))=true:=by simp; omega
    have hE:=Hd he
    clear he
    generalize hx:xs[j]=x at c1 hq
    generalize hy:ys[j]=y at c2 hq
    clear hx hy
    go_wp2
    go_quiet (fail)
    go_wp2
    go_ret
    refine ⟨_,ret_bool ?_,World.drewN_drewN ..⟩
    symm
    rw [decide_eq_false_iff_not]
    intro e
    exact hE.out (by subst e; rfl)
  ·go_wp2
   go_ret
   refine ⟨_,ret_bool ?_,rfl⟩
   symm
   rw [decide_eq_true_iff]
   exact List.ext_getElem hl'.out fun t h1 h2=>hp.out t h1 h2 (by omega)
theorem nats_num (v u:Value) (a b:Nat) (w:World) (h:NumAt w v a) (k:NumAt w u b) :
 Calls Tryz.prog 13 #[v,u] w (RetB (decide (a=b)) w):=by
 obtain ⟨l,h1,h2,h3,h4⟩:=h
 obtain ⟨m,k1,k2,k3,k4⟩:=k
 have e:decide (a=b)=decide (l=m):=by
  by_cases hh:l=m
  ·rw [decide_eq_true hh,decide_eq_true (by rw [← h4,← k4,hh])]
  ·rw [decide_eq_false hh,decide_eq_false (fun q=>hh (norm_unique h2 k2 h3 k3 (by rw [h4,k4,q])))]
 rw [e]
 exact nats_any v u l m w h1 k1
theorem decides_any (r:Nat→Addr) (w:World) (hg:Glob r w) (hG:GlobE w) :
 Calls Tryz.prog 33 #[] w (Ret1 (fun x _=>x=.bool true) w):=by
 replace hg:=Hd hg
 replace hG:=Hd hG
 go_enter Tryz.func33,Tryz.ntmps33
 go_upto_region 1 with fail
 go_wp2_with fail
 refine (eca_any 90 (by decide) w).mono ?_
 rintro e w1 ⟨_,rfl,b1,a1,c1,rfl,h1⟩
 have h1':=h1.at
 replace h1':=Hd h1'
 clear h1
 have B1:=b1
 go_wp2_with fail
 refine (sub_onto r 2 1 a1 8 c1 (ecaT 90) w1 (hg.out.below B1) (hG.out.below B1) h1'.out (eca_ok 90) (by rw [eca_len]; decide)).mono ?_
 rintro e w2 ⟨x2,y2,z2,rfl,b2,hp⟩
 obtain ⟨sa,sb,hs⟩:=on90
 rw [hs] at hp
 obtain ⟨rfl,rfl,rfl⟩:=hp
 clear hs
 replace B1:=Hd (Below.step B1 b2)
 clear b1 b2
 go_wp2_with fail
 refine (eca_any 110 (by decide) w2).mono ?_
 rintro e w3 ⟨_,rfl,b3,a3,c3,rfl,h3⟩
 have h3':=h3.at
 replace h3':=Hd h3'
 clear h3
 replace B1:=Hd (Below.step B1.out b3)
 clear b3
 go_wp2_with fail
 refine (sub_onto r 2 1 a3 8 c3 (ecaT 110) w3 (hg.out.below B1.out) (hG.out.below B1.out) h3'.out (eca_ok 110) (by rw [eca_len]; decide)).mono ?_
 rintro e w4 ⟨x4,y4,z4,rfl,b4,hp⟩
 obtain ⟨ow,hs,ho⟩:=on110
 rw [hs] at hp
 obtain ⟨rfl,rfl,hO⟩:=hp
 obtain ⟨oa,on,oc,rfl⟩:=hO.at.shape
 have lo:=hO.at.len
 rw [ho] at lo
 replace B1:=Hd (Below.step B1.out b4)
 clear hs b4 hO
 go_wp2_with fail
 refine (eca_any 90 (by decide) w4).mono ?_
 rintro e w5 ⟨_,rfl,b5,a5,c5,rfl,h5⟩
 have h5':=h5.at
 replace h5':=Hd h5'
 clear h5
 replace B1:=Hd (Below.step B1.out b5)
 clear b5
 go_wp2_with fail
 refine (finite_ok r 2 1 a5 8 c5 (ecaT 90) w5 (hg.out.below B1.out) h5'.out (eca_ok 90) (by rw [eca_len]; decide)).mono ?_
 rintro e w6 ⟨x6,y6,z6,u6,rfl,b6,hp⟩
 obtain ⟨rfl,rfl,rfl,rfl⟩:=fin90 hp
 replace B1:=Hd (Below.step B1.out b6)
 clear b6 hp
 go_wp2_with fail
 refine (eca_any 0 (by decide) w6).mono ?_
 rintro e w7 ⟨_,rfl,b7,a7,c7,rfl,h7⟩
 have h7':=h7.at
 replace h7':=Hd h7'
 clear h7
 replace B1:=Hd (Below.step B1.out b7)
 clear b7
 go_wp2_with fail
 refine (finite_ok r 2 1 a7 8 c7 (ecaT 0) w7 (hg.out.below B1.out) h7'.out (eca_ok 0) (by rw [eca_len]; decide)).mono ?_
 rintro e w8 ⟨x8,y8,z8,u8,rfl,b8,hp⟩
 obtain ⟨rfl,rfl,⟨xs,hx,lx⟩,pu,pm,pc,rfl⟩:=fin0 hp
 obtain ⟨qa,qn,qc,rfl⟩:=hx.shape
 have lq:=hx.len
 rw [lx] at lq
 have BE:=Hd (Below.step B1.out b8)
 clear b8 hp hx B1
 go_wp2
 go_ret
 exact ⟨_,rfl,BE.out,rfl⟩
theorem counts_any (r:Nat→Addr) (w:World) (hg:Glob r w) (hG:GlobE w) :
 Calls Tryz.prog 7 #[] w (Ret1 (fun x _=>x=.bool true) w):=by
 replace hg:=Hd hg
 replace hG:=Hd hG
 go_enter Tryz.func7,Tryz.ntmps7
 go_upto_region 1 with fail
 go_wp2_with fail
 refine (eca_any 110 (by decide) w).mono ?_
 rintro e w1 ⟨_,rfl,b1,a1,c1,rfl,h1⟩
 have h1':=h1.at
 have bl:=belowAlloc w1 (.cells #[.int .i64 0] 3)
 have hl:=(OwnI.lit w1.heap.size w1 (Nat.le_refl _) [0] (by simp [maxLen]) #[.int .i64 0] rfl 1 rfl).at
 replace h1':=Hd (h1'.below bl)
 replace hl:=Hd hl
 replace b1:=Hd (Below.step b1 bl)
 clear h1 bl
 go_wp2_with fail
 refine (count_Words_any r 2 1 a1 8 c1 (ecaT 110) _ [0] _ (hg.out.below b1.out) h1'.out hl.out (eca_ok 110) (by rw [eca_len]; decide)).mono ?_
 rintro e w2 ⟨x2,y2,rfl,b2,hy,hx,-⟩
 have hs1:symP ((2:Nat):Int) [0] 256=none:=by decide +kernel
 rw [hs1] at hy
 obtain rfl:=hy.none_eq
 have hn2:=hx hs1
 rw [pre110a] at hn2
 obtain ⟨a2,m2,c2,rfl⟩:=hn2.shape
 replace b1:=Hd (Below.step b1.out b2)
 replace hn2:=Hd hn2
 clear b2 hx hy hs1 hl
 go_wp2_with fail
 refine (eca_any 110 (by decide) w2).mono ?_
 rintro e w3 ⟨_,rfl,b3,a3,c3,rfl,h3⟩
 have h3':=h3.at
 have bl:=belowAlloc w3 (.cells #[.int .i64 0,.int .i64 1,.int .i64 0,.int .i64 1,.int .i64 0] 3)
 have hl:=(OwnI.lit w3.heap.size w3 (Nat.le_refl _) [0,1,0,1,0] (by simp [maxLen]) #[.int .i64 0,.int .i64 1,.int .i64 0,.int .i64 1,.int .i64 0] rfl 5 rfl).at
 have B3:=Below.step b3 bl
 replace h3':=Hd (h3'.below bl)
 replace hl:=Hd hl
 replace hn2:=Hd (hn2.out.below B3)
 replace b1:=Hd (Below.step b1.out B3)
 clear h3 bl b3 B3
 go_wp2_with fail
 refine (count_Words_any r 2 1 a3 8 c3 (ecaT 110) _ [0,1,0,1,0] _ (hg.out.below b1.out) h3'.out hl.out (eca_ok 110) (by rw [eca_len]; decide)).mono ?_
 rintro e w4 ⟨x4,y4,rfl,b4,hy,hx,-⟩
 have hs1:symP ((2:Nat):Int) [0,1,0,1,0] 256=none:=by decide +kernel
 rw [hs1] at hy
 obtain rfl:=hy.none_eq
 have hn4:=hx hs1
 rw [pre110b] at hn4
 obtain ⟨l4,k1,k2,k3,k4⟩:=hn4
 obtain rfl:l4=[]:=by
  apply Classical.byContradiction
  intro hne
  have h1:=limbs_low k3 hne
  have h2:0<4294967296 ^ (l4.length-1):=Nat.pow_pos (by decide)
  omega
 obtain ⟨a4,m4,c4,rfl⟩:=k1.shape
 have l4:=fun w=>k1.len w
 replace hn2:=Hd (hn2.out.below b4)
 replace b1:=Hd (Below.step b1.out b4)
 clear b4 hx hy hs1 hl k1 k2 k3 k4
 go_wp2_with fail
 refine (decides_any r w4 (hg.out.below b1.out) (hG.out.below b1.out)).mono ?_
 rintro e w5 ⟨_,rfl,b5,rfl⟩
 have bl:=belowAlloc w5 (.cells #[.int .u32 3] 82)
 have hl:NumAt (w5.alloc (.cells #[.int .u32 3] 82)) (.slice (some ⟨w5.heap.size,0,none⟩) 1 1) 3:=⟨[3],OwnV.at (OwnV.lit (E:=82) w5.heap.size w5 (Nat.le_refl _) (.int .u32 3)),by intro x hx; simp at hx; omega,by intro h; simp,by decide⟩
 replace hl:=Hd hl
 have B5:=Below.step b5 bl
 replace hn2:=Hd (hn2.out.below B5)
 replace b1:=Hd (Below.step b1.out B5)
 clear b5 bl B5
 go_wp2_with fail
 refine (nats_num _ _ 3 3 _ hn2.out hl.out).mono ?_
 rintro e w6 ⟨nq,rfl,rfl⟩
 have BE:=Hd (below_drewN b1.out nq)
 clear b1
 go_wp2
 go_ret
 exact ⟨_,rfl,BE.out,rfl⟩
theorem AllLe.mem {l:List Nat} {M:Nat} (h:AllLe l M):∀ x∈l,x≤M:=fun x hx=>by
 obtain ⟨i,hi,rfl⟩:=List.getElem_of_mem hx
 have:=h i
 rwa [List.getD_eq_getElem?_getD,List.getElem?_eq_getElem hi] at this
end Go.Proofs.YtkaoebokbfcmhaaGreatDoor
namespace Go.Proofs.YtkaoebokbfcmhaaGreatDoor
def lexI:List Int→List Int→Int
 | [],[]=>0
 | [],_::_=>-1
 | _::_,[]=>1
 | x::xs,y::ys=>if x<y then -1 else if y<x then 1 else lexI xs ys
theorem lexI_neg:∀ x y:List Int,lexI y x=- lexI x y
 | [],[]=>rfl
 | [],_::_=>rfl
 | _::_,[]=>rfl
 | x::xs,y::ys=>by
  have:=lexI_neg xs ys
  unfold lexI
  by_cases h:x<y
  ·rw [if_neg (by omega),if_pos h,if_pos h]; rfl
  ·by_cases h2:y<x
   ·rw [if_pos h2,if_neg h,if_pos h2]
   ·rw [if_neg h2,if_neg h,if_neg h,if_neg h2]; exact this
theorem lexI_zero:∀ x y:List Int,lexI x y=0↔x=y
 | [],[]=>by simp [lexI]
 | [],_::_=>by simp [lexI]
 | _::_,[]=>by simp [lexI]
 | x::xs,y::ys=>by
  have:=lexI_zero xs ys
  unfold lexI
  by_cases h:x<y
  ·rw [if_pos h]; constructor
   ·intro q; omega
   ·intro q; injection q with q; omega
  ·by_cases h2:y<x
   ·rw [if_neg h,if_pos h2]; constructor
    ·intro q; omega
    ·intro q; injection q with q; omega
   ·rw [if_neg h,if_neg h2,this]
    have:x=y:=by omega
    subst this
    simp
theorem lexI_trans:∀ x y z:List Int,lexI x y≤0→lexI y z≤0→lexI x z≤0∧(lexI x y<0∨lexI y z<0→lexI x z<0)
 | [],[],[]=>by simp [lexI]
 | [],[],_::_=>by simp [lexI]
 | [],_::_,[]=>by simp [lexI]
 | [],_::_,_::_=>by simp [lexI]
 | _::_,[],_=>by simp [lexI]
 | _::_,_::_,[]=>by simp [lexI]
 | x::xs,y::ys,z::zs=>by
  intro h1 h2
  unfold lexI at h1 h2
  by_cases a:x<y
  ·rw [if_pos a] at h1
   have b:x<z:=by
    by_cases c:y<z
    ·omega
    ·rw [if_neg c] at h2
     by_cases d:z<y
     ·rw [if_pos d] at h2; omega
     ·omega
   unfold lexI
   rw [if_pos b]
   omega
  ·rw [if_neg a] at h1
   by_cases b:y<x
   ·rw [if_pos b] at h1; omega
   ·rw [if_neg b] at h1
    obtain rfl:x=y:=by omega
    by_cases c:x<z
    ·unfold lexI; rw [if_pos c]; omega
    ·rw [if_neg c] at h2
     by_cases d:z<x
     ·rw [if_pos d] at h2; omega
     ·rw [if_neg d] at h2
      obtain ⟨i1,i2⟩:=lexI_trans xs ys zs h1 h2
      unfold lexI
      rw [if_neg a,if_neg b,if_neg c,if_neg d,if_neg c,if_neg d]
      exact ⟨i1,i2⟩
theorem lexI_up (u:List Int) {a b:Int} (h:a<b) (x y:List Int):lexI (u++[a]++x) (u++[b]++y)=-1:=by
 induction u with
 | nil=>simp [lexI,h]
 | cons c u ih =>
  show lexI (c::(u++[a]++x)) (c::(u++[b]++y))=-1
  unfold lexI
  rw [if_neg (Int.lt_irrefl _),if_neg (Int.lt_irrefl _)]
  exact ih
theorem lexI_take:∀ (i:Nat) (x y:List Int),i<x.length→i<y.length→x.take i=y.take i→lexI x y=if x.getD i 0<y.getD i 0 then -1 else if y.getD i 0<x.getD i 0 then 1 else lexI (x.drop (i+1)) (y.drop (i+1))
 | 0,a::xs,b::ys,_,_,_=>by simp [lexI]
 | i+1,a::xs,b::ys,hx,hy,h=>by
  rw [List.take_succ_cons,List.take_succ_cons] at h
  injection h with h1 h2
  subst h1
  have ih:=lexI_take i xs ys (by simpa using hx) (by simpa using hy) h2
  have e:lexI (a::xs) (a::ys)=lexI xs ys:=by
   conv=>lhs; unfold lexI
   rw [if_neg (Int.lt_irrefl _),if_neg (Int.lt_irrefl _)]
  rw [e,ih]
  rfl
 | i,[],_,h,_,_=>by simp at h
 | 0,_::_,[],_,h,_=>by simp at h
 | i+1,_::_,[],_,h,_=>by simp at h
theorem lexI_lens {x y:List Int} (h:x=y.take x.length) (hl:x.length≤y.length):lexI x y=if x.length<y.length then -1 else 0:=by
 induction x generalizing y with
 | nil=>cases y<;>simp [lexI]
 | cons a x ih =>
  cases y with
  | nil=>simp at hl
  | cons b y =>
   rw [List.length_cons,List.take_succ_cons] at h
   injection h with h1 h2
   subst h1
   have:=ih h2 (by simpa using hl)
   have e:lexI (a::x) (a::y)=lexI x y:=by
    conv=>lhs; unfold lexI
    rw [if_neg (Int.lt_irrefl _),if_neg (Int.lt_irrefl _)]
   rw [e,this]
   simp
open Go.RowKit
set_option maxRecDepth 100000
def cmpI (x y:Int):Int:=if x<y then -1 else if y<x then 1 else 0
theorem nan_any (x:Int) (w:World):Calls Tryz.prog 114 #[.int .i64 x] w fun e w'=>e=.returned (.bool false)∧w=w':=by
 have h:(x != x)=false:=by simp
 go_enter Tryz.func114,Tryz.ntmps114
 go_wp2
 go_ret
 exact ⟨rfl,rfl⟩
theorem compare_any (x y:Int) (w:World):Calls Tryz.prog 64 #[.int .i64 x,.int .i64 y] w fun e w'=>e=.returned (.int .i64 (cmpI x y))∧w=w':=by
 have n1:=nan_any x
 have n2:=nan_any y
 replace n1:=Hd n1
 replace n2:=Hd n2
 rcases Int.lt_trichotomy x y with h | h | h
 ·have e:cmpI x y=-1:=if_pos h
  have d1:decide (x<y)=true:=decide_eq_true h
  rw [e]
  clear e
  go_enter Tryz.func64,Tryz.ntmps64
  go_wp2_with fail
  refine (n1.out w).mono ?_
  rintro e w1 ⟨rfl,rfl⟩
  go_wp2_with fail
  refine (n2.out w).mono ?_
  rintro e w1 ⟨rfl,rfl⟩
  go_wp2
  go_ret
  exact ⟨rfl,rfl⟩
 ·subst h
  have e:cmpI x x=0:=by simp [cmpI]
  have d1:decide (x<x)=false:=by simp
  rw [e]
  clear e
  go_enter Tryz.func64,Tryz.ntmps64
  go_wp2_with fail
  refine (n1.out w).mono ?_
  rintro e w1 ⟨rfl,rfl⟩
  go_wp2_with fail
  refine (n2.out w).mono ?_
  rintro e w1 ⟨rfl,rfl⟩
  go_wp2
  go_ret
  exact ⟨rfl,rfl⟩
 ·have e:cmpI x y=1:=by unfold cmpI; rw [if_neg (by omega),if_pos h]
  have d1:decide (x<y)=false:=decide_eq_false (by omega)
  have d2:decide (x>y)=true:=decide_eq_true h
  rw [e]
  clear e
  go_enter Tryz.func64,Tryz.ntmps64
  go_wp2_with fail
  refine (n1.out w).mono ?_
  rintro e w1 ⟨rfl,rfl⟩
  go_wp2_with fail
  refine (n2.out w).mono ?_
  rintro e w1 ⟨rfl,rfl⟩
  go_wp2
  go_ret
  exact ⟨rfl,rfl⟩
theorem scompare_any (v u:Value) (xs ys:List Int) (w:World) (h:IntsAt w v xs) (k:IntsAt w u ys) :
 Calls Tryz.prog 65 #[v,u] w fun e w'=>e=.returned (.int .i64 (lexI xs ys))∧w=w':=by
 have l1:=fun w=>h.len w
 have l2:=fun w=>k.len w
 have b1:=h.len_le
 have b2:=k.len_le
 obtain ⟨RES,hRES⟩:∃ r,lexI xs ys=r:=⟨_,rfl⟩
 rw [hRES]
 replace hRES:=Hd hRES
 obtain ⟨va,vn,vc,rfl⟩:=h.shape
 obtain ⟨ua,un,uc,rfl⟩:=k.shape
 replace h:=Hd h
 replace k:=Hd k
 go_enter Tryz.func65,Tryz.ntmps65
 go_wp2_with fail
 go_loopw [11] (fun iv wr=>∃ i:Nat,iv=.int .i64 i∧i≤xs.length∧i≤ys.length∧xs.take i=ys.take i∧wr=w) (fun iv _=>xs.length-(intOf iv).toNat)
 case atStart=>exact ⟨0,rfl,Nat.zero_le _,Nat.zero_le _,rfl,rfl⟩
 case round =>
  obtain ⟨i,rfl,hi,hj,ht,rfl⟩:=hrel
  by_cases hil:i<xs.length
  ·have d1:decide ((i:Int)<(xs.length:Int))=true:=decide_eq_true (by omega)
   by_cases hjl:i<ys.length
   ·have d2:decide ((i:Int)≥(ys.length:Int))=false:=decide_eq_false (by omega)
    have i1:=fun w'=>h.out.idx i hil w'
    have c1:=h.out.cellD i hil
    have i2:=fun w'=>k.out.idx i hjl w'
    have c2:=k.out.cellD i hjl
    have hlx:=lexI_take i xs ys hil hjl ht
    have htk:xs.getD i 0=ys.getD i 0→xs.take (i+1)=ys.take (i+1):=fun e=>by
     rw [List.take_add_one,List.take_add_one,ht]
     congr 1
     simp only [List.getElem?_eq_getElem hil,List.getElem?_eq_getElem hjl]
     simpa [List.getD,hil,hjl] using e
    obtain ⟨x,hx⟩:∃ x,xs.getD i 0=x:=⟨_,rfl⟩
    obtain ⟨y,hy⟩:∃ x,ys.getD i 0=x:=⟨_,rfl⟩
    obtain ⟨p1,hp1⟩:∃ p,valAt (.slice va vn vc) i=p:=⟨_,rfl⟩
    obtain ⟨p2,hp2⟩:∃ p,valAt (.slice ua un uc) i=p:=⟨_,rfl⟩
    rw [hx] at c1 hlx htk
    rw [hy] at c2 hlx htk
    rw [hp1] at i1 c1
    rw [hp2] at i2 c2
    have hc:=compare_any x y wr
    rw [hRES.out] at hlx
    replace hc:=Hd hc
    replace hlx:=Hd hlx
    replace htk:=Hd htk
    clear hx hy hp1 hp2 ht
    go_wp2_with fail
    refine hc.out.mono ?_
    rintro e w1 ⟨rfl,rfl⟩
    rcases Int.lt_trichotomy x y with hlt | heq | hgt
    ·have e1:cmpI x y=-1:=if_pos hlt
     have e2:RES=-1:=by rw [hlx.out,if_pos hlt]
     subst e2
     rw [e1]
     go_wp2
     go_ret
     exact ⟨rfl,rfl⟩
    ·subst heq
     have e1:cmpI x x=0:=by simp [cmpI]
     have e2:=htk.out rfl
     replace e2:=Hd e2
     rw [e1]
     go_wp2
     go_roundw
     case measure=>simp [intOf]; omega
     case rel=>exact ⟨i+1,by go_num,by omega,by omega,e2.out,trivial⟩
    ·have e1:cmpI x y=1:=by unfold cmpI; rw [if_neg (by omega),if_pos hgt]
     have e2:RES=1:=by rw [hlx.out,if_neg (by omega),if_pos hgt]
     subst e2
     rw [e1]
     go_wp2
     go_ret
     exact ⟨rfl,rfl⟩
   ·have d2:decide ((i:Int)≥(ys.length:Int))=true:=decide_eq_true (by omega)
    have e2:RES=1:=by
     obtain rfl:i=ys.length:=by omega
     have:=lexI_lens (x:=ys) (y:=xs) (by rw [ht,List.take_length]) (by omega)
     rw [if_pos hil] at this
     rw [← hRES.out,lexI_neg,this]; rfl
    subst e2
    have i1:=fun w'=>h.out.idx i hil w'
    have c1:=h.out.cellD i hil
    obtain ⟨p1,hp1⟩:∃ p,valAt (.slice va vn vc) i=p:=⟨_,rfl⟩
    rw [hp1] at i1 c1
    clear hp1 ht
    go_wp2
    go_ret
    exact ⟨rfl,rfl⟩
  ·obtain rfl:i=xs.length:=by omega
   have d1:decide ((xs.length:Int)<(xs.length:Int))=false:=decide_eq_false (by omega)
   have hl:=lexI_lens (x:=xs) (y:=ys) (by rw [← ht,List.take_length]) hj
   rw [hRES.out] at hl
   clear ht
   by_cases hlt:xs.length<ys.length
   ·rw [if_pos hlt] at hl
    subst hl
    have d2:decide ((xs.length:Int)<(ys.length:Int))=true:=decide_eq_true (by omega)
    go_wp2
    go_ret
    exact ⟨rfl,rfl⟩
   ·rw [if_neg hlt] at hl
    subst hl
    have d2:decide ((xs.length:Int)<(ys.length:Int))=false:=decide_eq_false (by omega)
    go_wp2
    go_ret
    exact ⟨rfl,rfl⟩
def orI (a b:Int):Int:=if a=0 then b else a
theorem or_any (v:Value) (a b:Int) (w:World) (h:IntsAt w v [a,b]) :
 Calls Tryz.prog 63 #[v] w fun e w'=>e=.returned (.int .i64 (orI a b))∧w=w':=by
 have l1:=fun w=>h.len w
 have i0:∀ w',(Instr.indexAt 22 v (.int .i64 0)).run Tryz.prog w'=.ok (.pointer (some (valAt v 0))) w':=fun w'=>h.idx 0 (by simp) w'
 have c0:w.cell? (valAt v 0)=some (.int .i64 a):=h.cellD 0 (by simp)
 have i1:∀ w',(Instr.indexAt 22 v (.int .i64 1)).run Tryz.prog w'=.ok (.pointer (some (valAt v 1))) w':=fun w'=>h.idx 1 (by simp) w'
 have c1:w.cell? (valAt v 1)=some (.int .i64 b):=h.cellD 1 (by simp)
 obtain ⟨va,vn,vc,rfl⟩:=h.shape
 obtain ⟨p0,hp0⟩:∃ p,valAt (.slice va vn vc) 0=p:=⟨_,rfl⟩
 obtain ⟨p1,hp1⟩:∃ p,valAt (.slice va vn vc) 1=p:=⟨_,rfl⟩
 rw [hp0] at i0 c0
 rw [hp1] at i1 c1
 clear hp0 hp1 h
 obtain ⟨RES,hRES⟩:∃ r,orI a b=r:=⟨_,rfl⟩
 rw [hRES]
 replace hRES:=Hd hRES
 go_enter Tryz.func63,Tryz.ntmps63
 by_cases ha:a=0
 ·subst ha
  obtain rfl:b=RES:=hRES.out
  by_cases hb:b=0
  ·subst hb
   go_wp2
   go_loopw [8] (fun iv wr=>∃ i:Nat,iv=.int .i64 i∧i≤2∧wr=w) (fun iv _=>2-(intOf iv).toNat)
   case atStart=>exact ⟨0,rfl,Nat.zero_le _,rfl⟩
   case round =>
    obtain ⟨i,rfl,hi,rfl⟩:=hrel
    have hc:i=0∨i=1∨i=2:=by omega
    rcases hc with rfl | rfl | rfl
    ·rw [show ((0:Nat):Int)=0 from rfl]
     go_wp2
     go_roundw
     case measure=>simp [intOf]
     case rel=>exact ⟨1,rfl,by omega,trivial⟩
    ·rw [show ((1:Nat):Int)=1 from rfl]
     go_wp2
     go_roundw
     case measure=>simp [intOf]
     case rel=>exact ⟨2,rfl,by omega,trivial⟩
    ·rw [show ((2:Nat):Int)=2 from rfl]
     go_wp2
     go_ret
     exact ⟨rfl,rfl⟩
  ·have d1:(b != 0)=true:=bne_iff_ne.2 hb
   go_wp2
   go_loopw [8] (fun iv wr=>∃ i:Nat,iv=.int .i64 i∧i≤1∧wr=w) (fun iv _=>2-(intOf iv).toNat)
   case atStart=>exact ⟨0,rfl,Nat.zero_le _,rfl⟩
   case round =>
    obtain ⟨i,rfl,hi,rfl⟩:=hrel
    have hc:i=0∨i=1:=by omega
    rcases hc with rfl | rfl
    ·rw [show ((0:Nat):Int)=0 from rfl]
     go_wp2
     go_roundw
     case measure=>simp [intOf]
     case rel=>exact ⟨1,rfl,by omega,trivial⟩
    ·rw [show ((1:Nat):Int)=1 from rfl]
     go_wp2
     go_ret
     exact ⟨rfl,rfl⟩
 ·have d1:(a != 0)=true:=bne_iff_ne.2 ha
  obtain rfl:a=RES:=by rw [← hRES.out]; exact (if_neg ha).symm
  go_wp2
  go_loopw [8] (fun iv wr=>iv=.int .i64 0∧wr=w) (fun iv _=>0)
  case atStart=>exact ⟨rfl,rfl⟩
  case round =>
   obtain ⟨rfl,rfl⟩:=hrel
   go_wp2
   go_ret
   exact ⟨rfl,rfl⟩
def wordC (xs ys:List Int):Int:=orI (cmpI xs.length ys.length) (lexI xs ys)
theorem wordCmp_any (v u:Value) (xs ys:List Int) (w:World) (h:IntsAt w v xs) (k:IntsAt w u ys) :
 Calls Tryz.prog 24 #[v,u] w (Ret1 (fun x _=>x=.int .i64 (wordC xs ys)) w):=by
 have l1:=fun w=>h.len w
 have l2:=fun w=>k.len w
 have hc:=compare_any xs.length ys.length w
 have hs:=scompare_any v u xs ys w h k
 obtain ⟨va,vn,vc,rfl⟩:=h.shape
 obtain ⟨ua,un,uc,rfl⟩:=k.shape
 unfold wordC
 obtain ⟨C,hC⟩:∃ c,cmpI xs.length ys.length=c:=⟨_,rfl⟩
 obtain ⟨L,hL⟩:∃ c,lexI xs ys=c:=⟨_,rfl⟩
 rw [hC] at hc ⊢
 rw [hL] at hs ⊢
 have ho:=or_any (.slice (some ⟨w.heap.size,0,none⟩) 2 2) C L (w.alloc (.cells #[.int .i64 C,.int .i64 L] 3)) (OwnI.at (B:=w.heap.size) (by
  have:=World.ownsRow_lit (base:=w.heap.size) (e:=3) (size:=1) w #[.int .i64 C,.int .i64 L] 2 (by omega) (by decide) rfl
  unfold OwnI
  simpa using this))
 have hb:=belowAlloc w (.cells #[.int .i64 C,.int .i64 L] 3)
 replace hc:=Hd hc
 replace hs:=Hd hs
 replace ho:=Hd ho
 clear h k hC hL
 go_enter Tryz.func24,Tryz.ntmps24
 go_wp2_with fail
 refine hc.out.mono ?_
 rintro e w1 ⟨rfl,rfl⟩
 go_wp2_with fail
 refine hs.out.mono ?_
 rintro e w1 ⟨rfl,rfl⟩
 go_wp2_with fail
 refine ho.out.mono ?_
 rintro e w1 ⟨rfl,rfl⟩
 go_wp2
 go_ret
 exact ⟨_,rfl,hb,rfl⟩
end Go.Proofs.YtkaoebokbfcmhaaGreatDoor
namespace Go.Proofs.YtkaoebokbfcmhaaGreatDoor
def mulA (row:List Int) (t j:Nat):Nat:=((List.range j).filter fun s=>decide (row.getD s 0=(t:Nat))).length
theorem mulA_succ (row:List Int) (t j:Nat):mulA row t (j+1)=mulA row t j+if row.getD j 0=(t:Nat) then 1 else 0:=by
 unfold mulA
 rw [List.range_succ,List.filter_append,List.length_append]
 congr 1
 by_cases h:row.getD j 0=(t:Nat)
 ·rw [if_pos h,List.filter_cons,if_pos (decide_eq_true h)]; rfl
 ·rw [if_neg h,List.filter_cons,if_neg (by rw [decide_eq_false h]; decide)]; rfl
def rowC (row:List Int) (c:Nat) (q:List Nat):Nat→List Nat
 | 0=>q
 | j+1=>if row.getD j 0<0 then rowC row c q j else (rowC row c q j).set (row.getD j 0).toNat ((rowC row c q j).getD (row.getD j 0).toNat 0+c)
theorem rowC_len (row:List Int) (c:Nat) (q:List Nat):∀ j,(rowC row c q j).length=q.length
 | 0=>rfl
 | j+1=>by
  unfold rowC
  split
  ·exact rowC_len row c q j
  ·rw [List.length_set]; exact rowC_len row c q j
theorem rowC_get {row:List Int} {c:Nat} {q:List Nat} {t:Nat} (ht:t<q.length):∀ j,(rowC row c q j).getD t 0=q.getD t 0+c*mulA row t j
 | 0=>by simp [rowC,mulA]
 | j+1=>by
  have ih:=rowC_get (row:=row) (c:=c) ht j
  rw [mulA_succ]
  unfold rowC
  split
  ·rename_i h
   rw [ih,if_neg (by omega),Nat.add_zero]
  ·rename_i h
   by_cases e:row.getD j 0=(t:Nat)
   ·have e2:(row.getD j 0).toNat=t:=by omega
    rw [if_pos e,e2]
    have e3:((rowC row c q j).set t ((rowC row c q j).getD t 0+c)).getD t 0=(rowC row c q j).getD t 0+c:=by
     have:t<(rowC row c q j).length:=by rw [rowC_len]; exact ht
     simp [List.getD,this]
    rw [e3,ih,Nat.mul_add,Nat.mul_one,Nat.add_assoc]
   ·have e2:(row.getD j 0).toNat≠t:=by omega
    rw [if_neg e,Nat.add_zero,← ih,List.getD_eq_getElem?_getD,List.getElem?_set_ne e2,← List.getD_eq_getElem?_getD]
theorem set_same {q:List Nat} {t:Nat}:q.set t (q.getD t 0+0)=q:=by
 refine List.ext_getElem (by simp) fun i h1 h2=>?_
 rw [List.getElem_set]
 split
 ·rename_i e; subst e; simp [List.getD,h2]
 ·rfl
def allC (X:List (List Int)) (K N:Nat) (at_:List Nat):Nat→List Nat
 | 0=>List.replicate N 0
 | i+1=>rowC (X.getD i []) (at_.getD i 0) (allC X K N at_ i) K
theorem allC_len (X:List (List Int)) (K N:Nat) (at_:List Nat):∀ i,(allC X K N at_ i).length=N
 | 0=>by simp [allC]
 | i+1=>by unfold allC; rw [rowC_len]; exact allC_len X K N at_ i
theorem allC_get {X:List (List Int)} {K N t:Nat} {at_:List Nat} (ht:t<N):∀ i,(allC X K N at_ i).getD t 0=((List.range i).map fun u=>at_.getD u 0*mulA (X.getD u []) t K).sum
 | 0=>by simp [allC,List.getD,ht]
 | i+1=>by
  unfold allC
  rw [rowC_get (by rw [allC_len]; exact ht),allC_get ht i,List.range_succ,List.map_append,List.sum_append]
  simp
def cntA (X:List (List Int)) (K n t:Nat):Nat:=((wordsL K n).filter fun w=>decide (runA X w=(t:Nat))).length
def cntL (X:List (List Int)) (K N n:Nat):List Nat:=(List.range N).map (cntA X K n)
theorem cntL_get {X:List (List Int)} {K N n t:Nat} (ht:t<N):(cntL X K N n).getD t 0=cntA X K n t:=by simp [cntL,List.getD,ht]
theorem cntL_len (X:List (List Int)) (K N n:Nat):(cntL X K N n).length=N:=by simp [cntL]
theorem sum_zeroM:∀ N:Nat,((List.range N).map fun _:Nat=>0).sum=0
 | 0=>rfl
 | n+1=>by rw [List.range_succ,List.map_append,List.sum_append,sum_zeroM n]; rfl
theorem sum_by {α:Type} (r:α→Int) (f:Nat→Nat) (N:Nat):∀ (l:List α),(∀ w∈l,r w<N)→(l.map fun w=>if r w<0 then 0 else f (r w).toNat).sum=((List.range N).map fun i=>(l.filter fun w=>decide (r w=(i:Nat))).length*f i).sum
 | [],_=>by simpa using (sum_zeroM N).symm
 | w::l,h=>by
  have ih:=sum_by r f N l fun v hv=>h v (by simp [hv])
  rw [List.map_cons,List.sum_cons,ih]
  have hw:=h w (by simp)
  have one:∀ M,((List.range M).map fun i:Nat=>((w::l).filter fun w=>decide (r w=(i:Nat))).length*f i).sum=(if r w<0∨(M:Int)≤r w then 0 else f (r w).toNat)+((List.range M).map fun i:Nat=>(l.filter fun w=>decide (r w=(i:Nat))).length*f i).sum:=by
   intro M
   induction M with
   | zero =>
    rw [if_pos (by omega)]; rfl
   | succ M im =>
    rw [List.range_succ,List.map_append,List.sum_append,im,List.map_append,List.sum_append]
    simp only [List.map_cons,List.map_nil,List.sum_cons,List.sum_nil,Nat.add_zero]
    by_cases e:r w=(M:Nat)
    ·rw [List.filter_cons_of_pos (p:=fun w=>decide (r w=(M:Nat))) (decide_eq_true e),List.length_cons,if_pos (by omega),if_neg (by omega),e,Int.toNat_natCast,Nat.add_mul]
     omega
    ·rw [List.filter_cons_of_neg (p:=fun w=>decide (r w=(M:Nat))) (by rw [decide_eq_false e]; decide)]
     by_cases q:r w<0∨(M:Int)≤r w
     ·rw [if_pos q,if_pos (by omega)]; omega
     ·rw [if_neg q,if_neg (by omega)]; omega
  rw [one N]
  congr 1
  by_cases q:r w<0
  ·rw [if_pos q,if_pos (Or.inl q)]
  ·rw [if_neg q,if_neg (by omega)]
theorem sum_congrM {α:Type} {f g:α→Nat} {l:List α} (h:∀ a∈l,f a=g a):(l.map f).sum=(l.map g).sum:=by
 rw [List.map_congr_left h]
theorem words_snoc {K n:Nat} (hK:1≤K) (p:List Int→Bool):((wordsL K (n+1)).filter p).length=((wordsL K n).map fun w=>((List.range K).filter fun s=>p (w++[((s:Nat):Int)])).length).sum:=by
 have e:((wordsL K (n+1)).filter p).length=((wordsL K n).flatMap fun w=>((List.range K).filter fun s=>p (w++[((s:Nat):Int)])).map fun s=>w++[((s:Nat):Int)]).length:=by
  refine nodup_same ((wordsL_nodup hK).filter _) (List.pairwise_flatMap.2 ⟨fun w _=>?_,?_⟩) fun x=>?_
  ·refine List.pairwise_map.2 (((List.nodup_range (n:=K)).filter _).imp fun hne e=>hne ?_)
   have:=(List.append_inj' e rfl).2
   injection this with this _
   omega
  ·refine (wordsL_nodup hK).imp fun hne x hx y hy e=>hne ?_
   obtain ⟨s,_,rfl⟩:=List.mem_map.1 hx
   obtain ⟨t,_,rfl⟩:=List.mem_map.1 hy
   exact (List.append_inj' e rfl).1
  ·simp only [List.mem_filter,List.mem_flatMap,List.mem_map,List.mem_range,mem_wordsL hK]
   constructor
   ·rintro ⟨⟨sx,lx⟩,px⟩
    have hne:x≠[]:=by intro e; subst e; simp at lx
    obtain ⟨b,d,rfl⟩:∃ b d,x=b++[d]:=⟨x.dropLast,x.getLast hne,(List.dropLast_concat_getLast hne).symm⟩
    obtain ⟨sb,d0,d1⟩:=syms_snocI.1 sx
    have ed:((d.toNat:Nat):Int)=d:=by omega
    exact ⟨b,⟨sb,by simpa using lx⟩,d.toNat,⟨by omega,by rw [ed]; exact px⟩,by rw [ed]⟩
   ·rintro ⟨w,⟨sw,lw⟩,s,⟨hs,ps⟩,rfl⟩
    exact ⟨⟨syms_snocI.2 ⟨sw,by omega,by omega⟩,by simp [lw]⟩,ps⟩
 rw [e,flatMap_sum]
 exact sum_congrM fun w _=>by rw [List.length_map]
theorem cnt_step {K N n:Nat} {X:List (List Int)} (hK:1≤K) (ok:AutoOk K N X):allC X K N (cntL X K N n) N=cntL X K N (n+1):=by
 refine List.ext_getElem (by rw [allC_len,cntL_len]) fun t h1 h2=>?_
 have ht:t<N:=by rw [cntL_len] at h2; exact h2
 have a:=allC_get (X:=X) (K:=K) (at_:=cntL X K N n) ht N
 have b:=cntL_get (X:=X) (K:=K) (N:=N) (n:=n+1) ht
 rw [List.getD_eq_getElem?_getD,List.getElem?_eq_getElem h1,Option.getD_some] at a
 rw [List.getD_eq_getElem?_getD,List.getElem?_eq_getElem h2,Option.getD_some] at b
 rw [a,b]
 have e:cntA X K (n+1) t=((wordsL K n).map fun w=>if runA X w<0 then 0 else mulA (X.getD (runA X w).toNat []) t K).sum:=by
  unfold cntA
  rw [words_snoc hK]
  refine sum_congrM fun w hw=>?_
  by_cases q:runA X w<0
  ·rw [if_pos q]
   have:(List.range K).filter (fun s=>decide (runA X (w++[((s:Nat):Int)])=(t:Nat)))=[]:=by
    apply List.eq_nil_iff_forall_not_mem.2
    intro s hs
    have:=of_decide_eq_true (List.mem_filter.1 hs).2
    rw [runA_snoc,stepA,if_pos q] at this
    omega
   rw [this]; rfl
  ·rw [if_neg q]
   unfold mulA
   congr 1
   refine List.filter_congr fun s hs=>?_
   rw [runA_snoc,stepA,if_neg q,Int.toNat_natCast]
   rfl
 rw [e,sum_by (runA X) (fun i=>mulA (X.getD i []) t K) N (wordsL K n) fun w hw=>(ok.run w ((mem_wordsL hK).1 hw).1).2]
 exact sum_congrM fun i hi=>by rw [cntL_get (List.mem_range.1 hi)]; rfl
theorem cntL_zero {K N:Nat} {X:List (List Int)}:cntL X K N 0=(List.replicate N 0).set 0 1:=by
 refine List.ext_getElem (by rw [cntL_len]; simp) fun t h1 h2=>?_
 have ht:t<N:=by rw [cntL_len] at h1; exact h1
 have b:=cntL_get (X:=X) (K:=K) (N:=N) (n:=0) ht
 rw [List.getD_eq_getElem?_getD,List.getElem?_eq_getElem h1,Option.getD_some] at b
 rw [b,List.getElem_set]
 have e:wordsL K 0=[[]]:=rfl
 unfold cntA
 rw [e,List.filter_cons,runA_nil]
 by_cases q:0=t
 ·subst q; rfl
 ·rw [if_neg (by rw [decide_eq_true_iff]; omega),if_neg q,List.getElem_replicate]; rfl
theorem cnt_sum {K N n:Nat} {X:List (List Int)} (hK:1≤K) (ok:AutoOk K N X):(cntL X K N n).sum=((wordsL K n).filter fun w=>decide (0≤runA X w)).length:=by
 have h:=sum_by (runA X) (fun _=>1) N (wordsL K n) fun w hw=>(ok.run w ((mem_wordsL hK).1 hw).1).2
 have e:((wordsL K n).map fun w=>if runA X w<0 then 0 else 1).sum=((wordsL K n).filter fun w=>decide (0≤runA X w)).length:=by
  generalize wordsL K n=l
  induction l with
  | nil=>rfl
  | cons w l ih =>
   rw [List.map_cons,List.sum_cons,ih,List.filter_cons]
   by_cases q:runA X w<0
   ·rw [if_pos q,if_neg (by rw [decide_eq_true_iff]; omega)]; omega
   ·rw [if_neg q,if_pos (decide_eq_true (by omega)),List.length_cons]; omega
 rw [← e,h]
 unfold cntL
 exact sum_congrM fun i _=>by rw [Nat.mul_one]; rfl
def cntS {κ:Type} [DecidableEq κ] (k:Nat→κ) (o:List Nat):Nat→Nat
 | 0=>0
 | p+1=>cntS k o p+if k (o.getD (p+1) 0)=k (o.getD p 0) then 0 else 1
theorem cntS_succ {κ:Type} [DecidableEq κ] (k:Nat→κ) (o:List Nat) (p:Nat):cntS k o (p+1)=cntS k o p+if k (o.getD (p+1) 0)=k (o.getD p 0) then 0 else 1:=rfl
theorem cntS_mono {κ:Type} [DecidableEq κ] {k:Nat→κ} {o:List Nat} {p:Nat}:∀ q,p≤q→cntS k o p≤cntS k o q
 | 0,h=>by rw [Nat.le_zero.1 h]; exact Nat.le_refl _
 | q+1,h=>by
  rcases Nat.lt_or_ge q p with hq | hq
  ·rw [show p=q+1 by omega]; exact Nat.le_refl _
  ·have:=cntS_mono (k:=k) (o:=o) q hq
   rw [cntS_succ]
   omega
structure SortedK {κ:Type} (le:κ→κ→Prop) (k:Nat→κ) (o:List Nat) (N:Nat):Prop where
 len:o.length=N
 low:∀ p,p<N→o.getD p 0<N
 all:∀ i,i<N→∃ p,p<N∧o.getD p 0=i
 up:∀ p q,p≤q→q<N→le (k (o.getD p 0)) (k (o.getD q 0))
theorem cntS_eq {κ:Type} [DecidableEq κ] {le:κ→κ→Prop} (anti:∀ a b,le a b→le b a→a=b) {k:Nat→κ} {o:List Nat} {N:Nat} (h:SortedK le k o N) {p:Nat}:∀ q,p≤q→q<N→(cntS k o p=cntS k o q↔k (o.getD p 0)=k (o.getD q 0))
 | 0,hp,_=>by rw [Nat.le_zero.1 hp]; exact ⟨fun _=>rfl,fun _=>rfl⟩
 | q+1,hp,hq=>by
  rcases Nat.lt_or_ge q p with hqp | hqp
  ·rw [show p=q+1 by omega]; exact ⟨fun _=>rfl,fun _=>rfl⟩
  ·have ih:=cntS_eq anti h q hqp (by omega)
   have hm:=cntS_mono (k:=k) (o:=o) q hqp
   constructor
   ·intro e
    rw [cntS_succ k o q] at e
    by_cases c:k (o.getD (q+1) 0)=k (o.getD q 0)
    ·rw [c]; rw [if_pos c] at e; exact ih.1 e
    ·rw [if_neg c] at e
     omega
   ·intro e
    have a:=h.up p q hqp (by omega)
    have b:=h.up q (q+1) (by omega) hq
    rw [← e] at b
    have e2:=anti _ _ a b
    have e3:=ih.2 e2
    have c:k (o.getD (q+1) 0)=k (o.getD q 0):=by rw [← e,e2]
    have:cntS k o (q+1)=cntS k o q:=by rw [cntS_succ,if_pos c,Nat.add_zero]
    rw [this,e3]
theorem cntS_on {κ:Type} [DecidableEq κ] {k:Nat→κ} {o:List Nat}:∀ q v,v≤cntS k o q→∃ p,p≤q∧cntS k o p=v
 | 0,v,h=>⟨0,Nat.le_refl _,by have:cntS k o 0=0:=rfl; omega⟩
 | q+1,v,h=>by
  by_cases hv:v≤cntS k o q
  ·obtain ⟨p,a,b⟩:=cntS_on q v hv
   exact ⟨p,by omega,b⟩
  ·refine ⟨q+1,Nat.le_refl _,?_⟩
   have:=cntS_succ k o q
   split at this<;>omega
theorem scan_parts {κ:Type} [DecidableEq κ] {le:κ→κ→Prop} (anti:∀ a b,le a b→le b a→a=b) {k:Nat→κ} {o:List Nat} {N:Nat} (n1:0<N) (h:SortedK le k o N) {g:List Int} (gl:g.length=N) (hg:∀ p,p<N→g.getD (o.getD p 0) 0=(cntS k o p:Nat)) :
 Groups N g (cntS k o (N-1)+1)∧∀ i j,i<N→j<N→(g.getD i 0=g.getD j 0↔k i=k j):=by
 refine ⟨⟨gl,fun i hi=>?_,fun v hv=>?_⟩,fun i j hi hj=>?_⟩
 ·obtain ⟨p,hp,e⟩:=h.all i hi
  have:=hg p hp
  have:=cntS_mono (k:=k) (o:=o) (p:=p) (N-1) (by omega)
  rw [e] at *
  omega
 ·obtain ⟨p,hp,e⟩:=cntS_on (k:=k) (o:=o) (N-1) v (by omega)
  exact ⟨o.getD p 0,h.low p (by omega),by rw [hg p (by omega),e]⟩
 ·obtain ⟨p,hp,ep⟩:=h.all i hi
  obtain ⟨q,hq,eq⟩:=h.all j hj
  have gp:=hg p hp
  have gq:=hg q hq
  rw [ep] at gp
  rw [eq] at gq
  rw [gp,gq]
  rcases Nat.le_total p q with hpq | hpq
  ·have:=cntS_eq anti h q hpq hq
   rw [ep,eq] at this
   rw [← this]; omega
  ·have:=cntS_eq anti h p hpq hp
   rw [ep,eq] at this
   constructor
   ·intro e; exact (this.1 (by omega)).symm
   ·intro e; have:=this.2 e.symm; omega
def grpL (g:List Int) (st:List Nat):List Int:=st.map fun q=>g.getD q 0
def lsStep (g:List Int) (t:Int) (st:List Nat):Int×List Nat :=
 if t<0 then (t,st)
 else if g.getD t.toNat 0∈grpL g st then (((grpL g st).idxOf (g.getD t.toNat 0):Nat),st)
 else ((st.length:Nat),st++[t.toNat])
def lsRow (g:List Int) (xs:List Int):Nat→List Nat→List Int×List Nat
 | 0,st=>([],st)
 | m+1,st=>((lsRow g xs m st).1++[(lsStep g (xs.getD m 0) (lsRow g xs m st).2).1],(lsStep g (xs.getD m 0) (lsRow g xs m st).2).2)
def lsGo (X:List (List Int)) (g:List Int) (K:Nat):Nat→Nat→List Nat→List (List Int)→List Nat×List (List Int)
 | 0,_,st,Y=>(st,Y)
 | f+1,i,st,Y=>if i<st.length then lsGo X g K f (i+1) (lsRow g (X.getD (st.getD i 0) []) K st).2 (Y++[(lsRow g (X.getD (st.getD i 0) []) K st).1]) else (st,Y)
def lsR (X:List (List Int)) (g:List Int) (K N:Nat):List Nat×List (List Int):=lsGo X g K (N+1) 0 [0] []
structure Kept (N:Nat) (g:List Int) (st:List Nat):Prop where
 z1:0<st.length
 z:st.getD 0 0=0
 low:∀ q∈st,q<N
 nd:(grpL g st).Nodup
theorem Kept.small {N:Nat} {g:List Int} {st:List Nat} (h:Kept N g st):st.length≤N:=by
 have hn:st.Nodup:=(List.pairwise_map.1 h.nd).imp fun hne e=>hne (by rw [e])
 have:=nodup_sub hn (m:=List.range N) fun q hq=>List.mem_range.2 (h.low q hq)
 rwa [List.length_range] at this
def MoreL (st st2:List Nat):Prop:=st.length≤st2.length∧∀ j,j<st.length→st2.getD j 0=st.getD j 0
theorem MoreL.refl (st:List Nat):MoreL st st:=⟨Nat.le_refl _,fun _ _=>rfl⟩
theorem MoreL.trans {a b c:List Nat} (h:MoreL a b) (k:MoreL b c):MoreL a c:=⟨Nat.le_trans h.1 k.1,fun j hj=>by rw [k.2 j (Nat.lt_of_lt_of_le hj h.1),h.2 j hj]⟩
theorem lsStep_kept {N:Nat} {g:List Int} {st:List Nat} {t:Int} (h:Kept N g st) (ht:t<N):Kept N g (lsStep g t st).2∧MoreL st (lsStep g t st).2∧(t<0→(lsStep g t st).1=t)∧(0≤t→∃ k,k<(lsStep g t st).2.length∧(lsStep g t st).1=(k:Nat)∧g.getD ((lsStep g t st).2.getD k 0) 0=g.getD t.toNat 0):=by
 unfold lsStep
 split
 ·rename_i h0
  exact ⟨h,MoreL.refl _,fun _=>rfl,fun q=>by omega⟩
 ·rename_i h0
  split
  ·rename_i hm
   refine ⟨h,MoreL.refl _,fun q=>absurd q h0,fun _=>⟨_,?_,rfl,?_⟩⟩
   ·have:=List.idxOf_lt_length_of_mem hm
    simpa [grpL] using this
   ·have hk:=List.idxOf_lt_length_of_mem hm
    have e:=List.getElem_idxOf hk
    have hk2:(grpL g st).idxOf (g.getD t.toNat 0)<st.length:=by simpa [grpL] using hk
    have e2:(grpL g st)[(grpL g st).idxOf (g.getD t.toNat 0)]=g.getD (st.getD ((grpL g st).idxOf (g.getD t.toNat 0)) 0) 0:=by
     generalize (grpL g st).idxOf (g.getD t.toNat 0)=k at hk hk2
     simp [grpL,List.getD,hk2]
    rw [← e2,e]
  ·rename_i hm
   refine ⟨⟨by simp,?_,fun q hq=>?_,?_⟩,⟨by simp,fun j hj=>getD_leftS hj⟩,fun q=>absurd q h0,fun _=>⟨st.length,by simp,rfl,by rw [getD_end]⟩⟩
   ·rw [getD_leftS h.z1]; exact h.z
   ·rcases List.mem_append.1 hq with hq | hq
    ·exact h.low q hq
    ·simp at hq; omega
   ·have e:grpL g (st++[t.toNat])=grpL g st++[g.getD t.toNat 0]:=by simp [grpL]
    rw [e]
    refine List.nodup_append.2 ⟨h.nd,by simp,fun a ha b hb=>?_⟩
    rw [List.mem_singleton] at hb
    subst hb
    exact fun e=>hm (e▸ha)
theorem lsRow_kept {N:Nat} {g:List Int} {xs:List Int} {st:List Nat} (h:Kept N g st):∀ m,(∀ s,s<m→xs.getD s 0<N)→Kept N g (lsRow g xs m st).2∧MoreL st (lsRow g xs m st).2∧(lsRow g xs m st).1.length=m∧(∀ s,s<m→xs.getD s 0<0→(lsRow g xs m st).1.getD s 0=xs.getD s 0) ∧
 ∀ s,s<m→0≤xs.getD s 0→∃ k,k<(lsRow g xs m st).2.length∧(lsRow g xs m st).1.getD s 0=(k:Nat)∧g.getD ((lsRow g xs m st).2.getD k 0) 0=g.getD (xs.getD s 0).toNat 0
 | 0,_=>⟨h,MoreL.refl _,rfl,fun s hs=>absurd hs (Nat.not_lt_zero _),fun s hs=>absurd hs (Nat.not_lt_zero _)⟩
 | m+1,hx=>by
  obtain ⟨i1,i2,i3,i4,i5⟩:=lsRow_kept (xs:=xs) h m fun s hs=>hx s (by omega)
  obtain ⟨s1,s2,s3,s4⟩:=lsStep_kept i1 (hx m (by omega))
  have last:((lsRow g xs m st).1++[(lsStep g (xs.getD m 0) (lsRow g xs m st).2).1]).getD m 0=(lsStep g (xs.getD m 0) (lsRow g xs m st).2).1:=by
   have:=getD_end (l:=(lsRow g xs m st).1) (x:=(lsStep g (xs.getD m 0) (lsRow g xs m st).2).1) (d:=0)
   rwa [i3] at this
  unfold lsRow
  refine ⟨s1,i2.trans s2,by simp [i3],fun s hs hd=>?_,fun s hs hd=>?_⟩
  ·by_cases c:s=m
   ·subst c
    show ((lsRow g xs s st).1++_).getD s 0=_
    rw [last]; exact s3 hd
   ·show ((lsRow g xs m st).1++_).getD s 0=_
    rw [getD_leftS (by omega)]; exact i4 s (by omega) hd
  ·by_cases c:s=m
   ·subst c
    show ∃ k,k<_∧((lsRow g xs s st).1++_).getD s 0=_∧_
    rw [last]; exact s4 hd
   ·obtain ⟨k,k1,k2,k3⟩:=i5 s (by omega) hd
    refine ⟨k,Nat.lt_of_lt_of_le k1 s2.1,?_,?_⟩
    ·show ((lsRow g xs m st).1++_).getD s 0=_
     rw [getD_leftS (by omega)]; exact k2
    ·rw [s2.2 k k1]; exact k3
structure RowL (K:Nat) (X:List (List Int)) (g:List Int) (st:List Nat) (q:Nat) (y:List Int):Prop where
 len:y.length=K
 die:∀ s,s<K→nextA X q s<0→y.getD s 0=-1
 go:∀ s,s<K→0≤nextA X q s→∃ k,k<st.length∧y.getD s 0=(k:Nat)∧g.getD (st.getD k 0) 0=g.getD (nextA X q s).toNat 0
theorem RowL.more {K:Nat} {X:List (List Int)} {g:List Int} {st st2:List Nat} {q:Nat} {y:List Int} (h:RowL K X g st q y) (m:MoreL st st2):RowL K X g st2 q y :=
 ⟨h.len,h.die,fun s hs hd=>by
   obtain ⟨k,k1,k2,k3⟩:=h.go s hs hd
   exact ⟨k,Nat.lt_of_lt_of_le k1 m.1,k2,by rw [m.2 k k1]; exact k3⟩⟩
theorem Kept.at {N:Nat} {g:List Int} {st:List Nat} (h:Kept N g st) {j:Nat} (hj:j<st.length):st.getD j 0<N:=by
 have e:st.getD j 0=st[j]:=by simp [List.getD,hj]
 rw [e]; exact h.low _ (List.getElem_mem hj)
theorem lsGo_least {K N:Nat} {X:List (List Int)} {g:List Int} (ok:AutoOk K N X):∀ (f i:Nat) (st:List Nat) (Y:List (List Int)),Kept N g st→Y.length=i→i≤st.length→(∀ j,j<i→RowL K X g st (st.getD j 0) (Y.getD j []))→i+f=N+1 →
 LeastOf K N X g (lsGo X g K f i st Y).1 (lsGo X g K f i st Y).2
 | 0,i,st,Y,h,hY,hi,hr,ef=>by
  have:=h.small
  omega
 | f+1,i,st,Y,h,hY,hi,hr,ef=>by
  unfold lsGo
  split
  ·rename_i hl
   have hq:=h.at hl
   obtain ⟨k1,k2,k3,k4,k5⟩:=lsRow_kept (xs:=X.getD (st.getD i 0) []) h K fun s hs=>ok.hi _ _ hq hs
   refine lsGo_least ok f (i+1) _ _ k1 (by simp [hY]) (by have:=k2.1; omega) (fun j hj=>?_) (by omega)
   by_cases c:j=i
   ·subst c
    have e:(Y++[(lsRow g (X.getD (st.getD j 0) []) K st).1]).getD j []=(lsRow g (X.getD (st.getD j 0) []) K st).1:=by rw [← hY]; exact getD_end
    rw [e,k2.2 j hl]
    refine ⟨k3,fun s hs hd=>?_,k5⟩
    rw [k4 s hs hd]
    have:=ok.lo _ s hq hs
    unfold nextA at this hd
    omega
   ·rw [getD_leftS (by omega),k2.2 j (by omega)]
    exact (hr j (by omega)).more k2
  ·rename_i hl
   have ei:i=st.length:=by omega
   show LeastOf K N X g st Y
   exact ⟨h.z1,h.z,by omega,fun j hj=>(hr j (by omega)).len,fun j hj=>h.at hj,fun j s hj hs hd=>(hr j (by omega)).die s hs hd,fun j s hj hs hd=>(hr j (by omega)).go s hs hd⟩
theorem ls_least {K N:Nat} {X:List (List Int)} {g:List Int} (ok:AutoOk K N X):LeastOf K N X g (lsR X g K N).1 (lsR X g K N).2 :=
 lsGo_least ok (N+1) 0 [0] [] ⟨by simp,rfl,fun q hq=>by rw [List.mem_singleton] at hq; subst hq; exact ok.n1,by simp [grpL]⟩ rfl (Nat.zero_le _) (fun j hj=>absurd hj (Nat.not_lt_zero _)) (by omega)
theorem LeastOf.ok {K N:Nat} {X Y:List (List Int)} {g:List Int} {st:List Nat} (l:LeastOf K N X g st Y):AutoOk K st.length Y:=by
 refine ⟨l.z1,l.len,l.row,fun j s hj hs=>?_,fun j s hj hs=>?_⟩
 all_goals
  by_cases hd:nextA X (st.getD j 0) s<0
  ·rw [l.die j s hj hs hd]; have:=l.z1; omega
  ·obtain ⟨k,hk,e,_⟩:=l.go j s hj hs (by omega); rw [e]; omega
structure LangOk (K R:Nat) (T:List Int) (M:Nat) (Y:List (List Int)):Prop where
 ok:AutoOk K M Y
 le:M≤4096
 pre:∀ w,Syms K w→(0≤runA Y w↔HasPre K R T w)
theorem preN_has {K R:Nat} {T ws:List Int} (hK:1≤K):0<preN K R T ws↔HasPre K R T ws:=by
 unfold preN
 rw [List.length_pos_iff_exists_mem]
 exact ⟨fun ⟨x,hx⟩=>⟨x,(mem_preL hK).1 hx⟩,fun ⟨x,hx⟩=>⟨x,(mem_preL hK).2 hx⟩⟩
def inC (Y:List (List Int)) (K n x:Nat):Nat:=((List.range x).filter fun i=>decide (0≤runA Y (digs K n i))).length
theorem inC_succ (Y:List (List Int)) (K n x:Nat):inC Y K n (x+1)=inC Y K n x+if 0≤runA Y (digs K n x) then 1 else 0:=by
 unfold inC
 rw [List.range_succ,List.filter_append,List.length_append,List.filter_cons]
 by_cases h:0≤runA Y (digs K n x)
 ·rw [if_pos h,if_pos (decide_eq_true h)]; rfl
 ·rw [if_neg h,if_neg (by rw [decide_eq_true_iff]; exact h)]; rfl
theorem inC_le (Y:List (List Int)) (K n x:Nat):inC Y K n x≤x:=by
 unfold inC
 have:=List.length_filter_le (fun i=>decide (0≤runA Y (digs K n i))) (List.range x)
 rwa [List.length_range] at this
theorem inC_all {K R M M' n:Nat} {T:List Int} {Y Y':List (List Int)} (hK:1≤K) (h:LangOk K R T M Y) (h':LangOk K R T M' Y'):inC Y K n (pw K n)=(cntL Y' K M' n).sum:=by
 rw [cnt_sum hK h'.ok]
 unfold inC wordsL
 rw [List.filter_map,List.length_map]
 congr 1
 refine List.filter_congr fun i _=>?_
 have hs:=digs_syms hK n i
 have e1:=h.pre _ hs
 have e2:=h'.pre _ hs
 show decide (0≤runA Y (digs K n i))=decide (0≤runA Y' (digs K n i))
 rw [decide_eq_decide,e1,e2]
theorem digs_up {K n x:Nat} (hK:1≤K) (hx:x+1<pw K n) (u:List Int) (a:Int) (j:Nat) (h:digs K n x=u++[a]++List.replicate j ((K:Int)-1)) (ha:a<(K:Int)-1):lexI (digs K n x) (digs K n (x+1))=-1:=by
 rw [next_word hK (by omega) u a j h ha,h]
 exact lexI_up u (by omega) _ _
theorem cntA_le {X:List (List Int)} {K n t:Nat}:cntA X K n t≤pw K n:=by
 unfold cntA
 exact Nat.le_trans (List.length_filter_le _ _) (Nat.le_of_eq (wordsL_len K n))
theorem rowC_neg {row:List Int} {c:Nat} {q:List Nat} {j:Nat} (h:row.getD j 0<0):rowC row c q (j+1)=rowC row c q j:=by
 conv=>lhs; unfold rowC
 rw [if_pos h]
theorem rowC_pos {row:List Int} {c:Nat} {q:List Nat} {j:Nat} (h:¬ row.getD j 0<0):rowC row c q (j+1)=(rowC row c q j).set (row.getD j 0).toNat ((rowC row c q j).getD (row.getD j 0).toNat 0+c):=by
 conv=>lhs; unfold rowC
 rw [if_neg h]
theorem mulA_le (row:List Int) (t j:Nat):mulA row t j≤j:=by
 unfold mulA
 have:=List.length_filter_le (fun s=>decide (row.getD s 0=(t:Nat))) (List.range j)
 rwa [List.length_range] at this
theorem sum_mono {f g:Nat→Nat} {n:Nat} (h:∀ i,i<n→f i≤g i):((List.range n).map f).sum≤((List.range n).map g).sum:=by
 induction n with
 | zero=>exact Nat.le_refl _
 | succ n ih =>
  rw [List.range_succ,List.map_append,List.sum_append,List.map_append,List.sum_append]
  have:=ih fun i hi=>h i (by omega)
  have:=h n (by omega)
  simp
  omega
theorem sum_const (n c:Nat):((List.range n).map fun _=>c).sum=n*c:=by
 induction n with
 | zero=>simp
 | succ n ih=>rw [List.range_succ,List.map_append,List.sum_append,ih,Nat.add_mul]; simp
theorem allC_le {X:List (List Int)} {K N C:Nat} {at_:List Nat} (h:∀ u,at_.getD u 0≤C) {i t:Nat}:(allC X K N at_ i).getD t 0≤i*(C*K):=by
 by_cases ht:t<N
 ·rw [allC_get ht,← sum_const]
  exact sum_mono fun u _=>Nat.mul_le_mul (h u) (mulA_le _ _ _)
 ·rw [List.getD_eq_getElem?_getD,List.getElem?_eq_none (by rw [allC_len]; omega)]
  exact Nat.zero_le _
theorem cntL_le {X:List (List Int)} {K N n:Nat} (u:Nat):(cntL X K N n).getD u 0≤pw K n:=by
 by_cases hu:u<N
 ·rw [cntL_get hu]; exact cntA_le
 ·rw [List.getD_eq_getElem?_getD,List.getElem?_eq_none (by rw [cntL_len]; omega)]; exact Nat.zero_le _
theorem rowC_le {X:List (List Int)} {K N C i j:Nat} {at_:List Nat} (h:∀ u,at_.getD u 0≤C) (hi:i<N) (hj:j≤K) (t:Nat):(rowC (X.getD i []) (at_.getD i 0) (allC X K N at_ i) j).getD t 0≤N*(C*K):=by
 by_cases ht:t<N
 ·rw [rowC_get (by rw [allC_len]; exact ht)]
  have h1:=allC_le (X:=X) (K:=K) (N:=N) h (i:=i) (t:=t)
  have h2:at_.getD i 0*mulA (X.getD i []) t j≤C*K:=Nat.mul_le_mul (h i) (Nat.le_trans (mulA_le _ _ _) hj)
  have h3:(i+1)*(C*K)≤N*(C*K):=Nat.mul_le_mul_right _ hi
  rw [Nat.add_mul] at h3
  omega
 ·rw [List.getD_eq_getElem?_getD,List.getElem?_eq_none (by rw [rowC_len,allC_len]; omega)]
  exact Nat.zero_le _
theorem lex_swo {α:Type} [Inhabited α] (k:α→List Int):Go.Sort.SWO (fun x y=>decide (lexI (k x) (k y)<0)) where
 irrefl x:=by
  have:=(lexI_zero (k x) (k x)).2 rfl
  simp [this]
 trans x y z h1 h2:=by
  rw [decide_eq_true_iff] at *
  exact (lexI_trans _ _ _ (by omega) (by omega)).2 (Or.inl h1)
 ntrans x y z h1 h2:=by
  rw [decide_eq_false_iff_not] at *
  have e1:=lexI_neg (k x) (k y)
  have e2:=lexI_neg (k y) (k z)
  have e3:=lexI_neg (k x) (k z)
  have:=(lexI_trans (k z) (k y) (k x) (by omega) (by omega)).1
  omega
theorem lex_anti {a b:List Int} (h1:lexI a b≤0) (h2:lexI b a≤0):a=b:=by
 have:=lexI_neg a b
 exact (lexI_zero a b).1 (by omega)
open Go.RowKit Go.Shelf Go.Sort
set_option maxRecDepth 100000
def Tryz.laysSortFn_ren:Go.Shelf.Ren:=⟨fun | 6=>174 | 15=>131 | 14=>190 | 28=>166 | 29=>167 | 20=>195 | 21=>196 | 22=>197 | 23=>198 | 24=>199 | 25=>200 | 26=>201 | 27=>202 | 46=>203 | 47=>182 | 48=>183 | 49=>204 | 50=>205 | 57=>206 | n=>n,fun | 22=>22 | 24=>3 | 25=>115 | 3=>3 | 39=>108 | 0=>0 | 53=>82 | 55=>50 | 4=>4 | 46=>235 | 45=>234 | 50=>219 | 5=>5 | 9=>9 | 66=>262 | 70=>266 | 76=>274 | 77=>275 | n=>n,fun | n=>n⟩
theorem Tryz.laysSortFn:Go.Proofs.SlLaysF.n6 Tryz.prog Tryz.laysSortFn_ren:={
 mixed:=by kernel_rfl
 f6:=⟨Tryz.f174.name,by decide,Tryz.func174.trans (congrArg some (by kernel_rfl))⟩
 f14:=⟨Tryz.f190.name,by decide,Tryz.func190.trans (congrArg some (by kernel_rfl))⟩
 f15:=Tryz.func131.trans (congrArg some (by kernel_rfl))
 f20:=⟨Tryz.f195.name,by decide,Tryz.func195.trans (congrArg some (by kernel_rfl))⟩
 f21:=⟨Tryz.f196.name,by decide,Tryz.func196.trans (congrArg some (by kernel_rfl))⟩
 f22:=⟨Tryz.f197.name,by decide,Tryz.func197.trans (congrArg some (by kernel_rfl))⟩
 f23:=⟨Tryz.f198.name,by decide,Tryz.func198.trans (congrArg some (by kernel_rfl))⟩
 f24:=⟨Tryz.f199.name,by decide,Tryz.func199.trans (congrArg some (by kernel_rfl))⟩
 f25:=⟨Tryz.f200.name,by decide,Tryz.func200.trans (congrArg some (by kernel_rfl))⟩
 f26:=⟨Tryz.f201.name,by decide,Tryz.func201.trans (congrArg some (by kernel_rfl))⟩
 f27:=⟨Tryz.f202.name,by decide,Tryz.func202.trans (congrArg some (by kernel_rfl))⟩
 f28:=Tryz.func166.trans (congrArg some (by kernel_rfl))
 f29:=Tryz.func167.trans (congrArg some (by kernel_rfl))
 f46:=⟨Tryz.f203.name,by decide,Tryz.func203.trans (congrArg some (by kernel_rfl))⟩
 f47:=Tryz.func182.trans (congrArg some (by kernel_rfl))
 f48:=Tryz.func183.trans (congrArg some (by kernel_rfl))
 f49:=⟨Tryz.f204.name,by decide,Tryz.func204.trans (congrArg some (by kernel_rfl))⟩
 f50:=⟨Tryz.f205.name,by decide,Tryz.func205.trans (congrArg some (by kernel_rfl))⟩
 f57:=⟨Tryz.f206.name,by decide,Tryz.func206.trans (congrArg some (by kernel_rfl))⟩
 t0:=Tryz.underlying0
 a0:=Tryz.isAgg0
 z0:=Tryz.sizeOf0
 v0:=Tryz.zeroValue0
 t3:=Tryz.underlying3
 a3:=Tryz.isAgg3
 z3:=Tryz.sizeOf3
 v3:=Tryz.zeroValue3
 t4:=Tryz.underlying4
 a4:=Tryz.isAgg4
 z4:=Tryz.sizeOf4
 v4:=Tryz.zeroValue4
 t5:=Tryz.underlying5
 a5:=Tryz.isAgg5
 z5:=Tryz.sizeOf5
 v5:=Tryz.zeroValue5
 t9:=Tryz.underlying9
 a9:=Tryz.isAgg9
 z9:=Tryz.sizeOf9
 v9:=Tryz.zeroValue9
 t22:=Tryz.underlying22
 a22:=Tryz.isAgg22
 z22:=Tryz.sizeOf22
 v22:=Tryz.zeroValue22
 a24:=Tryz.isAgg3
 z24:=Tryz.sizeOf3
 t25:=Tryz.underlying115
 a25:=Tryz.isAgg115
 z25:=Tryz.sizeOf115
 v25:=Tryz.zeroValue115
 t39:=Tryz.underlying108
 a39:=Tryz.isAgg108
 z39:=Tryz.sizeOf108
 v39:=Tryz.zeroValue108
 t45:=Tryz.underlying234
 a45:=Tryz.isAgg234
 z45:=Tryz.sizeOf234
 v45:=Tryz.zeroValue234
 t46:=Tryz.underlying235
 a46:=Tryz.isAgg235
 z46:=Tryz.sizeOf235
 v46:=Tryz.zeroValue235
 t50:=Tryz.underlying219
 a50:=Tryz.isAgg219
 z50:=Tryz.sizeOf219
 v50:=Tryz.zeroValue219
 t53:=Tryz.underlying82
 a53:=Tryz.isAgg82
 z53:=Tryz.sizeOf82
 v53:=Tryz.zeroValue82
 t55:=Tryz.underlying50
 a55:=Tryz.isAgg50
 z55:=Tryz.sizeOf50
 v55:=Tryz.zeroValue50
 t66:=Tryz.underlying262
 a66:=Tryz.isAgg262
 z66:=Tryz.sizeOf262
 v66:=Tryz.zeroValue262
 t70:=Tryz.underlying266
 a70:=Tryz.isAgg266
 z70:=Tryz.sizeOf266
 v70:=Tryz.zeroValue266
 t76:=Tryz.underlying274
 a76:=Tryz.isAgg274
 z76:=Tryz.sizeOf274
 v76:=Tryz.zeroValue274
 t77:=Tryz.underlying275
 a77:=Tryz.isAgg275
 z77:=Tryz.sizeOf275
 v77:=Tryz.zeroValue275 }
abbrev encF (m:Nat) (i:Fin (m+1)):Value:=.int .i64 (i.val:Int)
def finA (m:Nat) (o:List Nat):Array (Fin (m+1)):=(o.map (Fin.ofNat (m+1))).toArray
abbrev intN (o:List Nat):List Int:=o.map fun x:Nat=>(x:Int)
theorem fin_get {m:Nat} (d:Array (Fin (m+1))) {i:Nat} (h:i<d.size):d[i]!.val=(d.toList.map Fin.val).getD i 0:=by
 rw [getElem!_pos d i h]
 simp [List.getD,h]
theorem finA_map {m:Nat} {o:List Nat} (h:∀ x∈o,x<m+1):(finA m o).toList.map Fin.val=o:=by
 unfold finA
 rw [List.map_map]
 conv=>rhs; rw [← List.map_id o]
 refine List.map_congr_left fun x hx=>?_
 show (Fin.ofNat (m+1) x).val=x
 exact Nat.mod_eq_of_lt (h x hx)
theorem finA_size (m:Nat) (o:List Nat):(finA m o).size=o.length:=by simp [finA]
theorem cells_fin {m:Nat} (d:Array (Fin (m+1))):(intN (d.toList.map Fin.val)).map (Value.int .i64)=d.toList.map (encF m):=by
 unfold intN encF
 rw [List.map_map,List.map_map]
 rfl
theorem holds_of_blockF {m:Nat} {w:World} {g:Nat} {cur:Array Value} {e:TypeId} {d:Array (Fin (m+1))} (hb:w.heap[g]?=some (.cells cur e (0,0))) (ht:cur.toList.take d.size=d.toList.map (encF m)):Holds (encF m) w g 0 d:=by
 intro j hj
 refine ⟨?_,by simp [World.frozen?,hb]⟩
 have h1:(cur.toList.take d.size)[j]?=(d.toList.map (encF m))[j]?:=by rw [ht]
 rw [List.getElem?_take_of_lt hj] at h1
 simp only [World.cell?,hb,Nat.zero_add]
 simp only [Option.isSome_none,Bool.false_eq_true,if_false]
 rw [← Array.getElem?_toList,h1,getElem!_pos d j hj]
 simp [hj]
theorem heap_sortedF {m:Nat} {w:World} {g n:Nat} {os:Array Obj} {cur:Array Value} {e:TypeId} {fr:Nat×Nat} (d:Array (Fin (m+1))) (hb:w.heap[g]?=some (.cells cur e fr)) :
 (sortWorld (encF m) w g 0 n d os).heap[g]?=some (.cells (putCells (encF m) 0 d cur) e fr):=by
 have hg:g<w.heap.size:=(Array.getElem?_eq_some_iff.1 hb).1
 unfold sortWorld
 rw [heap_grow_old _ _ (by simpa using hg)]
 simp [putRow,mapBlock,Sort.ahead,Array.getElem?_modify,hb,onCells]
theorem grownBy_sortedF {m:Nat} {w:World} {g n:Nat} {os:Array Obj} (d:Array (Fin (m+1))):w.grownBy (sortWorld (encF m) w g 0 n d os) (some g):=by
 unfold sortWorld
 refine ⟨rfl,rfl,rfl,by simp,fun k hk hne=>?_⟩
 rw [heap_grow_old _ _ (by simpa using hk)]
 have:g≠k:=fun e=>hne (by rw [e])
 simp [putRow,mapBlock,Sort.ahead,Array.getElem?_modify,this]
theorem take_putCellsF {m:Nat} (cur:Array Value) (d:Array (Fin (m+1))) (h:d.size≤cur.size):(putCells (encF m) 0 d cur).toList.take d.size=d.toList.map (encF m):=by
 apply List.ext_getElem?
 intro j
 by_cases hj:j<d.size
 ·rw [List.getElem?_take_of_lt hj,Array.getElem?_toList]
  simp [putCells,hj,show j<cur.size by omega]
 ·rw [List.getElem?_take_eq_none (by omega),List.getElem?_eq_none (by simp; omega)]
theorem sorted_keys {m:Nat} {k:Nat→List Int} {d d':Array (Fin (m+1))} (hd:(d.toList.map Fin.val).Perm (List.range (m+1))) (hp:PermIn 0 d.size d d') (hs:SortedIn (ltOf fun x y:Fin (m+1)=>lexI (k x.val) (k y.val)) 0 d.size d') :
 (d'.toList.map Fin.val).Perm (List.range (m+1))∧SortedK (fun a b=>lexI a b≤0) k (d'.toList.map Fin.val) (m+1):=by
 obtain ⟨p1,-,p3⟩:=hp
 have hdl:d.size=m+1:=by have:=hd.length_eq; simpa using this
 have hp':d'.toList.Perm d.toList:=by
  have e1:d'.extract 0 d.size=d':=by rw [← p1,Array.extract_size]
  have e2:d.extract 0 d.size=d:=Array.extract_size
  rw [e1,e2] at p3
  exact p3
 have hP:=(hp'.map Fin.val).trans hd
 have hl:(d'.toList.map Fin.val).length=m+1:=by have:=hP.length_eq; simpa using this
 refine ⟨hP,hl,fun p hp=>?_,fun i hi=>?_,fun p q hpq hq=>?_⟩
 ·have hm:(d'.toList.map Fin.val).getD p 0∈d'.toList.map Fin.val:=by
   rw [List.getD_eq_getElem?_getD,List.getElem?_eq_getElem (by omega),Option.getD_some]; exact List.getElem_mem _
  exact List.mem_range.1 (hP.subset hm)
 ·have hm:=hP.symm.subset (List.mem_range.2 hi)
  obtain ⟨p,hp,e⟩:=List.getElem_of_mem hm
  exact ⟨p,by omega,by rw [List.getD_eq_getElem?_getD,List.getElem?_eq_getElem hp,Option.getD_some]; exact e⟩
 ·rcases Nat.lt_or_eq_of_le hpq with hlt | rfl
  ·have h:=hs p q (Nat.zero_le _) hlt (by omega)
   unfold ltOf at h
   rw [decide_eq_false_iff_not] at h
   replace h:¬ lexI (k (d'[q]!).val) (k (d'[p]!).val)<0:=h
   rw [fin_get d' (by omega),fin_get d' (by omega)] at h
   have:=lexI_neg (k ((d'.toList.map Fin.val).getD p 0)) (k ((d'.toList.map Fin.val).getD q 0))
   show lexI _ _≤0
   omega
  ·show lexI _ _≤0
   rw [(lexI_zero _ _).2 rfl]
   exact Int.le_refl _
theorem sortf_keys {f:Names} {B N:Nat} {Fn:Nat} {cb:Value} (k:Nat→List Int) (ov:Value) (o:List Nat) (w:World) (hR:Rows B w f) (ho:f (1,0)=some (rowI ov (intN o))) (hp:o.Perm (List.range N)) (hN:1≤N) (hl:N≤1000000)
 (eg:∀ args w,(callFunc Fn args).run Tryz.prog w=.ok (.enter Fn args) w)
 (hcmp:∀ W o',o'.length=N→Rows B W (upd f (1,0) (some (rowI ov (intN o'))))→∀ i j:Nat,i<N→j<N→Calls Tryz.prog Fn #[.int .i64 i,.int .i64 j,cb] W fun e w'=>e=.returned (.int .i64 (lexI (k i) (k j)))∧∃ q,w'=W.drewN q) :
 Calls Tryz.prog 174 #[ov,.func (.func Fn) #[] #[cb]] w fun e w'=>e=.returned (.tuple #[])∧∃ o',Rows B w' (upd f (1,0) (some (rowI ov (intN o'))))∧o'.Perm (List.range N)∧SortedK (fun a b=>lexI a b≤0) k o' N∧w.grownBy w' ov.ownBlock:=by
 obtain ⟨m,rfl⟩:∃ m,N=m+1:=⟨N-1,by omega⟩
 have hlo:o.length=m+1:=by have:=hp.length_eq; simpa using this
 have hlt:∀ x∈o,x<m+1:=fun x hx=>List.mem_range.1 (hp.subset hx)
 have hown:=hR.ownI ho
 have hgr:=hR
 rcases hown.2 with ⟨_,hn⟩ | ⟨g,cap,cur,rfl,hb,hg,hn,hcm,hs,ht⟩
 ·have:(intN o).length=m+1:=by simp [intN,hlo]
  omega
 have hlc:(intN o).length=m+1:=by simp [intN,hlo]
 have hdm:=finA_map hlt
 have hds:(finA m o).size=m+1:=by rw [finA_size,hlo]
 rw [hlc] at hn ht
 rw [hlc]
 simp only [hlc] at hcmp
 have ht2:cur.toList.take (finA m o).size=(finA m o).toList.map (encF m):=by
  rw [hds,← cells_fin,hdm]; simpa using ht
 have hrow:∀ (n:Nat) (d':Array (Fin (m+1))) (os:Array Obj),d'.size=m+1→Rows B (sortWorld (encF m) w g 0 n d' os) (upd f (1,0) (some (rowI (.slice (some ⟨g,0,none⟩) (m+1) cap) (intN (d'.toList.map Fin.val))))):=by
  intro n d' os hd'
  have hl2:(intN (d'.toList.map Fin.val)).length=m+1:=by simp [intN,hd']
  refine hgr.grown ho (grownBy_sortedF d') ?_ (.inl rfl)
  unfold Row.own
  show World.ownsRow _ B 3 1 (.slice (some ⟨g,0,none⟩) (m+1) cap) (intN (d'.toList.map Fin.val)).length ((intN (d'.toList.map Fin.val)).map (Value.int .i64))
  rw [hl2]
  refine ⟨by simp [hd'],.inr ⟨g,cap,_,rfl,hb,heap_sortedF d' hg,hn,hcm,by simpa [putCells] using hs,?_⟩⟩
  have:=take_putCellsF cur d' (by omega)
  rw [hd'] at this
  rw [Nat.mul_one,cells_fin]
  exact this
 have hcm1:CmpLays1 Tryz.prog Fn #[cb] (encF m) (fun x y:Fin (m+1)=>lexI (k x.val) (k y.val)) g 0 (finA m o).size w:=by
  refine CmpReads.lays fun n os dk hdk x y=>?_
  rw [hds] at hdk
  have:=hcmp _ (dk.toList.map Fin.val) (by simp [hdk]) (hrow n dk os hdk) x.val y.val x.isLt y.isLt
  exact this
 have hcon:=Any.slices_SortFunc Tryz.laysSortFn (encF m) (fun _=>rfl) (fun x y:Fin (m+1)=>lexI (k x.val) (k y.val)) (lex_swo fun x:Fin (m+1)=>k x.val) Fn #[cb] g 0 cap (finA m o) w eg hcm1 (holds_of_blockF hg ht2) (Array.getElem?_eq_some_iff.1 hg).1 (by rw [hds]; omega)
 have ea:(Value.slice (some ⟨g,0,none⟩) (m+1) cap)=.slice (some ⟨g,0,none⟩) (finA m o).size cap:=by rw [hds]
 have hcon2:Calls Tryz.prog 174 #[.slice (some ⟨g,0,none⟩) (m+1) cap,.func (.func Fn) #[] #[cb]] w (fun e w'=>e=.returned (.tuple #[])∧∃ d' n os,PermIn 0 (finA m o).size (finA m o) d'∧SortedIn (ltOf fun x y:Fin (m+1)=>lexI (k x.val) (k y.val)) 0 (finA m o).size d'∧w'=sortWorld (encF m) w g 0 n d' os):=by
  rw [ea]; exact hcon
 refine Calls.mono hcon2 ?_
 rintro e w' ⟨rfl,d',n,os,hpd,hsd,rfl⟩
 have hsz:d'.size=m+1:=by rw [hpd.1,hds]
 obtain ⟨q1,q2⟩:=sorted_keys (k:=k) (by rw [hdm]; exact hp) hpd hsd
 exact ⟨rfl,_,hrow n d' os hsz,q1,q2,grownBy_sortedF d'⟩
end Go.Proofs.YtkaoebokbfcmhaaGreatDoor
namespace Go.Proofs.YtkaoebokbfcmhaaGreatDoor
theorem Groups.small {N n:Nat} {g:List Int} (h:Groups N g n):n≤N:=by
 have rep:∀ v,∃ i,v<n→i<N∧g.getD i 0=(v:Nat):=fun v=>by
  by_cases hv:v<n
  ·obtain ⟨i,a,b⟩:=h.on v hv; exact ⟨i,fun _=>⟨a,b⟩⟩
  ·exact ⟨0,fun q=>absurd q hv⟩
 obtain ⟨f,hf⟩:=Classical.axiomOfChoice rep
 have hnd:((List.range n).map f).Nodup:=by
  refine List.pairwise_map.2 ((List.nodup_range (n:=n)).imp_of_mem fun {a b} ha hb hne e=>hne ?_)
  have a2:=(hf a (List.mem_range.1 ha)).2
  have b2:=(hf b (List.mem_range.1 hb)).2
  rw [e,b2] at a2
  omega
 have:=nodup_sub hnd (m:=List.range N) fun x hx=>by
  obtain ⟨v,hv,rfl⟩:=List.mem_map.1 hx
  exact List.mem_range.2 (hf v (List.mem_range.1 hv)).1
 rwa [List.length_map,List.length_range,List.length_range] at this
theorem groups_one {N:Nat} (h:0<N):Groups N (List.replicate N 0) 1 :=
 ⟨by simp,fun i hi=>by simp [List.getD,hi],fun v hv=>⟨0,h,by
   obtain rfl:v=0:=by omega
   simp [List.getD,h]⟩⟩
theorem Groups.pos {N n:Nat} {g:List Int} (h:Groups N g n) (h1:0<N):0<n:=by
 have:=h.bd 0 h1
 omega
def cntP {κ:Type} [DecidableEq κ] (k:Nat→κ) (o:List Nat) (p:Nat):Nat:=if p=0 then 0 else cntS k o (p-1)
theorem cntP_zero {κ:Type} [DecidableEq κ] (k:Nat→κ) (o:List Nat):cntP k o 0=0:=rfl
theorem cntP_succ {κ:Type} [DecidableEq κ] (k:Nat→κ) (o:List Nat) (p:Nat):cntP k o (p+1)=cntS k o p:=rfl
theorem cntP_step {κ:Type} [DecidableEq κ] (k:Nat→κ) (o:List Nat) (p:Nat) (h:0<p):cntS k o p=cntP k o p+if k (o.getD p 0)=k (o.getD (p-1) 0) then 0 else 1:=by
 obtain ⟨q,rfl⟩:∃ q,p=q+1:=⟨p-1,by omega⟩
 exact cntS_succ k o q
theorem cntS_le {κ:Type} [DecidableEq κ] (k:Nat→κ) (o:List Nat):∀ p,cntS k o p≤p
 | 0=>Nat.le_refl _
 | p+1=>by
  have:=cntS_le k o p
  rw [cntS_succ]
  split<;>omega
structure ScanL {κ:Type} [DecidableEq κ] (k:Nat→κ) (o:List Nat) (N p:Nat) (x:List Int):Prop where
 len:x.length=N
 got:∀ q,q<p→x.getD (o.getD q 0) 0=(cntS k o q:Nat)
theorem order_nodup {o:List Nat} {N:Nat} (h:o.Perm (List.range N)):o.Nodup:=h.nodup_iff.2 List.nodup_range
theorem order_ne {o:List Nat} {N p q:Nat} (h:o.Perm (List.range N)) (hp:p<N) (hq:q<N) (hne:p≠q):o.getD p 0≠o.getD q 0:=by
 have hl:o.length=N:=by have:=h.length_eq; simpa using this
 intro e
 rw [List.getD_eq_getElem?_getD,List.getD_eq_getElem?_getD,List.getElem?_eq_getElem (by omega),List.getElem?_eq_getElem (by omega),Option.getD_some,Option.getD_some] at e
 exact hne ((List.getElem_inj (order_nodup h)).1 e)
theorem order_lt {o:List Nat} {N p:Nat} (h:o.Perm (List.range N)) (hp:p<N):o.getD p 0<N:=by
 have hl:o.length=N:=by have:=h.length_eq; simpa using this
 rw [List.getD_eq_getElem?_getD,List.getElem?_eq_getElem (by omega),Option.getD_some]
 exact List.mem_range.1 (h.subset (List.getElem_mem _))
theorem ScanL.step {κ:Type} [DecidableEq κ] {k:Nat→κ} {o:List Nat} {N p:Nat} {x:List Int} (h:ScanL k o N p x) (ho:o.Perm (List.range N)) (hp:p<N):ScanL k o N (p+1) (x.set (o.getD p 0) (cntS k o p:Nat)):=by
 have hl:=order_lt ho hp
 refine ⟨by rw [List.length_set]; exact h.len,fun q hq=>?_⟩
 by_cases e:q=p
 ·subst e
  have:o.getD q 0<x.length:=by rw [h.len]; exact hl
  rw [List.getD_eq_getElem?_getD,List.getElem?_set_self this]; rfl
 ·have hne:=order_ne ho (p:=p) (q:=q) hp (by omega) (fun c=>e c.symm)
  rw [List.getD_eq_getElem?_getD,List.getElem?_set_ne hne,← List.getD_eq_getElem?_getD]
  exact h.got q (by omega)
theorem scan_end {X:List (List Int)} {g:List Int} {N:Nat} {od:List Nat} (n1:0<N) (hs:SortedK (fun a b=>lexI a b≤0) (keyG X g) od N) {x:List Int} (h:ScanL (keyG X g) od N N x) :
 Groups N x (cntS (keyG X g) od (N-1)+1)∧GParted N X g x :=
 scan_parts (fun _ _=>lex_anti) n1 hs h.len h.got
def mapG (g:List Int) (st:List Nat) (v:Int):Option Int:=if v∈grpL g st then some ((grpL g st).idxOf v:Nat) else none
theorem mapG_more {g:List Int} {st:List Nat} {t:Nat} (h:g.getD t 0∉grpL g st):(fun v=>if v=g.getD t 0 then some ((st.length:Nat):Int) else mapG g st v)=mapG g (st++[t]):=by
 funext v
 have e:grpL g (st++[t])=grpL g st++[g.getD t 0]:=by simp [grpL]
 unfold mapG
 rw [e]
 by_cases c:v=g.getD t 0
 ·subst c
  rw [if_pos rfl,if_pos (by simp),List.idxOf_append,if_neg h]
  simp [grpL]
 ·rw [if_neg c]
  by_cases m:v∈grpL g st
  ·rw [if_pos m,if_pos (by simp [m]),List.idxOf_append,if_pos m]
  ·rw [if_neg m,if_neg (fun q=>(List.mem_append.1 q).elim m fun q=>c (List.mem_singleton.1 q))]
theorem lsRow_succ (g xs:List Int) (m:Nat) (st:List Nat):lsRow g xs (m+1) st=((lsRow g xs m st).1++[(lsStep g (xs.getD m 0) (lsRow g xs m st).2).1],(lsStep g (xs.getD m 0) (lsRow g xs m st).2).2):=rfl
theorem lsRow_len (g xs:List Int) (st:List Nat):∀ m,(lsRow g xs m st).1.length=m
 | 0=>rfl
 | m+1=>by rw [lsRow_succ,List.length_append,lsRow_len g xs st m]; rfl
theorem lsStep_neg {g:List Int} {t:Int} {st:List Nat} (h:t<0):lsStep g t st=(t,st):=if_pos h
theorem lsStep_old {g:List Int} {t:Int} {st:List Nat} {x:Int} (h:¬ t<0) (hm:mapG g st (g.getD t.toNat 0)=some x):lsStep g t st=(x,st):=by
 unfold lsStep
 unfold mapG at hm
 rw [if_neg h]
 split at hm
 ·rename_i q
  injection hm with hm
  rw [if_pos q,hm]
 ·cases hm
theorem lsStep_new {g:List Int} {t:Int} {st:List Nat} (h:¬ t<0) (hm:mapG g st (g.getD t.toNat 0)=none):lsStep g t st=(((st.length:Nat):Int),st++[t.toNat])∧g.getD t.toNat 0∉grpL g st:=by
 unfold lsStep
 unfold mapG at hm
 rw [if_neg h]
 split at hm
 ·cases hm
 ·rename_i q
  rw [if_neg q]; exact ⟨rfl,q⟩
theorem lsGo_round {X:List (List Int)} {g:List Int} {K N i:Nat} {st:List Nat} {Y:List (List Int)} (hi:i<st.length) (h:st.length≤N):lsGo X g K (N+1-i) i st Y=lsGo X g K (N+1-(i+1)) (i+1) (lsRow g (X.getD (st.getD i 0) []) K st).2 (Y++[(lsRow g (X.getD (st.getD i 0) []) K st).1]):=by
 obtain ⟨m,hm⟩:∃ m,N+1-i=m+1:=⟨N-i,by omega⟩
 have hm2:N+1-(i+1)=m:=by omega
 rw [hm,hm2]
 conv=>lhs; unfold lsGo
 rw [if_pos hi]
theorem lsGo_end {X:List (List Int)} {g:List Int} {K N i:Nat} {st:List Nat} {Y:List (List Int)} (hi:¬ i<st.length) (h:i≤N):lsGo X g K (N+1-i) i st Y=(st,Y):=by
 obtain ⟨m,hm⟩:∃ m,N+1-i=m+1:=⟨N-i,by omega⟩
 rw [hm]
 unfold lsGo
 rw [if_neg hi]
open Go.RowKit
set_option maxRecDepth 100000
set_option maxHeartbeats 8000000
structure KeyEnv (w:World) (gb ab:Nat) (gv nv:Value) (X:List (List Int)) (g:List Int):Prop where
 cg:w.cell? ⟨gb,0,none⟩=some gv
 ca:w.cell? ⟨ab,1,none⟩=some nv
 hg:IntsAt w gv g
 hX:ListsAt w nv X
theorem KeyEnv.below {w w':World} {gb ab:Nat} {gv nv:Value} {X:List (List Int)} {g:List Int} (h:KeyEnv w gb ab gv nv X g) (hb:Below w.heap.size w w'):KeyEnv w' gb ab gv nv X g :=
 ⟨cell_keep hb h.cg,cell_keep hb h.ca,h.hg.below hb,h.hX.below hb⟩
def keyF (g:List Int) (t:Int):Int:=if t<0 then -1 else g.getD t.toNat 0
theorem keyG_eq (X:List (List Int)) (g:List Int) (i:Nat):keyG X g i=g.getD i 0::(X.getD i []).map (keyF g):=rfl
def keyL (g:List Int) (a:Int) (xs:List Int) (j:Nat):List Int:=a::(xs.take j).map (keyF g)
theorem key_snoc {g xs:List Int} {a:Int} {j:Nat} (h:j<xs.length):keyL g a xs j++[keyF g (xs.getD j 0)]=keyL g a xs (j+1):=by
 unfold keyL
 rw [take_snoc xs j h,List.map_append]
 simp [List.getD,h]
theorem keyL_len (g:List Int) (a:Int) (xs:List Int) (j:Nat):(keyL g a xs j).length≤xs.length+1:=by
 unfold keyL
 rw [List.length_cons,List.length_map,List.length_take]
 omega
theorem keyL_full (g:List Int) (a:Int) (xs:List Int):keyL g a xs xs.length=a::xs.map (keyF g):=by unfold keyL; rw [List.take_length]
theorem img_key {K N:Nat} (gb ab:Nat) (gv nv:Value) (X:List (List Int)) (g:List Int) (i:Nat) (w:World) (h:KeyEnv w gb ab gv nv X g) (ok:AutoOk K N X) (gl:g.length=N) (hi:i<N) (hK:K≤1000) :
 Calls Tryz.prog 173 #[.int .i64 i,.pointer (some ⟨gb,0,none⟩),.pointer (some ⟨ab,0,none⟩)] w (Ret1 (fun v w'=>OwnI w.heap.size w' v (keyG X g i)) w):=by
 rw [keyG_eq]
 have cg:=h.cg
 have ca:=h.ca
 have hig:i<g.length:=by rw [gl]; exact hi
 have hiX:i<X.length:=by rw [ok.len]; exact hi
 have ig:=fun w'=>h.hg.idx i hig w'
 have cgi:=h.hg.cellD i hig
 obtain ⟨mv,iX,cX,hM⟩:=h.hX.row i hiX
 have hrl:=ok.row i hi
 have hlo:∀ s,s<K→-1≤(X.getD i []).getD s 0:=fun s hs=>ok.lo i s hi hs
 have hhi:∀ s,s<K→(X.getD i []).getD s 0<N:=fun s hs=>ok.hi i s hi hs
 obtain ⟨xs,hxs⟩:∃ xs,X.getD i []=xs:=⟨_,rfl⟩
 rw [hxs] at hM hrl hlo hhi ⊢
 obtain ⟨a,ha⟩:∃ a,g.getD i 0=a:=⟨_,rfl⟩
 rw [ha] at cgi ⊢
 obtain ⟨ga,gn,gc,rfl⟩:=h.hg.shape
 obtain ⟨na,nc,rfl⟩:=h.hX.shape
 have lM:=fun w=>hM.len w
 obtain ⟨ma,mn,mc,rfl⟩:=hM.shape
 obtain ⟨pg,hpg⟩:∃ p,valAt (.slice ga gn gc) i=p:=⟨_,rfl⟩
 obtain ⟨px,hpx⟩:∃ p,valAt (.slice na X.length nc) i=p:=⟨_,rfl⟩
 rw [hpg] at ig cgi
 rw [hpx] at iX cX
 have hb0:=belowAlloc w (.cells #[.int .i64 a] 3)
 have ho0:OwnI w.heap.size (w.alloc (.cells #[.int .i64 a] 3)) (.slice (some ⟨w.heap.size,0,none⟩) 1 1) [a]:=by
  have:=World.ownsRow_lit (base:=w.heap.size) (e:=3) (size:=1) w #[.int .i64 a] 1 (by omega) (by decide) rfl
  unfold OwnI
  simpa using this
 replace h:=Hd h
 replace hM:=Hd hM
 replace ho0:=Hd ho0
 replace hlo:=Hd hlo
 replace hhi:=Hd hhi
 replace ok:=Hd ok
 replace gl:=Hd gl
 clear hxs ha hpg hpx
 have hxl:xs.length≤1000:=by omega
 have ca0:=cell_keep hb0 ca
 have cX0:=(hb0.cell (World.block_lt_of_cell? _ _ cX)).trans cX
 replace hrl:=Hd hrl
 go_enter Tryz.func173,Tryz.ntmps173
 go_wp2_with fail
 go_loopw [5,19] (fun kv iv wr=>∃ (j:Nat) (kw:Value),kw=kv∧iv=.int .i64 j∧j≤xs.length∧OwnI w.heap.size wr kw (keyL g a xs j)∧Below w.heap.size w wr) (fun _ iv _=>xs.length-(intOf iv).toNat)
 case atStart=>exact ⟨0,_,rfl,rfl,Nat.zero_le _,ho0.out,hb0⟩
 case round =>
  clear ca0 cX0 hb0 cg cgi
  obtain ⟨j,kw,rfl,rfl,hj,hO,hB⟩:=hrel
  obtain ⟨wo,rfl⟩:∃ wo:World,wo=wr:=⟨_,rfl⟩
  obtain ⟨ka,kn,kc,rfl⟩:=hO.at.shape
  by_cases hjl:j<xs.length
  ·have d1:decide ((j:Int)<(xs.length:Int))=true:=decide_eq_true (by omega)
   have hMo:=hM.out.below hB
   have iM:=fun w'=>hMo.idx j hjl w'
   have cM:=hMo.cellD j hjl
   have hsn:=key_snoc (g:=g) (a:=a) hjl
   have ht0:=hlo.out j (by rw [← hrl.out]; exact hjl)
   have ht1:=hhi.out j (by rw [← hrl.out]; exact hjl)
   obtain ⟨t,ht⟩:∃ t,xs.getD j 0=t:=⟨_,rfl⟩
   rw [ht] at cM hsn ht0 ht1
   obtain ⟨pm,hpm⟩:∃ p,valAt (.slice ma mn mc) j=p:=⟨_,rfl⟩
   rw [hpm] at iM cM
   have hkl:(keyL g a xs j).length<4398046511104:=by
    have:=hrl.out
    have:=keyL_len g a xs j
    omega
   have hBs:=hB.size
   have hrel2:∀ (v':Value) (w':World),OwnI w.heap.size w' v' (keyL g a xs j++[keyF g t])→OwnI w.heap.size w' v' (keyL g a xs (j+1)):=fun v' w' q=>by rw [← hsn]; exact q
   replace hrel2:=Hd hrel2
   replace hsn:=Hd hsn
   clear ht hpm hMo
   by_cases htn:t<0
   ·have d2:decide (t<0)=true:=decide_eq_true htn
    have hkf:keyF g t=-1:=if_pos htn
    rw [hkf] at hrel2
    replace hkf:=Hd hkf
    go_wp2_with (at_builtin; refine wpl_app1 rfl _ _ rfl w.heap.size (.slice ka kn kc) _ (-1) hO rfl rfl hkl hBs ?_)
    intro v' w7 ho7 b7 hal7
    have ho8:=hrel2.out v' w7 ho7
    have hB7:=hB.trans b7
    obtain ⟨va,vn,vc,rfl⟩:=ho7.at.shape
    replace ho8:=Hd ho8
    clear ho7 hal7 b7 hO cM
    go_wp2
    go_roundw
    case measure=>simp [intOf]; omega
    case rel=>exact ⟨j+1,_,rfl,by go_num,by omega,ho8.out,hB7⟩
   ·have d2:decide (t<0)=false:=decide_eq_false htn
    obtain ⟨tn,rfl⟩:∃ tn:Nat,t=tn:=Int.eq_ofNat_of_zero_le (by omega)
    have htl:tn<g.length:=by rw [gl.out]; omega
    have ho:=h.out.below hB
    have cg:=ho.cg
    have iG:=fun w'=>ho.hg.idx tn htl w'
    have cG:=ho.hg.cellD tn htl
    have hkf:keyF g (tn:Int)=g.getD tn 0:=by unfold keyF; rw [if_neg (by omega),Int.toNat_natCast]
    rw [hkf] at hrel2
    obtain ⟨y,hy⟩:∃ y,g.getD tn 0=y:=⟨_,rfl⟩
    rw [hy] at cG hrel2
    obtain ⟨pg2,hpg2⟩:∃ p,valAt (.slice ga gn gc) tn=p:=⟨_,rfl⟩
    rw [hpg2] at iG cG
    clear hkf hy hpg2 ho
    go_wp2_with (at_builtin; refine wpl_app1 rfl _ _ rfl w.heap.size (.slice ka kn kc) _ y hO rfl rfl hkl hBs ?_)
    intro v' w7 ho7 b7 hal7
    have ho8:=hrel2.out v' w7 ho7
    have hB7:=hB.trans b7
    obtain ⟨va,vn,vc,rfl⟩:=ho7.at.shape
    replace ho8:=Hd ho8
    clear ho7 hal7 b7 hO cM cG cg
    go_wp2
    go_roundw
    case measure=>simp [intOf]; omega
    case rel=>exact ⟨j+1,_,rfl,by go_num,by omega,ho8.out,hB7⟩
  ·obtain rfl:j=xs.length:=by omega
   have d1:decide ((xs.length:Int)<(xs.length:Int))=false:=decide_eq_false (by omega)
   rw [keyL_full] at hO
   replace hO:=Hd hO
   go_wp2
   go_ret
   exact ⟨_,rfl,hB,hO.out⟩
structure CmpEnv (w:World) (kb:Nat) (kv:Value) (k:Nat→List Int) (N:Nat):Prop where
 c:w.cell? ⟨kb,0,none⟩=some kv
 h:ListsAt w kv ((List.range N).map k)
theorem CmpEnv.drewN {w:World} {kb:Nat} {kv:Value} {k:Nat→List Int} {N:Nat} (h:CmpEnv w kb kv k N) (q:Nat):CmpEnv (w.drewN q) kb kv k N:=⟨h.c,h.h.drewN q⟩
theorem CmpEnv.row {w:World} {kb:Nat} {kv:Value} {k:Nat→List Int} {N:Nat} (h:CmpEnv w kb kv k N) (i:Nat) (hi:i<N) :
 ∃ mv,(∀ w',(Instr.indexAt 31 kv (.int .i64 i)).run Tryz.prog w'=.ok (.pointer (some (valAt kv i))) w')∧w.cell? (valAt kv i)=some mv∧IntsAt w mv (k i):=by
 obtain ⟨mv,a,b,c⟩:=h.h.row i (by simpa using hi)
 refine ⟨mv,a,b,?_⟩
 have e:((List.range N).map k).getD i []=k i:=by simp [List.getD,hi]
 rwa [e] at c
theorem eg_img_cmp (args:Array Value) (w:World):(callFunc 175 args).run Tryz.prog w=.ok (.enter 175 args) w:=by kernel_rfl
theorem img_cmp (kb:Nat) (kv:Value) (k:Nat→List Int) (N i j:Nat) (w:World) (h:CmpEnv w kb kv k N) (hi:i<N) (hj:j<N) :
 Calls Tryz.prog 175 #[.int .i64 i,.int .i64 j,.pointer (some ⟨kb,0,none⟩)] w fun e w'=>e=.returned (.int .i64 (lexI (k i) (k j)))∧∃ q,w'=w.drewN q:=by
 have c0:=h.c
 obtain ⟨m1,i1,c1,h1⟩:=h.row i hi
 obtain ⟨m2,i2,c2,h2⟩:=h.row j hj
 obtain ⟨ka,kc,rfl⟩:=h.h.shape
 obtain ⟨p1,hp1⟩:∃ p,valAt (.slice ka ((List.range N).map k).length kc) i=p:=⟨_,rfl⟩
 obtain ⟨p2,hp2⟩:∃ p,valAt (.slice ka ((List.range N).map k).length kc) j=p:=⟨_,rfl⟩
 rw [hp1] at i1 c1
 rw [hp2] at i2 c2
 obtain ⟨nn,hnn⟩:∃ nn,((List.range N).map k).length=nn:=⟨_,rfl⟩
 rw [hnn] at c0 i1 i2
 have hc:=fun w':World=>fun (a:IntsAt w' m1 (k i)) (b:IntsAt w' m2 (k j))=>scompare_any m1 m2 (k i) (k j) w' a b
 obtain ⟨a1,n1,q1,rfl⟩:=h1.shape
 obtain ⟨a2,n2,q2,rfl⟩:=h2.shape
 obtain ⟨L,hL⟩:∃ L,lexI (k i) (k j)=L:=⟨_,rfl⟩
 rw [hL] at hc ⊢
 have hcall:∀ q,Calls Tryz.prog 65 #[.slice a1 n1 q1,.slice a2 n2 q2] (w.drewN q) fun e w'=>e=.returned (.int .i64 L)∧w.drewN q=w':=fun q=>hc (w.drewN q) h1 h2
 replace hcall:=Hd hcall
 clear hc h hnn hp1 hp2 h1 h2 hL
 go_enter Tryz.func175,Tryz.ntmps175
 go_wp2_with fail
 go_quiet ((go_at_call 65; exact Calls.quiet_of_same ((hcall.out _).mono fun _ _ ⟨a,b⟩=>⟨a,b.symm⟩)))
 go_wp2
 go_ret
 exact ⟨rfl,_,rfl⟩
end Go.Proofs.YtkaoebokbfcmhaaGreatDoor
