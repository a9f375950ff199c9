/-
  Texts that the proof leans on.
-/
import Derived.Test.YtkaoebokbfcmhaaGreatDoorMWc6
import Derived.BigQuiet
import Derived.Deep.QuietTactic
namespace Go.Proofs.YtkaoebokbfcmhaaGreatDoor
open Go.RowKit
set_option maxRecDepth 100000
set_option maxHeartbeats 8000000
def WordsPost (r:Nat→Addr) (w:World) (K R:Nat) (T:List Int) (ns:List Nat) (x y z:Value) (w':World):Prop :=
 (AllFit K (pw K (2*R)) T ns∧z=.nilIface∧OwnI w.heap.size w' x (alongW K (2*R) (·/pw K (2*R)) ns)∧OwnI w.heap.size w' y (alongW K (2*R) (·%pw K (2*R)) ns)∧(x.ownBlock=none∨x.ownBlock≠y.ownBlock)) ∨
 (¬ AllFit K (pw K (2*R)) T ns∧x=.slice none 0 0∧y=.slice none 0 0∧ErrIs r w' (fresh sPairs 1 3) z)
theorem pwords_way (r:Nat→Addr) (K R:Nat) (va:Option Addr) (vn vc:Nat) (T:List Int) (u:Value) (ns:List Nat) (w:World) (hg:Glob r w) (h:IntsAt w (.slice va vn vc) T) (hr:RuleOk K R T) (hl:T.length≤256) (hu:IntsAt w u (castI ns)) (hne:ns≠[]) (hlow:∀ p∈ns,p<pw K (2*wkR R)*pw K (2*wkR R)) (hnl:ns.length≤17592186044000) :
 Calls Tryz.prog 119 #[.agg #[.int .i64 K,.int .i64 R,.slice va vn vc],u] w (Ret3 (WordsPost r w K (wkR R) (wkT K R T) ns) w):=by
 have b0:=belowAlloc w (.cells #[.int .i64 K,.int .i64 R,.slice va vn vc] 24)
 have hk1:=hr.k1
 have hk4:=hr.k4
 have hokW:=wk_ok hr
 have hlW:=wk_small hr hl
 have hRW:=wk_pos R
 have hN81:=nodes_le hokW hRW hlW
 obtain ⟨hdiv,hlen⟩:=hokW.half
 have hR3:=hokW.r3
 have hN1:=pw_pos (K:=K) (2*wkR R) hk1
 have hwork:=fun (w':World) (hgl:Glob r w') (hT:IntsAt w' (.slice va vn vc) T)=>working_ok r K R va vn vc T w' hgl hT hr hl
 have hNodes:=fun (a:Option Addr) (n c:Nat) (w':World) (hgl:Glob r w') (hT:IntsAt w' (.slice a n c) (wkT K R T))=>over_Nodes r K (wkR R) a n c (wkT K R T) w' hgl hT hokW hlW
 have hEdge:=fun (a:Option Addr) (n c u s:Nat) (w':World) (hgl:Glob r w') (hT:IntsAt w' (.slice a n c) (wkT K R T)) (hu:u<pw K (2*wkR R)) (hs:s<K)=>over_Edge r K (wkR R) a n c (wkT K R T) u s w' hgl hT hokW hlW (by rw [hdiv]; exact hu) hs
 rw [hdiv] at hNodes hEdge
 have hpost:=fun (x y z:Value) (w':World)=>@WordsPost r w K (wkR R) (wkT K R T) ns x y z w'
 obtain ⟨m,hm⟩:∃ m,2*wkR R=m:=⟨_,rfl⟩
 unfold WordsPost
 rw [hm] at hNodes hEdge hlow hN81 hN1 hdiv hlen ⊢
 obtain ⟨N,hN⟩:∃ N,pw K m=N:=⟨_,rfl⟩
 rw [hN] at hNodes hEdge hlow hN81 hN1 hdiv hlen ⊢
 generalize wkT K R T=T' at *
 generalize wkR R=R' at *
 clear hpost
 have lu:=hu.len
 obtain ⟨up,hup,hupI⟩:=hu.post 1 (by rw [castI_len]; exact List.length_pos_iff.2 hne)
 have lup:=hupI.len
 have hcl:(castI ns).length=ns.length:=castI_len ns
 have hdl:((castI ns).drop 1).length=ns.length-1:=by rw [List.length_drop,castI_len]
 rw [hdl] at lup
 rw [hcl] at lu
 have hnp:0<ns.length:=List.length_pos_iff.2 hne
 have iU:=fun (i:Nat) (hi:i<ns.length) w'=>hu.idx i (by rw [castI_len]; exact hi) w'
 have cU:=fun (i:Nat) (hi:i<ns.length)=>hu.cellD i (by rw [castI_len]; exact hi)
 have iP:=fun (i:Nat) (hi:i+1<ns.length) w'=>hupI.idx i (by rw [hdl]; omega) w'
 have cP:=fun (i:Nat) (hi:i+1<ns.length)=>hupI.cellD i (by rw [hdl]; omega)
 have gU:∀ i,i<ns.length→(castI ns).getD i 0=((ns.getD i 0:Nat):Int):=fun i hi=>by simp [castI,List.getD,hi]
 have gP:∀ i,i+1<ns.length→((castI ns).drop 1).getD i 0=((ns.getD (i+1) 0:Nat):Int):=fun i hi=>by
  rw [List.getD_eq_getElem?_getD,List.getElem?_drop,Nat.add_comm 1 i,← List.getD_eq_getElem?_getD]; exact gU _ hi
 have cU2:=fun (i:Nat) (hi:i<ns.length)=>(cU i hi).trans (by rw [gU i hi])
 have cP2:=fun (i:Nat) (hi:i+1<ns.length)=>(cP i hi).trans (by rw [gP i hi])
 have hlow2:∀ i,i<ns.length→ns.getD i 0<N*N:=fun i hi=>by
  simp only [List.getD_eq_getElem?_getD,List.getElem?_eq_getElem hi,Option.getD_some]
  exact hlow _ (List.getElem_mem hi)
 have hM6:N*N≤6561:=Nat.mul_le_mul hN81 hN81
 have hokway:decide (0≤idxOf (odd1 ((N*N:Nat):Int)) (castI ns))=false:=by
  rw [decide_eq_false_iff_not,idxOf_neg]
  ·omega
  ·intro x hx
   obtain ⟨p,hp,rfl⟩:=List.mem_map.1 hx
   have:=hlow p hp
   rw [odd1_false]; omega
 have hl0:¬ ns.length=0:=by omega
 have hl1:((ns.length:Int)==0)=false:=by rw [beq_eq_false_iff_ne]; omega
 obtain ⟨ua,un,uc,rfl⟩:=hu.shape
 obtain ⟨pa,pn,pc,rfl⟩:=hupI.shape
 replace hwork:=Hd hwork
 replace hNodes:=Hd hNodes
 replace hEdge:=Hd hEdge
 replace hg:=Hd (hg.below b0)
 replace h:=Hd (h.below b0)
 replace hu:=Hd (hu.below b0)
 replace hokW:=Hd hokW
 replace hr:=Hd hr
 replace hdiv:=Hd hdiv
 replace hlen:=Hd hlen
 replace hm:=Hd hm
 replace hN:=Hd hN
 replace iU:=Hd iU
 replace iP:=Hd iP
 replace cU2:=Hd cU2
 replace cP2:=Hd cP2
 replace hlow2:=Hd hlow2
 replace hlow:=Hd hlow
 replace hokway:=Hd hokway
 replace hne:=Hd hne
 replace hupI:=Hd hupI
 clear cU cP gU gP hdl hcl
 go_enter Tryz.func119,Tryz.ntmps119
 go_wp2_with fail
 refine (hwork.out _ hg.out h.out).mono ?_
 rintro e w1 ⟨x,y,rfl,b1,rfl,a,n,c,rfl,hT1⟩
 have ba:=belowAlloc w1 (.cells #[.int .i64 K,.int .i64 R',.slice a n c] 24)
 have qw:Box3 (w1.alloc (.cells #[.int .i64 K,.int .i64 R',.slice a n c] 24)) w1.heap.size (.int .i64 K) (.int .i64 R') (.slice a n c):=by simp [Box3,go_sem]
 have b12:=Below.step b1 ba
 have hT2:=hT1.below ba
 replace hT1:=Hd hT1
 replace hT2:=Hd hT2
 replace qw:=Hd qw
 go_wp2_with fail
 refine (hNodes.out a n c _ (hg.out.below b12) hT2.out).mono ?_
 rintro e w3 ⟨x,y,rfl,b3,rfl,rfl⟩
 have bb:=belowAlloc w3 (.cells #[.int .i64 N] 3)
 have b34:=Below.step b3 bb
 have b14:=Below.step b12 b34
 have cN:(w3.alloc (.cells #[.int .i64 N] 3)).cell? ⟨w3.heap.size,0,none⟩=some (.int .i64 N):=by simp [go_sem]
 have hcf:=containsFunc_any (.slice ua un uc) (.pointer (some ⟨w3.heap.size,0,none⟩)) 151 (castI ns) (odd1 ((N*N:Nat):Int)) _ (hu.out.below b14) eg_words1 (fun x _=>words1_any x w3.heap.size N _ (by omega) cN)
 replace hcf:=Hd hcf
 replace cN:=Hd cN
 go_wp2_with fail
 refine hcf.out.mono ?_
 rintro e w5 ⟨rfl,hw5⟩
 rw [hokway.out]
 have cN5:=cN.out
 have qw5:=qw.out.below b34
 have hT5:=hT2.out.below b34
 rw [hw5] at b14 cN5 qw5 hT5
 clear hcf cN hw5 bb b34 b3 b12
 have b05:=Below.step b0 b14
 have hg5:=hg.out.below b14
 clear b14
 -- region 8
 obtain ⟨L1,hL1⟩:∃ L1,ns.length=L1+1:=⟨ns.length-1,by omega⟩
 rw [hL1,Nat.add_sub_cancel] at lup
 have hLbig:L1≤17592186044000:=by omega
 have hup1:∀ w',(Instr.slice 22 (.slice ua un uc) (some (.int .i64 1)) none none).run Tryz.prog w'=.ok (.slice pa pn pc) w':=hup
 obtain ⟨p0,hp0⟩:∃ p,ns.getD 0 0=p:=⟨_,rfl⟩
 have hp0l:p0<N*N:=by rw [← hp0]; exact hlow2.out 0 hnp
 have i0:∀ w',(Instr.indexAt 22 (.slice ua un uc) (.int .i64 0)).run Tryz.prog w'=.ok (.pointer (some (valAt (.slice ua un uc) 0))) w':=fun w'=>iU.out 0 hnp w'
 have c0:=cU2.out 0 hnp
 rw [hp0] at c0
 have c05:=(b05.cell (World.block_lt_of_cell? _ _ c0)).trans c0
 have hN0:((N:Int)==0)=false:=by rw [beq_eq_false_iff_ne]; omega
 have hN2:¬ (N:Int)=0:=by omega
 have hN3:¬ N=0:=by omega
 have hK0:((K:Int)==0)=false:=by rw [beq_eq_false_iff_ne]; omega
 have hK1:¬ (K:Int)=0:=by omega
 have hK3:¬ K=0:=by omega
 obtain ⟨d1,d2,d3,d4,d5,d6⟩:=dm p0 N (by omega)
 obtain ⟨u0,hu0⟩:∃ z,p0/N=z:=⟨_,rfl⟩
 obtain ⟨v0,hv0⟩:∃ z,p0%N=z:=⟨_,rfl⟩
 rw [hu0] at d1 d3 d5
 rw [hv0] at d2 d4 d6
 have hu0l:u0<N:=by rw [← hu0]; exact div_lt_of hp0l
 have hv0l:v0<N:=by rw [← hv0]; exact Nat.mod_lt _ (by omega)
 clear c0
 generalize valAt (.slice ua un uc) 0=t0 at *
 replace hL1:=Hd hL1
 replace hp0:=Hd hp0
 replace hu0:=Hd hu0
 replace hv0:=Hd hv0
 replace hT5:=Hd hT5
 replace hg5:=Hd hg5
 go_upto_region 8 with fail
 refine wp_region_plan (fun w'=>w'.cell? t0=some (.int .i64 p0)∧w'.cell? ⟨w3.heap.size,0,none⟩=some (.int .i64 N)) 15 [(0,true),(1,true),(2,true),(3,true),(4,true),(5,true),(7,true),(8,true),(9,true),(10,true),(11,true),(12,true),(6,false),(13,false),(14,true)] (by kernel_rfl) (by kernel_rfl) ?_
 have hS:w5.drew.cell? t0=some (.int .i64 p0)∧w5.drew.cell? ⟨w3.heap.size,0,none⟩=some (.int .i64 N):=⟨c05,cN5⟩
 refine pqY 47 hS ?_
 refine pqY 48 hS ?_
 refine pqY 49 hS ?_
 refine pqY 50 hS ?_
 refine pqY 51 hS ?_
 refine pqY 52 hS ?_
 refine pqY 54 hS ?_
 refine pqY 55 hS ?_
 refine pqY 56 hS ?_
 refine pqY 57 hS ?_
 refine pqY 58 hS ?_
 refine pqY 59 hS ?_
 refine headC rfl (fun KK hK=>?_)
 go_simp
 refine (words2_any K R' u0 w1.heap.size w5.drew hk1 hk4 hR3 (by omega) qw5.1.1 qw5.1.2.1).mono ?_
 rintro e w6 ⟨av,rfl,b6,ho6⟩
 have hS6:w6.cell? t0=some (.int .i64 p0)∧w6.cell? ⟨w3.heap.size,0,none⟩=some (.int .i64 N):=⟨(b6.cell (World.block_lt_of_cell? _ _ hS.1)).trans hS.1,cell_keep b6 hS.2⟩
 have qw6:=qw5.below (w':=w6) (Below.trans ((Below.refl _ _).drew) b6)
 refine hK _ _ hS6 ?_
 clear hK KK
 refine headC rfl (fun KK hK=>?_)
 go_simp
 refine (words2_any K R' v0 w1.heap.size w6 hk1 hk4 hR3 (by omega) qw6.1.1 qw6.1.2.1).mono ?_
 rintro e w7 ⟨bv,rfl,b7,ho7⟩
 have hS7:w7.cell? t0=some (.int .i64 p0)∧w7.cell? ⟨w3.heap.size,0,none⟩=some (.int .i64 N):=⟨(b7.cell (World.block_lt_of_cell? _ _ hS6.1)).trans hS6.1,cell_keep b7 hS6.2⟩
 refine hK _ _ hS7 ?_
 clear hK KK
 refine pqY 12 hS7 ?_
 refine head0 ?_
 simp only [List.drop_succ_cons,List.drop_zero]
 have b56:Below w5.heap.size w5 w6:=Below.trans ((Below.refl _ _).drew) b6
 have b57:=Below.step b56 b7
 rw [hm.out] at ho6 ho7
 have r1:=(Rows.void w5.heap.size w5).add (i:=(1,0)) (r':=rowI av (digs K m u0)) b56 ho6 (fun k hk=>(ho6.lt k hk).1)
 have r2:=r1.add (i:=(2,0)) (r':=rowI bv (digs K m v0)) b7 (ho7.mono b56.size) (fun k hk=>(ho7.lt k hk).1)
 obtain ⟨f,hf⟩:∃ f,f=upd (upd (fun _=>none) (1,0) (some (rowI av (digs K m u0)))) (2,0) (some (rowI bv (digs K m v0))):=⟨_,rfl⟩
 have hfa:f (1,0)=some (rowI av (digs K m u0)):=by rw [hf,upd_ne _ _ (by simp),upd_same]
 have hfb:f (2,0)=some (rowI bv (digs K m v0)):=by rw [hf,upd_same]
 rw [← hf] at r2
 have htk:ns.take 1=[p0]:=by
  cases hns:ns with
  | nil=>exact absurd hns hne.out
  | cons a l=>have:=hp0.out; rw [hns] at this; simp at this; simp [this]
 have ha1:alongW K m (·/N) (ns.take 1)=digs K m u0:=by rw [htk,alongW_one,hu0.out]
 have hb1:alongW K m (·%N) (ns.take 1)=digs K m v0:=by rw [htk,alongW_one,hv0.out]
 rw [← ha1] at hfa
 rw [← hb1] at hfb
 clear hS hS6 hS7 ho6 ho7 r1 hf htk ha1 hb1 qw6 i0 c05 d1 d2 d3 d4 d5 d6
 obtain ⟨aa,an,ac,rfl⟩:=(r2.ownI hfa).at.shape
 obtain ⟨ba',bn,bc,rfl⟩:=(r2.ownI hfb).at.shape
 replace r2:=Hd r2
 replace hfa:=Hd hfa
 replace hfb:=Hd hfb
 replace qw5:=Hd qw5
 replace cN5:=Hd cN5
 go_wp2
 refine NoPanic.normal ?_
 go_wp2_with fail
 clear hup hup1
 go_loopw [12,13,64] (fun xa xb jv wr=>∃ (j:Nat) (f:Names) (va' vb':Value),j≤L1∧jv=.int .i64 j∧va'=xa∧vb'=xb∧Rows w5.heap.size wr f∧Below w5.heap.size w5 wr∧f (1,0)=some (rowI va' (alongW K m (·/N) (ns.take (j+1))))∧f (2,0)=some (rowI vb' (alongW K m (·%N) (ns.take (j+1))))∧(∀ i,i<j→StepFits K N T' (ns.getD i 0) (ns.getD (i+1) 0))) (fun _ _ jv _=>L1-(intOf jv).toNat)
 case atStart=>exact ⟨0,f,_,_,by omega,rfl,rfl,rfl,r2.out,b57,hfa.out,hfb.out,fun i hi=>by omega⟩
 case round =>
  clear hfa hfb r2 b57 b56 b6 b7
  obtain ⟨j,f2,av,bv,hj,rfl,rfl,rfl,hr,bI,hfa,hfb,hfit⟩:=hrel
  obtain ⟨wo,rfl⟩:∃ wo:World,wo=wr:=⟨_,rfl⟩
  have b0o:=b05.trans (bI.mono b05.size)
  by_cases hjl:j<L1
  ·obtain ⟨p,hp⟩:∃ p,ns.getD (j+1) 0=p:=⟨_,rfl⟩
   obtain ⟨pj,hpj⟩:∃ p,ns.getD j 0=p:=⟨_,rfl⟩
   have hll:=hL1.out
   have hjl2:=Hd hjl
   have hpl:p<N*N:=by rw [← hp]; exact hlow2.out (j+1) (by omega)
   have hpjl:pj<N*N:=by rw [← hpj]; exact hlow2.out j (by omega)
   have iJ:=fun w'=>iP.out j (by omega) w'
   have cJ:=cP2.out j (by omega)
   have iI:=fun w'=>iU.out j (by omega) w'
   have cI:=cU2.out j (by omega)
   rw [hp] at cJ
   rw [hpj] at cI
   have cJo:=(b0o.cell (World.block_lt_of_cell? _ _ cJ)).trans cJ
   have cIo:=(b0o.cell (World.block_lt_of_cell? _ _ cI)).trans cI
   have htk:ns.take (j+1+1)=ns.take (j+1)++[p]:=by
    rw [List.take_add_one,List.getElem?_eq_getElem (show j+1<ns.length by omega)]
    have:ns[j+1]'(by omega)=p:=by rw [← hp]; simp [List.getD,show j+1<ns.length by omega]
    rw [this]; rfl
   have htn:ns.take (j+1)≠[]:=by
    intro e
    have:=congrArg List.length e
    rw [List.length_take,List.length_nil] at this; omega
   have haS:=alongW_snoc K m (·/N) (ns.take (j+1)) p htn
   have hbS:=alongW_snoc K m (·%N) (ns.take (j+1)) p htn
   rw [← htk] at haS hbS
   obtain ⟨d1,d2,d3,d4,d5,d6⟩:=dm p N (by omega)
   obtain ⟨u1,hu1⟩:∃ z,p/N=z:=⟨_,rfl⟩
   obtain ⟨v1,hv1⟩:∃ z,p%N=z:=⟨_,rfl⟩
   rw [hu1] at d1 d3 d5 haS
   rw [hv1] at d2 d4 d6 hbS
   have hu1l:u1<N:=by rw [← hu1]; exact div_lt_of hpl
   have hv1l:v1<N:=by rw [← hv1]; exact Nat.mod_lt _ (by omega)
   obtain ⟨g1,g2,g3,g4,g5,g6⟩:=dm pj N (by omega)
   obtain ⟨uj,huj⟩:∃ z,pj/N=z:=⟨_,rfl⟩
   obtain ⟨vj,hvj⟩:∃ z,pj%N=z:=⟨_,rfl⟩
   rw [huj] at g1 g3 g5
   rw [hvj] at g2 g4 g6
   have hujl:uj<N:=by rw [← huj]; exact div_lt_of hpjl
   have hvjl:vj<N:=by rw [← hvj]; exact Nat.mod_lt _ (by omega)
   obtain ⟨_,x2,_,x4,_,x6⟩:=dm u1 K (by omega)
   obtain ⟨_,z2,_,z4,_,z6⟩:=dm v1 K (by omega)
   obtain ⟨s,hs⟩:∃ z,u1%K=z:=⟨_,rfl⟩
   obtain ⟨t,ht⟩:∃ z,v1%K=z:=⟨_,rfl⟩
   rw [hs] at x2 x4 x6 haS
   rw [ht] at z2 z4 z6 hbS
   have hsl:s<K:=by rw [← hs]; exact Nat.mod_lt _ (by omega)
   have htl:t<K:=by rw [← ht]; exact Nat.mod_lt _ (by omega)
   have hstep:StepFits K N T' pj p↔toN K N uj s=u1∧toN K N vj t=v1∧labN K T' uj s=labN K T' vj t:=by
    unfold StepFits; rw [hu1,hv1,huj,hvj,hs,ht]
   have qwo:=qw5.out.below bI
   have cNo:=cell_keep bI cN5.out
   clear cJ cI
   generalize valAt (.slice pa pn pc) j=tj at *
   generalize valAt (.slice ua un uc) j=ti at *
   have hoa:=hr.ownI hfa
   have hob:=hr.ownI hfb
   have hm6:m≤6:=by have:=hm.out; omega
   have hLa:(alongW K m (·/N) (ns.take (j+1))).length≤17592186044100:=by rw [alongW_len,List.length_take]; omega
   have hLb:(alongW K m (·%N) (ns.take (j+1))).length≤17592186044100:=by rw [alongW_len,List.length_take]; omega
   replace hp:=Hd hp
   replace hpj:=Hd hpj
   replace hll:=Hd hll
   replace htk:=Hd htk
   replace htn:=Hd htn
   replace haS:=Hd haS
   replace hbS:=Hd hbS
   replace hu1:=Hd hu1
   replace hv1:=Hd hv1
   replace huj:=Hd huj
   replace hvj:=Hd hvj
   replace hs:=Hd hs
   replace ht:=Hd ht
   replace hstep:=Hd hstep
   replace hfit:=Hd hfit
   replace hr:=Hd hr
   replace hfa:=Hd hfa
   replace hfb:=Hd hfb
   replace hoa:=Hd hoa
   replace hob:=Hd hob
   go_upto_region 12 with fail
   refine wp_region_plan (fun w'=>w'.cell? ⟨w1.heap.size,0,none⟩=some (.int .i64 K)∧w'.cell? ⟨w3.heap.size,0,none⟩=some (.int .i64 N)) 13 [(0,true),(1,true),(2,true),(3,true),(4,true),(5,true),(6,true),(7,true),(8,true),(9,true),(10,true),(11,true),(12,true)] (by kernel_rfl) (by kernel_rfl) ?_
   have hS:wo.drew.cell? ⟨w1.heap.size,0,none⟩=some (.int .i64 K)∧wo.drew.cell? ⟨w3.heap.size,0,none⟩=some (.int .i64 N):=⟨qwo.1.1,cNo⟩
   refine pqY 69 hS ?_
   refine pqY 70 hS ?_
   refine pqY 71 hS ?_
   refine pqY 72 hS ?_
   refine pqY 73 hS ?_
   refine pqY 74 hS ?_
   refine pqY 75 hS ?_
   refine pqY 76 hS ?_
   refine pqY 77 hS ?_
   refine pqY 78 hS ?_
   refine pqY 79 hS ?_
   refine pqY 80 hS ?_
   refine pqY 16 hS ?_
   refine head0 ?_
   simp only [List.drop_succ_cons,List.drop_zero]
   clear hS
   go_wp2
   refine NoPanic.normal ?_
   go_upto_region 13 with fail
   refine wp_region_plan (fun w'=>w'.cell? ⟨w1.heap.size,0,none⟩=some (.int .i64 K)∧w'.cell? ⟨w1.heap.size,1,none⟩=some (.int .i64 R')∧w'.cell? ⟨w1.heap.size,2,none⟩=some (.slice a n c)∧w'.cell? ⟨w3.heap.size,0,none⟩=some (.int .i64 N)∧w'.cell? ti=some (.int .i64 pj)) 15 [(0,true),(1,true),(2,true),(3,true),(4,true),(5,true),(6,true),(7,true),(8,false),(9,true),(10,true),(11,true),(12,true),(13,true),(14,true)] (by kernel_rfl) (by kernel_rfl) ?_
   have hS:wo.drew.drew.cell? ⟨w1.heap.size,0,none⟩=some (.int .i64 K)∧wo.drew.drew.cell? ⟨w1.heap.size,1,none⟩=some (.int .i64 R')∧wo.drew.drew.cell? ⟨w1.heap.size,2,none⟩=some (.slice a n c)∧wo.drew.drew.cell? ⟨w3.heap.size,0,none⟩=some (.int .i64 N)∧wo.drew.drew.cell? ti=some (.int .i64 pj):=⟨qwo.1.1,qwo.1.2.1,qwo.1.2.2,cNo,cIo⟩
   refine pqY 82 hS ?_
   refine pqY 83 hS ?_
   refine pqY 84 hS ?_
   refine pqY 85 hS ?_
   refine pqY 86 hS ?_
   refine pqY 87 hS ?_
   refine pqY 88 hS ?_
   refine pqY 89 hS ?_
   refine headC rfl (fun KK hK=>?_)
   go_simp
   refine (hEdge.out a n c uj s wo.drew.drew (hg5.out.below bI.drew.drew) (hT5.out.below bI.drew.drew) hujl hsl).mono ?_
   rintro e w6 ⟨x,y,z,rfl,b6,rfl,rfl,rfl⟩
   obtain ⟨X1,hX1⟩:∃ X,toN K N uj s=X:=⟨_,rfl⟩
   obtain ⟨O1,hO1⟩:∃ X,labN K T' uj s=X:=⟨_,rfl⟩
   rw [hX1,hO1]
   have bo6:Below wo.heap.size wo w6:=Below.trans ((Below.refl _ _).drew.drew) b6
   have hS6:w6.cell? ⟨w1.heap.size,0,none⟩=some (.int .i64 K)∧w6.cell? ⟨w1.heap.size,1,none⟩=some (.int .i64 R')∧w6.cell? ⟨w1.heap.size,2,none⟩=some (.slice a n c)∧w6.cell? ⟨w3.heap.size,0,none⟩=some (.int .i64 N)∧w6.cell? ti=some (.int .i64 pj):=⟨cell_keep b6 hS.1,cell_keep b6 hS.2.1,cell_keep b6 hS.2.2.1,cell_keep b6 hS.2.2.2.1,(b6.cell (World.block_lt_of_cell? _ _ hS.2.2.2.2)).trans hS.2.2.2.2⟩
   refine hK _ _ hS6 ?_
   clear hK KK
   refine pqY 81 hS6 ?_
   refine pqY 91 hS6 ?_
   refine pqY 92 hS6 ?_
   refine pqY 93 hS6 ?_
   refine pqY 18 hS6 ?_
   refine pqY 19 hS6 ?_
   refine head0 ?_
   simp only [List.drop_succ_cons,List.drop_zero]
   have bI6:=bI.trans (bo6.mono bI.size)
   have hS6':=Hd hS6
   clear hS hS6
   go_wp2
   refine NoPanic.normal ?_
   go_upto_region 14 with fail
   refine wp_region_plan (fun w'=>w'.cell? ⟨w1.heap.size,0,none⟩=some (.int .i64 K)∧w'.cell? ⟨w1.heap.size,1,none⟩=some (.int .i64 R')∧w'.cell? ⟨w1.heap.size,2,none⟩=some (.slice a n c)∧w'.cell? ⟨w3.heap.size,0,none⟩=some (.int .i64 N)∧w'.cell? ti=some (.int .i64 pj)) 15 [(0,true),(1,true),(2,true),(3,true),(4,true),(5,true),(6,true),(7,true),(8,false),(9,true),(10,true),(11,true),(12,true),(13,true),(14,true)] (by kernel_rfl) (by kernel_rfl) ?_
   have hS:w6.drew.cell? ⟨w1.heap.size,0,none⟩=some (.int .i64 K)∧w6.drew.cell? ⟨w1.heap.size,1,none⟩=some (.int .i64 R')∧w6.drew.cell? ⟨w1.heap.size,2,none⟩=some (.slice a n c)∧w6.drew.cell? ⟨w3.heap.size,0,none⟩=some (.int .i64 N)∧w6.drew.cell? ti=some (.int .i64 pj):=hS6'.out
   refine pqY 95 hS ?_
   refine pqY 96 hS ?_
   refine pqY 97 hS ?_
   refine pqY 98 hS ?_
   refine pqY 99 hS ?_
   refine pqY 100 hS ?_
   refine pqY 101 hS ?_
   refine pqY 102 hS ?_
   refine headC rfl (fun KK hK=>?_)
   go_simp
   refine (hEdge.out a n c vj t w6.drew (hg5.out.below bI6.drew) (hT5.out.below bI6.drew) hvjl htl).mono ?_
   rintro e w7 ⟨x,y,z,rfl,b7,rfl,rfl,rfl⟩
   obtain ⟨X2,hX2⟩:∃ X,toN K N vj t=X:=⟨_,rfl⟩
   obtain ⟨O2,hO2⟩:∃ X,labN K T' vj t=X:=⟨_,rfl⟩
   rw [hX2,hO2]
   have b67:Below w6.heap.size w6 w7:=Below.trans ((Below.refl _ _).drew) b7
   have bo7:=Below.step bo6 b67
   have bI7:=bI.trans (bo7.mono bI.size)
   have hS7:w7.cell? ⟨w1.heap.size,0,none⟩=some (.int .i64 K)∧w7.cell? ⟨w1.heap.size,1,none⟩=some (.int .i64 R')∧w7.cell? ⟨w1.heap.size,2,none⟩=some (.slice a n c)∧w7.cell? ⟨w3.heap.size,0,none⟩=some (.int .i64 N)∧w7.cell? ti=some (.int .i64 pj):=⟨cell_keep b7 hS.1,cell_keep b7 hS.2.1,cell_keep b7 hS.2.2.1,cell_keep b7 hS.2.2.2.1,(b7.cell (World.block_lt_of_cell? _ _ hS.2.2.2.2)).trans hS.2.2.2.2⟩
   refine hK _ _ hS7 ?_
   clear hK KK
   refine pqY 94 hS7 ?_
   refine pqY 104 hS7 ?_
   refine pqY 105 hS7 ?_
   refine pqY 106 hS7 ?_
   refine pqY 21 hS7 ?_
   refine pqY 22 hS7 ?_
   refine head0 ?_
   simp only [List.drop_succ_cons,List.drop_zero]
   obtain ⟨k0,k1,k2,k3,k4⟩:=hS7
   clear hS hS6' cIo cJo k0 k1 k2 k4 cNo
   rw [hX1,hO1,hX2,hO2] at hstep
   replace hX1:=Hd hX1
   replace hX2:=Hd hX2
   replace hO1:=Hd hO1
   replace hO2:=Hd hO2
   go_wp2
   refine NoPanic.normal ?_
   by_cases e1:X1=u1
   ·have q1:((X1:Int) != (u1:Int))=false:=by rw [bne_eq_false_iff_eq]; omega
    by_cases e2:X2=v1
    ·have q2:((X2:Int) != (v1:Int))=false:=by rw [bne_eq_false_iff_eq]; omega
     by_cases e3:O1=O2
     ·have q3:(O1 != O2)=false:=by rw [bne_eq_false_iff_eq]; exact e3
      have hnow:=hstep.out.2 ⟨e1,e2,e3⟩
      have hr7:=hr.out.below bo7
      have hoa7:=hoa.out.below bo7
      have hB7:=bI7.size
      replace e1:=Hd e1
      replace e2:=Hd e2
      replace e3:=Hd e3
      replace hr7:=Hd hr7
      go_wp2_with (at_builtin; go_loud (refine wpl_append1 rfl _ _ rfl w5.heap.size av _ s hoa7 rfl rfl (by omega) hB7 ?_))
      intro av2 w8 ho8 b8 hgr8 hal8
      have hr8:=hr7.out.push hfa.out (s:Int) ho8 hgr8 hal8
      have hfb8:upd f2 (1,0) (some (rowI av2 (alongW K m (·/N) (ns.take (j+1))++[(s:Int)]))) (2,0)=some (rowI bv (alongW K m (·%N) (ns.take (j+1)))):=by rw [upd_ne _ _ (by simp)]; exact hfb.out
      have hob8:=hr8.ownI hfb8
      have hB8:w5.heap.size≤w8.heap.size:=Nat.le_trans hB7 b8.size
      obtain ⟨a2a,a2n,a2c,rfl⟩:=ho8.at.shape
      replace hr8:=Hd hr8
      replace ho8:=Hd ho8
      clear hgr8 hal8 hoa7
      go_wp2_with (at_builtin; go_loud (refine wpl_append1 rfl _ _ rfl w5.heap.size bv _ t hob8 rfl rfl (by omega) hB8 ?_))
      intro bv2 w9 ho9 b9 hgr9 hal9
      have hr9:=hr8.out.push hfb8 (t:Int) ho9 hgr9 hal9
      obtain ⟨b2a,b2n,b2c,rfl⟩:=ho9.at.shape
      replace hr9:=Hd hr9
      replace ho9:=Hd ho9
      replace hfb8:=Hd hfb8
      clear hgr9 hal9 hob8
      go_wp2
      go_roundw
      case measure=>have:=hjl2.out; simp [intOf]; omega
      case rel =>
       refine ⟨j+1,_,_,_,by have:=hjl2.out; omega,by go_num,rfl,rfl,hr9.out,bI7.trans (b8.trans b9),?_,?_,fun i hi=>?_⟩
       ·rw [upd_ne _ _ (by simp),upd_same,haS.out]
       ·rw [upd_same,hbS.out]
       ·by_cases e:i=j
        ·subst e; rw [hpj.out,hp.out]; exact hnow
        ·exact hfit.out i (by omega)
     ·have q3:(O1 != O2)=true:=by rw [bne_iff_ne]; exact e3
      have hnow:¬ AllFit K N T' ns:=fun hA=>by
       have:=hA j (by have:=hll.out; have:=hjl2.out; omega)
       rw [hpj.out,hp.out,hstep.out] at this
       exact e3 this.2.2
      replace hnow:=Hd hnow
      go_wp2_with fail
      refine (pairs_wrong r _ _ w7 (hg5.out.below bI7) (by decide) (by decide)).mono ?_
      rintro e w8 ⟨x,rfl,b8,he⟩
      replace he:=Hd he
      have bE:=Below.step (b05.trans (bI7.mono b05.size)) b8
      go_wp2
      go_ret3
      exact ⟨_,_,_,rfl,bE,.inr ⟨hnow.out,rfl,rfl,he.out⟩⟩
    ·have q2:((X2:Int) != (v1:Int))=true:=by rw [bne_iff_ne]; omega
     have hnow:¬ AllFit K N T' ns:=fun hA=>by
      have:=hA j (by have:=hll.out; have:=hjl2.out; omega)
      rw [hpj.out,hp.out,hstep.out] at this
      exact e2 this.2.1
     replace hnow:=Hd hnow
     go_wp2_with fail
     refine (pairs_wrong r _ _ w7 (hg5.out.below bI7) (by decide) (by decide)).mono ?_
     rintro e w8 ⟨x,rfl,b8,he⟩
     replace he:=Hd he
     have bE:=Below.step (b05.trans (bI7.mono b05.size)) b8
     go_wp2
     go_ret3
     exact ⟨_,_,_,rfl,bE,.inr ⟨hnow.out,rfl,rfl,he.out⟩⟩
   ·have q1:((X1:Int) != (u1:Int))=true:=by rw [bne_iff_ne]; omega
    have hnow:¬ AllFit K N T' ns:=fun hA=>by
     have:=hA j (by have:=hll.out; have:=hjl2.out; omega)
     rw [hpj.out,hp.out,hstep.out] at this
     exact e1 this.1
    replace hnow:=Hd hnow
    go_wp2_with fail
    refine (pairs_wrong r _ _ w7 (hg5.out.below bI7) (by decide) (by decide)).mono ?_
    rintro e w8 ⟨x,rfl,b8,he⟩
    replace he:=Hd he
    have bE:=Below.step (b05.trans (bI7.mono b05.size)) b8
    go_wp2
    go_ret3
    exact ⟨_,_,_,rfl,bE,.inr ⟨hnow.out,rfl,rfl,he.out⟩⟩
  ·obtain rfl:j=L1:=by omega
   have hall:ns.take (j+1)=ns:=List.take_of_length_le (by have:=hL1.out; omega)
   rw [hall] at hfa hfb
   have hoa:=hr.ownI hfa
   have hob:=hr.ownI hfb
   have hdis:=hr.2 (1,0) (2,0) _ _ hfa hfb (by simp)
   have hAll:AllFit K N T' ns:=fun i hi=>hfit i (by have:=hL1.out; omega)
   have hoa':=hoa.mono (B':=w.heap.size) b05.size
   have hob':=hob.mono (B':=w.heap.size) b05.size
   obtain ⟨a2a,a2n,a2c,rfl⟩:=hoa.at.shape
   obtain ⟨b2a,b2n,b2c,rfl⟩:=hob.at.shape
   replace hr:=Hd hr
   replace hfa:=Hd hfa
   replace hfb:=Hd hfb
   replace hoa:=Hd hoa
   replace hob:=Hd hob
   replace hoa':=Hd hoa'
   replace hob':=Hd hob'
   replace hdis:=Hd hdis
   replace hAll:=Hd hAll
   replace hfit:=Hd hfit
   go_wp2
   go_ret3
   exact ⟨_,_,_,rfl,b0o,.inl ⟨hAll.out,rfl,hoa'.out,hob'.out,hdis.out⟩⟩
end Go.Proofs.YtkaoebokbfcmhaaGreatDoor
namespace Go.Proofs.YtkaoebokbfcmhaaGreatDoor
open Go.RowKit
def Ret4 (Φ:Value→Value→Value→Value→World→Prop) (w:World) (e:Ending) (w':World):Prop:=∃ x y z u,e=.returned (.tuple #[x,y,z,u])∧Below w.heap.size w w'∧Φ x y z u w'
theorem results_tmp4 {fn:Func} {t u v x:Tmp} (h:fn.results=#[.tmp t,.tmp u,.tmp v,.tmp x]) (tmps:Array Value) (P:Program) (w:World) :
 (results fn tmps).run P w=.ok (.tuple #[tmps.getD t undef,tmps.getD u undef,tmps.getD v undef,tmps.getD x undef]) w:=by
 simp [results,h]
set_option maxRecDepth 100000
set_option maxHeartbeats 8000000
def FinPost (w:World) (K R:Nat) (T:List Int) (yes a b e:Value) (w':World):Prop :=
 e=.nilIface∧((yes=.bool true∧a=.slice none 0 0∧b=.slice none 0 0∧∀ x y,¬ IsTwins K R T x y) ∨
 (yes=.bool false∧∃ x y,FinIs K R T x y∧IsTwins K R T x y∧TwinLen K R T x.length∧x.length≤20010∧OwnI w.heap.size w' a x∧OwnI w.heap.size w' b y∧(a.ownBlock=none∨a.ownBlock≠b.ownBlock)))
theorem finite_zero (r:Nat→Addr) (K:Nat) (va:Option Addr) (vn vc:Nat) (T:List Int) (w:World) (hg:Glob r w) (h:IntsAt w (.slice va vn vc) T) (hr:RuleOk K 0 T) (hl:T.length≤256) :
 Calls Tryz.prog 67 #[.agg #[.int .i64 K,.int .i64 ((0:Nat):Int),.slice va vn vc]] w (Ret4 (FinPost w K 0 T) w):=by
 have b0:=belowAlloc w (.cells #[.int .i64 K,.int .i64 ((0:Nat):Int),.slice va vn vc] 24)
 have q:Box3 (w.alloc (.cells #[.int .i64 K,.int .i64 ((0:Nat):Int),.slice va vn vc] 24)) w.heap.size (.int .i64 K) (.int .i64 ((0:Nat):Int)) (.slice va vn vc):=by simp [Box3,go_sem]
 have hTK:T.length=K:=by rw [hr.len]; simp [pw]
 have hgraph:=fun (w':World) (hgl:Glob r w') (hT:IntsAt w' (.slice va vn vc) T)=>pgraph_ok r K 0 va vn vc T w' hgl hT hr hl
 replace hgraph:=Hd hgraph
 replace hTK:=Hd hTK
 replace hg:=Hd (hg.below b0)
 replace h:=Hd (h.below b0)
 replace hr:=Hd hr
 go_enter Tryz.func67,Tryz.ntmps67
 go_wp2_with fail
 refine (hgraph.out _ hg.out h.out).mono ?_
 rintro e w1 ⟨gv,y,rfl,b1,rfl,-⟩
 obtain ⟨⟨z0,z1,z2⟩,-,-,-⟩:=q.below b1
 have b01:=Below.step b0 b1
 have hs:=b01.size
 go_wp2_with fail
 refine (single_any K ((0:Nat):Int) va vn vc T w1 (h.out.below b1)).mono ?_
 rintro e w2 ⟨x,y,rfl,b2,hp⟩
 have b02:=Below.step b01 b2
 rcases hp with ⟨a,b,hsi,hoa,hob,hd⟩ | ⟨rfl,rfl,hno⟩
 ·have lx:=hoa.at.len
  obtain ⟨x1,x2,x3,rfl⟩:=hoa.at.shape
  obtain ⟨y1,y2,y3,rfl⟩:=hob.at.shape
  have htw:=hsi.twins hTK.out
  have htl:TwinLen K 0 T [(a:Int)].length:=⟨⟨_,_,htw,rfl⟩,fun c d hcd=>twins_pos hcd⟩
  replace hsi:=Hd hsi
  replace hoa:=Hd hoa
  replace hob:=Hd hob
  replace hd:=Hd hd
  replace htw:=Hd htw
  replace htl:=Hd htl
  clear z0 z1 z2
  go_wp2
  (try simp only [Exit.inBlock,Exit.then])
  refine bodyPost_ret (results_tmp4 rfl _ _ _) rfl ?_
  exact ⟨_,_,_,_,rfl,b02,rfl,.inr ⟨rfl,_,_,.inl ⟨rfl,a,b,hsi.out,rfl,rfl⟩,htw.out,htl.out,by simp,hoa.out.mono hs,hob.out.mono hs,hd.out⟩⟩
 ·have hn:=no_single (K:=K) hTK.out hno
  replace hn:=Hd hn
  clear hno z0 z1 z2
  go_wp2
  (try simp only [Exit.inBlock,Exit.then])
  refine bodyPost_ret (results_tmp4 rfl _ _ _) rfl ?_
  exact ⟨_,_,_,_,rfl,b02,rfl,.inl ⟨rfl,rfl,rfl,hn.out⟩⟩
theorem finite_pos (r:Nat→Addr) (K R:Nat) (va:Option Addr) (vn vc:Nat) (T:List Int) (w:World) (hg:Glob r w) (h:IntsAt w (.slice va vn vc) T) (hr:RuleOk K R T) (hl:T.length≤256) (hR:1≤R) :
 Calls Tryz.prog 67 #[.agg #[.int .i64 K,.int .i64 R,.slice va vn vc]] w (Ret4 (FinPost w K R T) w):=by
 have b0:=belowAlloc w (.cells #[.int .i64 K,.int .i64 R,.slice va vn vc] 24)
 have q:Box3 (w.alloc (.cells #[.int .i64 K,.int .i64 R,.slice va vn vc] 24)) w.heap.size (.int .i64 K) (.int .i64 R) (.slice va vn vc):=by simp [Box3,go_sem]
 have hk1:=hr.k1
 have hk4:=hr.k4
 have hR3:=hr.r3
 have hN81:=nodes_le hr hR hl
 have hN1:=pw_pos (K:=K) (2*R) hk1
 have hwR:wkR R=R:=if_neg (by omega)
 have hwT:wkT K R T=T:=if_neg (by omega)
 have hgraph:=fun (w':World) (hgl:Glob r w') (hT:IntsAt w' (.slice va vn vc) T)=>pgraph_ok r K R va vn vc T w' hgl hT hr hl
 have hwords:=fun (u:Value) (ns:List Nat) (w':World) (hgl:Glob r w') (hT:IntsAt w' (.slice va vn vc) T)=>pwords_way r K R va vn vc T u ns w' hgl hT hr hl
 rw [hwR,hwT] at hgraph hwords
 have hmeet:=fun (ga:Option Addr) (gc:Nat) (w':World)=>meet_any K (pw K (2*R)) T ga gc w' hk4 hN1 hN81
 have hR0:((R:Int)==0)=false:=by rw [beq_eq_false_iff_ne]; omega
 have hR1:¬ (R:Int)=0:=by omega
 have hR2:¬ R=0:=by omega
 have hR22:=Hd hR2
 have hRR:=Hd hR
 replace hgraph:=Hd hgraph
 replace hwords:=Hd hwords
 replace hmeet:=Hd hmeet
 replace hg:=Hd (hg.below b0)
 replace h:=Hd (h.below b0)
 replace hr:=Hd hr
 clear hwR hwT
 go_enter Tryz.func67,Tryz.ntmps67
 go_wp2_with fail
 refine (hgraph.out _ hg.out h.out).mono ?_
 rintro e w1 ⟨gv,y,rfl,b1,rfl,f,vals,hrows,hwn⟩
 have hL:ListsAt w1 gv (pairG K (pw K (2*R)) T):=hwn.lists hrows
 obtain ⟨ga,gc,rfl⟩:=hL.shape
 obtain ⟨⟨z0,z1,z2⟩,-,-,-⟩:=q.below b1
 have b01:=Below.step b0 b1
 replace hL:=Hd hL
 clear hrows hwn
 go_wp2_with fail
 refine (hmeet.out ga gc w1 hL.out).mono ?_
 rintro e w2 ⟨mv,rfl,b2,hp⟩
 have b12:=Below.step b1 b2
 have b02:=Below.step b01 b2
 clear z0 z1 z2
 obtain ⟨⟨z0,z1,z2⟩,-,-,-⟩:=q.below b12
 rcases hp with ⟨ws,hmi,haw,hmin,hws,how⟩ | ⟨rfl,hno⟩
 ·have hw3:=haw.len
  have hlow:∀ p∈ws,p<pw K (2*R)*pw K (2*R):=fun p hp=>by
   obtain ⟨i,hi,rfl⟩:=List.mem_iff_getElem.1 hp
   have:=haw.low i hi
   simpa [List.getD,hi] using this
  have hne:ws≠[]:=by intro e; rw [e] at hw3; simp at hw3
  have hfit:AllFit K (pw K (2*R)) T ws:=fun i hi=>(fits_iff hk1 hR (haw.low _ hi)).2 ((mem_pairL (by omega)).1 (haw.arr i hi))
  have htw:=haw.twins hk1 hR
  have htl:=way_twinLen hk1 hR haw hmin
  have lm:=how.at.len
  rw [castI_len] at lm
  have hln:(((ws.length:Nat):Int)==0)=false:=by rw [beq_eq_false_iff_ne]; omega
  have hln2:¬ ((ws.length:Nat):Int)=0:=by omega
  have hln3:¬ ws.length=0:=by omega
  obtain ⟨m1,m2,m3,rfl⟩:=how.at.shape
  replace hmi:=Hd hmi
  replace haw:=Hd haw
  replace hlow:=Hd hlow
  replace hne:=Hd hne
  replace hfit:=Hd hfit
  replace htw:=Hd htw
  replace htl:=Hd htl
  replace how:=Hd how
  have hws2:=Hd hws
  clear hmin
  go_wp2_with fail
  refine (hwords.out _ ws w2 (hg.out.below b12) (h.out.below b12) how.out.at hne.out hlow.out (by have:=hws2.out; omega)).mono ?_
  rintro e w3 ⟨x,y,z,rfl,b3,hpo⟩
  rcases hpo with ⟨_,rfl,hox,hoy,hd⟩ | ⟨hnf,_⟩
  ·obtain ⟨x1,x2,x3,rfl⟩:=hox.at.shape
   obtain ⟨y1,y2,y3,rfl⟩:=hoy.at.shape
   have hs:=b02.size
   replace hox:=Hd hox
   replace hoy:=Hd hoy
   replace hd:=Hd hd
   clear z0 z1 z2
   go_wp2
   (try simp only [Exit.inBlock,Exit.then])
   refine bodyPost_ret (results_tmp4 rfl _ _ _) rfl ?_
   refine ⟨_,_,_,_,rfl,Below.step b02 b3,rfl,.inr ⟨rfl,_,_,.inr ⟨hR22.out,ws,hmi.out,rfl,rfl⟩,htw.out,?_,?_,hox.out.mono hs,hoy.out.mono hs,hd.out⟩⟩
   ·rw [alongW_len]; exact htl.out
   ·rw [alongW_len]; have:=hws2.out; omega
  ·exact absurd hfit.out hnf
 ·have hn:=no_twins (K:=K) (R:=R) (T:=T) hk1 hR hno
  replace hn:=Hd hn
  clear hno z0 z1 z2
  go_wp2
  (try simp only [Exit.inBlock,Exit.then])
  refine bodyPost_ret (results_tmp4 rfl _ _ _) rfl ?_
  exact ⟨_,_,_,_,rfl,b02,rfl,.inl ⟨rfl,rfl,rfl,hn.out⟩⟩
theorem finite_ok (r:Nat→Addr) (K R:Nat) (va:Option Addr) (vn vc:Nat) (T:List Int) (w:World) (hg:Glob r w) (h:IntsAt w (.slice va vn vc) T) (hr:RuleOk K R T) (hl:T.length≤256) :
 Calls Tryz.prog 67 #[.agg #[.int .i64 K,.int .i64 R,.slice va vn vc]] w (Ret4 (FinPost w K R T) w):=by
 by_cases e:R=0
 ·subst e; exact finite_zero r K va vn vc T w hg h hr hl
 ·exact finite_pos r K R va vn vc T w hg h hr hl (by omega)
end Go.Proofs.YtkaoebokbfcmhaaGreatDoor
namespace Go.Proofs.YtkaoebokbfcmhaaGreatDoor
open Go.RowKit
set_option maxRecDepth 100000
theorem eca_ok (n:Nat):RuleOk 2 1 (ecaT n):=by
 refine ⟨by decide,by decide,by decide,?_,?_⟩
 ·simp [ecaT,pw]
 ·intro x hx
  simp only [ecaT,List.mem_map] at hx
  obtain ⟨i,_,rfl⟩:=hx
  have:=Nat.and_le_right (n:=n >>> i) (m:=1)
  constructor<;>omega
theorem eca_len (n:Nat):(ecaT n).length=8:=by simp [ecaT]
theorem on90:∃ a b,subR 2 (pw 2 (2*1)) (ecaT 90)=.on a b:=by
 have h:(match subR 2 (pw 2 (2*1)) (ecaT 90) with | .on _ _=>true | _=>false)=true:=by decide +kernel
 cases hh:subR 2 (pw 2 (2*1)) (ecaT 90) with
 | on a b=>exact ⟨a,b,rfl⟩
 | orphan w=>rw [hh] at h; cases h
 | big=>rw [hh] at h; cases h
theorem on110:∃ w,subR 2 (pw 2 (2*1)) (ecaT 110)=.orphan w∧w.length=5:=by
 have h:(match subR 2 (pw 2 (2*1)) (ecaT 110) with | .orphan w=>decide (w.length=5) | _=>false)=true:=by decide +kernel
 cases hh:subR 2 (pw 2 (2*1)) (ecaT 110) with
 | on a b=>rw [hh] at h; cases h
 | orphan w=>rw [hh] at h; exact ⟨w,rfl,of_decide_eq_true h⟩
 | big=>rw [hh] at h; cases h
theorem no_twins90:∀ x y,¬ IsTwins 2 1 (ecaT 90) x y:=by
 obtain ⟨a,b,h⟩:=on90
 exact sub_on_twins (eca_ok 90) h
theorem twins0:TwinLen 2 1 (ecaT 0) 5:=by
 refine ⟨⟨[0,0,0,0,0],[0,0,1,0,0],⟨?_,?_,rfl,by decide,by decide,rfl,rfl,by decide +kernel⟩,rfl⟩,fun a b h=>h.long⟩ <;>
 ·intro x hx
  simp at hx
  omega
theorem fin90 {w w':World} {y a b e:Value} (h:FinPost w 2 1 (ecaT 90) y a b e w'):e=.nilIface∧y=.bool true∧a=.slice none 0 0∧b=.slice none 0 0:=by
 obtain ⟨rfl,⟨rfl,rfl,rfl,_⟩ | ⟨_,x,z,_,t,_⟩⟩:=h
 ·exact ⟨rfl,rfl,rfl,rfl⟩
 ·exact absurd t (no_twins90 x z)
theorem fin0 {w w':World} {y a b e:Value} (h:FinPost w 2 1 (ecaT 0) y a b e w'):e=.nilIface∧y=.bool false∧(∃ x,IntsAt w' a x∧x.length=5)∧∃ u m c,b=.slice u m c:=by
 obtain ⟨rfl,⟨_,_,_,hn⟩ | ⟨rfl,x,z,_,t,hl,_,ha,hb,_⟩⟩:=h
 ·obtain ⟨⟨c,d,t,_⟩,_⟩:=twins0
  exact absurd t (hn c d)
 ·exact ⟨rfl,rfl,⟨x,ha.at,hl.unique twins0⟩,hb.at.shape⟩
theorem pre110a:preN 2 1 (ecaT 110) [0]=3:=by decide +kernel
theorem pre110b:preN 2 1 (ecaT 110) [0,1,0,1,0]=0:=by decide +kernel
theorem nats_len (v u:Value) (xs ys:List Nat) (w:World) (h:LimbsAt w v xs) (k:LimbsAt w u ys) (hne:xs.length≠ys.length) :
 Calls Tryz.prog 13 #[v,u] w (RetB false w):=by
 have h1:=fun w=>h.len w
 have h2:=fun w=>k.len w
 have hd:((xs.length:Int) != (ys.length:Int))=true:=by simp; omega
 clear h k hne
 go_enter Tryz.func13,Tryz.ntmps13
 go_wp2
 go_ret
 exact ⟨0,rfl,rfl⟩
theorem nats_any (v u:Value) (xs ys:List Nat) (w:World) (h:LimbsAt w v xs) (k:LimbsAt w u ys) :
 Calls Tryz.prog 13 #[v,u] w (RetB (decide (xs=ys)) w):=by
 by_cases hl:xs.length=ys.length
 case neg =>
  rw [show decide (xs=ys)=false by simp; intro e; exact hl (by rw [e])]
  exact nats_len v u xs ys w h k hl
 have h1:=fun w=>h.len w
 have h2:=fun w=>k.len w
 have hm:=h.len_le
 have hd:((xs.length:Int) != (ys.length:Int))=false:=by simp; omega
 have hl':=Hd hl
 have hlt':xs.length≤ys.length:=by omega
 clear hl
 go_enter Tryz.func13,Tryz.ntmps13
 go_wp2
 go_loopw [5] (fun i wr=>(∃ j:Nat,j≤xs.length∧i=.int .i64 j∧∀ t (h1:t<xs.length) (h2:t<ys.length),t<j→xs[t]=ys[t])∧∃ n,wr=w.drewN n) (fun i _=>xs.length-(intOf i).toNat)
 case atStart=>exact ⟨⟨0,by omega,rfl,by intro t _ _ h; omega⟩,0,rfl⟩
 case round =>
  obtain ⟨⟨j,hj,rfl,hp⟩,n,rfl⟩:=hrel
  replace hp:=Hd hp
  by_cases hlt:j<xs.length
  ·have i1:=h.idx j hlt
   have i2:=k.idx j (by omega)
   have c1:w.cell? (valAt v j)=some (.int .u32 ((xs[j]:Nat):Int)):=by have:=h.cell j hlt; rwa [show xs.getD j 0=xs[j] by simp [List.getD,hlt]] at this
   have hlt2:j<ys.length:=by omega
   have c2:w.cell? (valAt u j)=some (.int .u32 ((ys[j]:Nat):Int)):=by have:=k.cell j hlt2; rwa [show ys.getD j 0=ys[j] by simp [List.getD,hlt2]] at this
   clear h k
   by_cases he:xs[j]=ys[j]
   ·have hq:(((xs[j]:Nat):Int) != ((ys[j]:Nat):Int))=false:=by simp [he]
    have hE:=Hd he
    clear he
    generalize hx:xs[j]=x at c1 hq
    generalize hy:ys[j]=y at c2 hq
    clear hx hy
    go_wp2
    go_quiet (fail)
    go_wp2
    go_roundw
    case rel =>
     refine ⟨⟨j+1,by omega,by go_num,?_⟩,_,rfl⟩
     intro t h1 h2 ht
     by_cases e:t=j
     ·subst e; exact hE.out
     ·exact hp.out t h1 h2 (by omega)
    case measure=>simp [intOf]; omega
   ·have hq:(((xs[j]:Nat):Int) != ((ys[j]:Nat):Int))=true:=by simp; omega
    have hE:=Hd he
    clear he
    generalize hx:xs[j]=x at c1 hq
    generalize hy:ys[j]=y at c2 hq
    clear hx hy
    go_wp2
    go_quiet (fail)
    go_wp2
    go_ret
    refine ⟨_,ret_bool ?_,World.drewN_drewN ..⟩
    symm
    rw [decide_eq_false_iff_not]
    intro e
    exact hE.out (by subst e; rfl)
  ·go_wp2
   go_ret
   refine ⟨_,ret_bool ?_,rfl⟩
   symm
   rw [decide_eq_true_iff]
   exact List.ext_getElem hl'.out fun t h1 h2=>hp.out t h1 h2 (by omega)
theorem nats_num (v u:Value) (a b:Nat) (w:World) (h:NumAt w v a) (k:NumAt w u b) :
 Calls Tryz.prog 13 #[v,u] w (RetB (decide (a=b)) w):=by
 obtain ⟨l,h1,h2,h3,h4⟩:=h
 obtain ⟨m,k1,k2,k3,k4⟩:=k
 have e:decide (a=b)=decide (l=m):=by
  by_cases hh:l=m
  ·rw [decide_eq_true hh,decide_eq_true (by rw [← h4,← k4,hh])]
  ·rw [decide_eq_false hh,decide_eq_false (fun q=>hh (norm_unique h2 k2 h3 k3 (by rw [h4,k4,q])))]
 rw [e]
 exact nats_any v u l m w h1 k1
theorem decides_any (r:Nat→Addr) (w:World) (hg:Glob r w) (hG:GlobE w) :
 Calls Tryz.prog 33 #[] w (Ret1 (fun x _=>x=.bool true) w):=by
 replace hg:=Hd hg
 replace hG:=Hd hG
 go_enter Tryz.func33,Tryz.ntmps33
 go_upto_region 1 with fail
 go_wp2_with fail
 refine (eca_any 90 (by decide) w).mono ?_
 rintro e w1 ⟨_,rfl,b1,a1,c1,rfl,h1⟩
 have h1':=h1.at
 replace h1':=Hd h1'
 clear h1
 have B1:=b1
 go_wp2_with fail
 refine (sub_onto r 2 1 a1 8 c1 (ecaT 90) w1 (hg.out.below B1) (hG.out.below B1) h1'.out (eca_ok 90) (by rw [eca_len]; decide)).mono ?_
 rintro e w2 ⟨x2,y2,z2,rfl,b2,hp⟩
 obtain ⟨sa,sb,hs⟩:=on90
 rw [hs] at hp
 obtain ⟨rfl,rfl,rfl⟩:=hp
 clear hs
 replace B1:=Hd (Below.step B1 b2)
 clear b1 b2
 go_wp2_with fail
 refine (eca_any 110 (by decide) w2).mono ?_
 rintro e w3 ⟨_,rfl,b3,a3,c3,rfl,h3⟩
 have h3':=h3.at
 replace h3':=Hd h3'
 clear h3
 replace B1:=Hd (Below.step B1.out b3)
 clear b3
 go_wp2_with fail
 refine (sub_onto r 2 1 a3 8 c3 (ecaT 110) w3 (hg.out.below B1.out) (hG.out.below B1.out) h3'.out (eca_ok 110) (by rw [eca_len]; decide)).mono ?_
 rintro e w4 ⟨x4,y4,z4,rfl,b4,hp⟩
 obtain ⟨ow,hs,ho⟩:=on110
 rw [hs] at hp
 obtain ⟨rfl,rfl,hO⟩:=hp
 obtain ⟨oa,on,oc,rfl⟩:=hO.at.shape
 have lo:=hO.at.len
 rw [ho] at lo
 replace B1:=Hd (Below.step B1.out b4)
 clear hs b4 hO
 go_wp2_with fail
 refine (eca_any 90 (by decide) w4).mono ?_
 rintro e w5 ⟨_,rfl,b5,a5,c5,rfl,h5⟩
 have h5':=h5.at
 replace h5':=Hd h5'
 clear h5
 replace B1:=Hd (Below.step B1.out b5)
 clear b5
 go_wp2_with fail
 refine (finite_ok r 2 1 a5 8 c5 (ecaT 90) w5 (hg.out.below B1.out) h5'.out (eca_ok 90) (by rw [eca_len]; decide)).mono ?_
 rintro e w6 ⟨x6,y6,z6,u6,rfl,b6,hp⟩
 obtain ⟨rfl,rfl,rfl,rfl⟩:=fin90 hp
 replace B1:=Hd (Below.step B1.out b6)
 clear b6 hp
 go_wp2_with fail
 refine (eca_any 0 (by decide) w6).mono ?_
 rintro e w7 ⟨_,rfl,b7,a7,c7,rfl,h7⟩
 have h7':=h7.at
 replace h7':=Hd h7'
 clear h7
 replace B1:=Hd (Below.step B1.out b7)
 clear b7
 go_wp2_with fail
 refine (finite_ok r 2 1 a7 8 c7 (ecaT 0) w7 (hg.out.below B1.out) h7'.out (eca_ok 0) (by rw [eca_len]; decide)).mono ?_
 rintro e w8 ⟨x8,y8,z8,u8,rfl,b8,hp⟩
 obtain ⟨rfl,rfl,⟨xs,hx,lx⟩,pu,pm,pc,rfl⟩:=fin0 hp
 obtain ⟨qa,qn,qc,rfl⟩:=hx.shape
 have lq:=hx.len
 rw [lx] at lq
 have BE:=Hd (Below.step B1.out b8)
 clear b8 hp hx B1
 go_wp2
 go_ret
 exact ⟨_,rfl,BE.out,rfl⟩
theorem counts_any (r:Nat→Addr) (w:World) (hg:Glob r w) (hG:GlobE w) :
 Calls Tryz.prog 7 #[] w (Ret1 (fun x _=>x=.bool true) w):=by
 replace hg:=Hd hg
 replace hG:=Hd hG
 go_enter Tryz.func7,Tryz.ntmps7
 go_upto_region 1 with fail
 go_wp2_with fail
 refine (eca_any 110 (by decide) w).mono ?_
 rintro e w1 ⟨_,rfl,b1,a1,c1,rfl,h1⟩
 have h1':=h1.at
 have bl:=belowAlloc w1 (.cells #[.int .i64 0] 3)
 have hl:=(OwnI.lit w1.heap.size w1 (Nat.le_refl _) [0] (by simp [maxLen]) #[.int .i64 0] rfl 1 rfl).at
 replace h1':=Hd (h1'.below bl)
 replace hl:=Hd hl
 replace b1:=Hd (Below.step b1 bl)
 clear h1 bl
 go_wp2_with fail
 refine (count_Words_any r 2 1 a1 8 c1 (ecaT 110) _ [0] _ (hg.out.below b1.out) h1'.out hl.out (eca_ok 110) (by rw [eca_len]; decide)).mono ?_
 rintro e w2 ⟨x2,y2,rfl,b2,hy,hx,-⟩
 have hs1:symP ((2:Nat):Int) [0] 256=none:=by decide +kernel
 rw [hs1] at hy
 obtain rfl:=hy.none_eq
 have hn2:=hx hs1
 rw [pre110a] at hn2
 obtain ⟨a2,m2,c2,rfl⟩:=hn2.shape
 replace b1:=Hd (Below.step b1.out b2)
 replace hn2:=Hd hn2
 clear b2 hx hy hs1 hl
 go_wp2_with fail
 refine (eca_any 110 (by decide) w2).mono ?_
 rintro e w3 ⟨_,rfl,b3,a3,c3,rfl,h3⟩
 have h3':=h3.at
 have bl:=belowAlloc w3 (.cells #[.int .i64 0,.int .i64 1,.int .i64 0,.int .i64 1,.int .i64 0] 3)
 have hl:=(OwnI.lit w3.heap.size w3 (Nat.le_refl _) [0,1,0,1,0] (by simp [maxLen]) #[.int .i64 0,.int .i64 1,.int .i64 0,.int .i64 1,.int .i64 0] rfl 5 rfl).at
 have B3:=Below.step b3 bl
 replace h3':=Hd (h3'.below bl)
 replace hl:=Hd hl
 replace hn2:=Hd (hn2.out.below B3)
 replace b1:=Hd (Below.step b1.out B3)
 clear h3 bl b3 B3
 go_wp2_with fail
 refine (count_Words_any r 2 1 a3 8 c3 (ecaT 110) _ [0,1,0,1,0] _ (hg.out.below b1.out) h3'.out hl.out (eca_ok 110) (by rw [eca_len]; decide)).mono ?_
 rintro e w4 ⟨x4,y4,rfl,b4,hy,hx,-⟩
 have hs1:symP ((2:Nat):Int) [0,1,0,1,0] 256=none:=by decide +kernel
 rw [hs1] at hy
 obtain rfl:=hy.none_eq
 have hn4:=hx hs1
 rw [pre110b] at hn4
 obtain ⟨l4,k1,k2,k3,k4⟩:=hn4
 obtain rfl:l4=[]:=by
  apply Classical.byContradiction
  intro hne
  have h1:=limbs_low k3 hne
  have h2:0<4294967296 ^ (l4.length-1):=Nat.pow_pos (by decide)
  omega
 obtain ⟨a4,m4,c4,rfl⟩:=k1.shape
 have l4:=fun w=>k1.len w
 replace hn2:=Hd (hn2.out.below b4)
 replace b1:=Hd (Below.step b1.out b4)
 clear b4 hx hy hs1 hl k1 k2 k3 k4
 go_wp2_with fail
 refine (decides_any r w4 (hg.out.below b1.out) (hG.out.below b1.out)).mono ?_
 rintro e w5 ⟨_,rfl,b5,rfl⟩
 have bl:=belowAlloc w5 (.cells #[.int .u32 3] 82)
 have hl:NumAt (w5.alloc (.cells #[.int .u32 3] 82)) (.slice (some ⟨w5.heap.size,0,none⟩) 1 1) 3:=⟨[3],OwnV.at (OwnV.lit (E:=82) w5.heap.size w5 (Nat.le_refl _) (.int .u32 3)),by intro x hx; simp at hx; omega,by intro h; simp,by decide⟩
 replace hl:=Hd hl
 have B5:=Below.step b5 bl
 replace hn2:=Hd (hn2.out.below B5)
 replace b1:=Hd (Below.step b1.out B5)
 clear b5 bl B5
 go_wp2_with fail
 refine (nats_num _ _ 3 3 _ hn2.out hl.out).mono ?_
 rintro e w6 ⟨nq,rfl,rfl⟩
 have BE:=Hd (below_drewN b1.out nq)
 clear b1
 go_wp2
 go_ret
 exact ⟨_,rfl,BE.out,rfl⟩
theorem sum_allLe {M:Nat}:∀ {l:List Nat},(∀ x∈l,x≤M)→l.sum≤l.length*M
 | [],_=>by simp
 | x::l,h=>by
  have h1:=h x (List.mem_cons_self ..)
  have h2:=sum_allLe (l:=l) fun y hy=>h y (List.mem_cons_of_mem _ hy)
  rw [List.sum_cons,List.length_cons,Nat.add_mul]; omega
theorem AllLe.mem {l:List Nat} {M:Nat} (h:AllLe l M):∀ x∈l,x≤M:=fun x hx=>by
 obtain ⟨i,hi,rfl⟩:=List.getElem_of_mem hx
 have:=h i
 rwa [List.getD_eq_getElem?_getD,List.getElem?_eq_getElem hi] at this
theorem four_mul {a b e:Nat} (h:a+b≤e):4 ^ a*4 ^ b≤4 ^ e:=by
 rw [← Nat.pow_add]; exact Nat.pow_le_pow_right (by decide) h
theorem preN_le {K R:Nat} {T ws:List Int} (hr:RuleOk K R T) (hl:T.length≤256) (hw:ws.length≤256):preN K R T ws≤4 ^ eW:=by
 rw [preN_way hr.k1,← wayE_one]
 have hN:pw K (2*R)≤4 ^ 4:=by
  have h1:=hr.len
  have h2:pw K (2*R)≤pw K (2*R+1):=pw_mono hr.k1 (by omega)
  omega
 have h0:=way_le (K:=K) (N:=pw K (2*R)) (T:=T) hr.k1 (ones_le (pw K (2*R))) ws
 have h1:=sum_allLe (AllLe.mem h0)
 rw [wayE_len (by simp)] at h1
 refine Nat.le_trans h1 (Nat.le_trans (Nat.mul_le_mul hN (four_le hr.k4 (e:=256) hw)) (four_mul (by unfold eW; omega)))
theorem over_sym {K R:Nat} {T ws:List Int} (h:smallP K R T=none):overP K R T ws 256=none↔symP K ws 256=none:=by
 unfold overP symP
 rw [h]
 simp only
 by_cases h1:(256:Int)<ws.length
 ·have h2:256<ws.length:=by omega
  rw [if_pos h1,if_pos h2]
  unfold fresh
  simp
 ·have h2:¬ 256<ws.length:=by omega
  rw [if_neg h1,if_neg h2]
  rcases idxOf_cases (odd1 K) ws with ⟨e,_⟩ | ⟨k,e,_⟩
  ·rw [e]; simp
  ·rw [e,if_neg (by omega),if_pos (by omega)]
   unfold fresh
   simp
theorem compose_len {K Q Q':Nat} {T T':List Int}:(behindT K Q T Q' T').length=pw K (2*(Q+Q')+1):=by simp [behindT]
def sumB (K Q':Nat) (T':List Int) (LS:List (List Int)) (i:Nat):Nat:=((LS.take i).map fun v=>preN K Q' T' v).sum
theorem sumB_zero (K Q':Nat) (T':List Int) (LS:List (List Int)):sumB K Q' T' LS 0=0:=by simp [sumB]
theorem sumB_succ {K Q':Nat} {T':List Int} {LS:List (List Int)} {i:Nat} (h:i<LS.length):sumB K Q' T' LS (i+1)=sumB K Q' T' LS i+preN K Q' T' (LS.getD i []):=by
 unfold sumB
 rw [List.take_add_one,List.map_append,List.sum_append]
 congr 1
 simp [List.getD,h]
theorem sumB_le {K Q':Nat} {T':List Int} {LS:List (List Int)} (hr:RuleOk K Q' T') (hl:T'.length≤256) (hw:∀ v∈LS,v.length≤256) (h:LS.length≤256) (i:Nat):sumB K Q' T' LS i≤4 ^ eB:=by
 have h1:=sum_allLe (l:=(LS.take i).map fun v=>preN K Q' T' v) (M:=4 ^ eW) fun x hx=>by
  obtain ⟨v,hv,rfl⟩:=List.mem_map.1 hx
  exact preN_le hr hl (hw v (List.mem_of_mem_take hv))
 have h2:((LS.take i).map fun v=>preN K Q' T' v).length≤4 ^ 4:=by
  rw [List.length_map,List.length_take]
  have:(4:Nat) ^ 4=256:=by decide
  omega
 refine Nat.le_trans h1 (Nat.le_trans (Nat.mul_le_mul_right _ h2) (four_mul (by unfold eW eB; omega)))
end Go.Proofs.YtkaoebokbfcmhaaGreatDoor
namespace Go.Proofs.YtkaoebokbfcmhaaGreatDoor
open Go.RowKit
structure DN (f:Names) (d:Nat) (hd:List Value) (A:Value) (az:List Value) (L N most:Nat) (M:Nat→List Bool) (lv:Value) (ls:List Value) (LS:List (List Int)) (more:Bool):Prop where
 box:f (0,0)=some ⟨90,8,.slice (some ⟨d,0,none⟩) 1 1,1,hd++[lv,.bool more]⟩
 hd6:hd.length=6
 outer:f (5,0)=some (rowV 91 A az)
 aslen:az.length=L
 marks:∀ i,i<L→f (2,i)=some (rowV 4 (vAt az i) ((M i).map Value.bool))∧(M i).length=N
 list:f (1,0)=some (rowV 22 lv ls)
 llen:ls.length=LS.length
 items:∀ j,j<ls.length→f (3,j)=some (rowI (vAt ls j) (LS.getD j []))
 lmost:LS.length≤most
section
variable {B:Nat} {w:World} {f f':Names} {d:Nat} {hd:List Value} {A:Value} {az:List Value} {L N most:Nat} {M:Nat→List Bool} {lv:Value} {ls:List Value} {LS:List (List Int)} {more:Bool}
theorem DN.congr (h:DN f d hd A az L N most M lv ls LS more) (e:∀ i,i.1≠4→f' i=f i):DN f' d hd A az L N most M lv ls LS more :=
 ⟨(e _ (by decide)).trans h.box,h.hd6,(e _ (by decide)).trans h.outer,h.aslen,fun i hi=>⟨(e _ (by simp)).trans (h.marks i hi).1,(h.marks i hi).2⟩,(e _ (by decide)).trans h.list,h.llen,fun j hj=>(e _ (by simp)).trans (h.items j hj),h.lmost⟩
theorem DN.cellH (h:DN f d hd A az L N most M lv ls LS more) (hr:Rows B w f) (k:Nat) (hk:k<6):w.cell? ⟨d,k,none⟩=hd[k]?:=by
 have:=hr.cell h.box (g:=d) (cap:=1) rfl k (by simp; omega)
 rw [this,List.getElem?_append_left (by rw [h.hd6]; exact hk)]
theorem DN.cell6 (h:DN f d hd A az L N most M lv ls LS more) (hr:Rows B w f):w.cell? ⟨d,6,none⟩=some lv:=by
 have:=hr.cell h.box (g:=d) (cap:=1) rfl 6 (by simp)
 rw [this,List.getElem?_append_right (by rw [h.hd6]; decide),h.hd6]; rfl
theorem DN.cell7 (h:DN f d hd A az L N most M lv ls LS more) (hr:Rows B w f):w.cell? ⟨d,7,none⟩=some (.bool more):=by
 have:=hr.cell h.box (g:=d) (cap:=1) rfl 7 (by simp)
 rw [this,List.getElem?_append_right (by rw [h.hd6]; decide),h.hd6]; rfl
theorem DN.frz (h:DN f d hd A az L N most M lv ls LS more) (hr:Rows B w f) (k:Nat):w.frozen? ⟨d,k,none⟩=false:=hr.frozen h.box (g:=d) (cap:=1) rfl k
theorem DN.base (h:DN f d hd A az L N most M lv ls LS more) (hr:Rows B w f):B≤d:=(hr.lt h.box d rfl).1
theorem DN.setMore (h:DN f d hd A az L N most M lv ls LS more) (hr:Rows B w f):∃ f',Rows B (w.setCell ⟨d,7,none⟩ (.bool true)) f'∧DN f' d hd A az L N most M lv ls LS true∧∀ i,i≠(0,0)→f' i=f i:=by
 refine ⟨_,hr.set h.box (g:=d) (cap:=1) rfl 7 (.bool true),⟨?_,h.hd6,?_,h.aslen,fun i hi=>?_,?_,h.llen,fun j hj=>?_,h.lmost⟩,fun i hi=>upd_ne _ _ hi⟩
 ·rw [upd_same,List.set_append_right _ _ (by rw [h.hd6]; decide),h.hd6]; rfl
 ·rw [upd_ne _ _ (by decide)]; exact h.outer
 ·rw [upd_ne _ _ (by simp)]; exact h.marks i hi
 ·rw [upd_ne _ _ (by decide)]; exact h.list
 ·rw [upd_ne _ _ (by simp)]; exact h.items j hj
theorem DN.mark (h:DN f d hd A az L N most M lv ls LS more) (hr:Rows B w f) (i:Nat) (hi:i<L) (node:Nat) (hn:node<N) (b:Bool) :
 ∃ f',Rows B (w.setCell (valAt (vAt az i) node) (.bool b)) f'∧DN f' d hd A az L N most (fun j=>if j=i then (M i).set node b else M j) lv ls LS more∧∀ j,j≠(2,i)→f' j=f j:=by
 have hm:=h.marks i hi
 refine ⟨_,hr.setV hm.1 node (by simp; omega) (.bool b),⟨?_,h.hd6,?_,h.aslen,fun j hj=>?_,?_,h.llen,fun j hj=>?_,h.lmost⟩,fun j hj=>upd_ne _ _ hj⟩
 ·rw [upd_ne _ _ (by simp)]; exact h.box
 ·rw [upd_ne _ _ (by simp)]; exact h.outer
 ·by_cases e:j=i
  ·subst e
   rw [upd_same]
   simp [hm.2,List.map_set]
  ·rw [upd_ne _ _ (by simp [e])]; simp only [if_neg e]; exact h.marks j hj
 ·rw [upd_ne _ _ (by simp)]; exact h.list
 ·rw [upd_ne _ _ (by simp)]; exact h.items j hj
theorem DN.pushed (h:DN f d hd A az L N most M lv ls LS more) (x lv':Value) (xs:List Int) (hl:LS.length<most) :
 DN (upd (upd (upd f (3,ls.length) (some (rowI x xs))) (1,0) (some (rowV 22 lv' (ls++[x])))) (0,0) (some ⟨90,8,.slice (some ⟨d,0,none⟩) 1 1,1,hd++[lv',.bool more]⟩)) d hd A az L N most M lv' (ls++[x]) (LS++[xs]) more:=by
 refine ⟨upd_same _ _ _,h.hd6,?_,h.aslen,fun i hi=>?_,?_,by simp [h.llen],fun j hj=>?_,by simp; omega⟩
 ·rw [upd_ne _ _ (by simp),upd_ne _ _ (by simp),upd_ne _ _ (by simp)]; exact h.outer
 ·rw [upd_ne _ _ (by simp),upd_ne _ _ (by simp),upd_ne _ _ (by simp)]; exact h.marks i hi
 ·rw [upd_ne _ _ (by simp),upd_same]
 ·rw [upd_ne _ _ (by simp),upd_ne _ _ (by simp)]
  by_cases e:j=ls.length
  ·subst e
   rw [upd_same]
   simp [vAt,List.getD,h.llen]
  ·have hjl:j<ls.length:=by simp at hj; omega
   rw [upd_ne _ _ (by simp [e]),h.items j hjl]
   have:j<LS.length:=by rw [← h.llen]; exact hjl
   simp [vAt,List.getD,List.getElem?_append_left,hjl,this]
theorem DN.listV (h:DN f d hd A az L N most M lv ls LS more) (hr:Rows B w f):OwnV 22 B w lv ls:=hr.ownV h.list
theorem DN.outerV (h:DN f d hd A az L N most M lv ls LS more) (hr:Rows B w f):OwnV 91 B w A az:=hr.ownV h.outer
theorem DN.marksV (h:DN f d hd A az L N most M lv ls LS more) (hr:Rows B w f) (i:Nat) (hi:i<L):OwnV 4 B w (vAt az i) ((M i).map Value.bool):=hr.ownV (h.marks i hi).1
end
def Sound (K N:Nat) (T ws:List Int) (M:Nat→List Bool):Prop:=∀ i node,i<ws.length→(M i)[node]?=some true→compl K N T node (ws.drop i)=[]
theorem Sound.mark {K N:Nat} {T ws:List Int} {M:Nat→List Bool} (h:Sound K N T ws M) (i node:Nat) (b:Bool) (hb:b=true→compl K N T node (ws.drop i)=[]):Sound K N T ws (fun j=>if j=i then (M i).set node b else M j):=by
 intro j m hj hm
 by_cases e:j=i
 ·subst e
  simp only [if_true] at hm
  rw [List.getElem?_set] at hm
  split at hm
  ·rename_i e
   subst e
   split at hm
   ·injection hm with hm; exact hb hm
   ·cases hm
  ·exact h j m hj hm
 ·simp only [if_neg e] at hm
  exact h j m hj hm
set_option maxRecDepth 100000
set_option maxHeartbeats 8000000
theorem below_drewND (B:Nat) (w:World) (n:Nat):Below B w (w.drewN n).drew:=⟨rfl,rfl,rfl,Nat.le_refl _,fun _ _=>rfl⟩
theorem OwnI.one {B:Nat} {w:World} {v:Value} {xs:List Int} (h:OwnI B w v xs):v.oneCell'=true:=by
 obtain ⟨a,n,c,rfl⟩:=h.at.shape; rfl
theorem step_app1L {ops:Array Oper} {o:Oper} {a:Act} {w:World} {K:Act→World→Prop} {Q:Exit→Act→World→Prop} {Ep:Prop} (hw:Region.wanted o (yielded ops a.tmps)=true) (s x:Operand)
 (ho:o.op=.call { callee:=.builtin .append,args:=#[s,x],argTypes:=#[31,31] })
 (B:Nat) (v:Value) (vs:List Value) (y:Value) (b:Nat) (hs:a.eval s=v) (hx:a.eval x=.slice (some ⟨b,0,none⟩) 1 1) (hb:b=w.heap.size) (hown:OwnV 22 B w v vs)
 (hlen:vs.length<4398046511104) (hy:y.oneCell'=true) (hB:B≤w.heap.size)
 (h:∀ v' w',OwnV 22 B w' v' (vs++[y])→((v'.ownBlock=v.ownBlock∧w.grownBy w' v.ownBlock)∨(∃ k,v'.ownBlock=some k∧w.heap.size≤k∧w.grownBy w' none))→K (a.put o.dst v') w') :
 if Region.wanted o (yielded ops a.tmps)=true then Oper.wp Tryz.prog o a (w.alloc (.cells #[y] 22)) K Q else Ep:=by
 rw [if_pos hw]
 subst hb
 obtain ⟨v',w',hr,h2,h3⟩:=run_app oneLists (w.alloc (.cells #[y] 22)) B o.type v _ (hown.alloc _) ⟨w.heap.size,0,none⟩ 1 [y] (by simp) (cell_one_new _ _ _) (by simpa using hy) (by simp; omega) (by simp; omega)
 rw [show ([y]:List Value).length=1 from rfl] at hr
 have hal:∀ row,w.grownBy (w.alloc (.cells #[y] 22)) row:=fun row=>World.grownBy_alloc w _ row
 have hK:K (a.put o.dst v') w':=by
  refine h v' w' (by simpa using h2) ?_
  rcases h3 with ⟨hroom,hg⟩ | ⟨hk,hg⟩
  ·obtain ⟨a1,n1,c1,e1⟩:=hown.shape
   obtain ⟨a2,n2,c2,e2⟩:=h2.shape
   exact .inl ⟨ownBlock_of_room e1 e2 hroom,(hal v.ownBlock).trans hg⟩
  ·exact .inr ⟨_,hk,by simp,(hal none).trans hg⟩
 unfold Oper.wp
 simp [execOp,ho,resolve,invoke,builtin,hs,hx,hr,Result.andThen]
 exact hK
def OnPost (B K N:Nat) (T ws:List Int) (d:Nat) (hd:List Value) (A:Value) (az:List Value) (most:Nat) (f:Names) (LS C:List (List Int)) (i:Nat) (w:World) (e:Ending) (w':World):Prop :=
 ∃ ret f' M' lv' ls' LS' more',e=.returned ret∧Rows B w' f'∧Below B w w'∧DN f' d hd A az ws.length N most M' lv' ls' LS' more'∧Sound K N T ws M'∧(∀ k,k≤i→f' (4,k)=f (4,k)) ∧
  ((LS.length+C.length≤most∧LS'=LS++C∧more'=false∧ret=.bool (decide (C≠[])))∨(most<LS.length+C.length∧more'=true∧ret=.bool true))
section
variable {B:Nat} {w:World} {f:Names} {d:Nat} {hd:List Value} {A:Value} {az:List Value} {L N most:Nat} {M:Nat→List Bool} {lv:Value} {ls:List Value} {LS:List (List Int)} {more:Bool}
theorem push_rows {w1 w3:World} {x lv':Value} {xs:List Int} (D:DN f d hd A az L N most M lv ls LS more) (hr:Rows B w f) (b1:Below w.heap.size w w1) (hC:OwnI w.heap.size w1 x xs) (hBw:B≤w.heap.size) (hV3:OwnV 22 B w3 lv' (ls++[x]))
 (hg:(lv'.ownBlock=lv.ownBlock∧w1.grownBy w3 lv.ownBlock)∨(∃ k,lv'.ownBlock=some k∧w1.heap.size≤k∧w1.grownBy w3 none)) :
 Rows B w3 (upd (upd f (3,ls.length) (some (rowI x xs))) (1,0) (some (rowV 22 lv' (ls++[x]))))∧w3.cell? ⟨d,6,none⟩=some lv∧w3.frozen? ⟨d,6,none⟩=false∧Below B w w3:=by
 have h1:=hr.add (i:=(3,ls.length)) (r':=rowI x xs) b1 (hC.mono hBw) (fun k hk=>(hC.lt k hk).1)
 have hl1:upd f (3,ls.length) (some (rowI x xs)) (1,0)=some (rowV 22 lv ls):=by rw [upd_ne _ _ (by simp)]; exact D.list
 have hb1:upd f (3,ls.length) (some (rowI x xs)) (0,0)=some ⟨90,8,.slice (some ⟨d,0,none⟩) 1 1,1,hd++[lv,.bool more]⟩:=by rw [upd_ne _ _ (by simp)]; exact D.box
 have hgr:w1.grownBy w3 lv.ownBlock:=by
  rcases hg with h | ⟨k,_,_,h⟩
  ·exact h.2
  ·exact grown_any h _
 have h3:=h1.grown (r':=rowV 22 lv' (ls++[x])) hl1 hgr hV3 (by
  rcases hg with h | ⟨k,hk,hk2,_⟩
  ·exact .inl h.1
  ·exact .inr ⟨k,hk,hk2⟩)
 have hb3:upd (upd f (3,ls.length) (some (rowI x xs))) (1,0) (some (rowV 22 lv' (ls++[x]))) (0,0)=some ⟨90,8,.slice (some ⟨d,0,none⟩) 1 1,1,hd++[lv,.bool more]⟩:=by rw [upd_ne _ _ (by simp)]; exact hb1
 refine ⟨h3,?_,?_,?_⟩
 ·rw [h3.cell hb3 (g:=d) (cap:=1) rfl 6 (by simp)]
  rw [List.getElem?_append_right (by rw [D.hd6]; decide),D.hd6]; rfl
 ·exact h3.frozen hb3 (g:=d) (cap:=1) rfl 6
 ·exact (b1.mono hBw).trans ((Below.refl _ _).grown hgr (Nat.le_trans hBw b1.size) (fun k hk=>((D.listV hr).lt k hk).1))
theorem push_store {w3:World} {x lv':Value} {xs:List Int} (D:DN f d hd A az L N most M lv ls LS more)
 (h3:Rows B w3 (upd (upd f (3,ls.length) (some (rowI x xs))) (1,0) (some (rowV 22 lv' (ls++[x]))))) :
 Rows B (w3.setCell ⟨d,6,none⟩ lv') (upd (upd (upd f (3,ls.length) (some (rowI x xs))) (1,0) (some (rowV 22 lv' (ls++[x])))) (0,0) (some ⟨90,8,.slice (some ⟨d,0,none⟩) 1 1,1,hd++[lv',.bool more]⟩)):=by
 have hb3:upd (upd f (3,ls.length) (some (rowI x xs))) (1,0) (some (rowV 22 lv' (ls++[x]))) (0,0)=some ⟨90,8,.slice (some ⟨d,0,none⟩) 1 1,1,hd++[lv,.bool more]⟩:=by rw [upd_ne _ _ (by simp),upd_ne _ _ (by simp)]; exact D.box
 have:=h3.set hb3 (g:=d) (cap:=1) rfl 6 lv'
 simp only [] at this
 rw [List.set_append_right _ _ (by rw [D.hd6]; decide),D.hd6] at this
 exact this
theorem below_le {B:Nat} {w W w':World} (h:Below w.heap.size w W) (k:Below B W w') (hB:B≤w.heap.size):Below B w w':=(h.mono hB).trans k
end
theorem on_end (B K N R:Nat) (T ws:List Int) (d:Nat) (vT:Value) (ua:Option Addr) (un uc:Nat) (A:Value) (az:List Value) (most:Nat) (f:Names) (M:Nat→List Bool) (lv:Value) (ls:List Value) (LS:List (List Int)) (xv:Value) (xs:List Int) (node:Nat) (w:World)
 (hBW:B≤w.heap.size) (hr:Rows B w f) (hW:IntsAt w (.slice ua un uc) ws) (D:DN f d [.int .i64 K,.int .i64 R,vT,.slice ua un uc,A,.int .i64 most] A az ws.length N most M lv ls LS false) (hso:Sound K N T ws M)
 (hx:f (4,ws.length)=some (rowI xv xs)) (hxl:xs.length≤5000) (hm:most≤256) :
 Calls Tryz.prog 42 #[.pointer (some ⟨d,0,none⟩),xv,.int .i64 node,.int .i64 ws.length] w (OnPost B K N T ws d [.int .i64 K,.int .i64 R,vT,.slice ua un uc,A,.int .i64 most] A az most f LS ((compl K N T node (ws.drop ws.length)).map (xs++·)) ws.length w):=by
 rw [List.drop_length,show (compl K N T node []).map (xs++·)=[xs] by simp [compl]]
 have hX:=(hr.ownI hx).at
 have lw:=hW.len
 have hlm:=D.lmost
 have hll:=D.llen
 have lv6:=fun w'=>(D.listV hr).at.len oneLists 3 w'
 have z3:=D.cellH hr 3 (by decide)
 have z5:=D.cellH hr 5 (by decide)
 have z6:=D.cell6 hr
 have f6:=D.frz hr 6
 have f7:=D.frz hr 7
 have z7:=D.cell7 hr
 simp only [List.getElem?_cons_succ,List.getElem?_cons_zero] at z3 z5
 rw [hll] at lv6
 by_cases hlt:LS.length<most
 ·replace hX:=Hd hX
  replace hW:=Hd hW
  replace hso:=Hd hso
  go_enter Tryz.func42,Tryz.ntmps42
  go_wp2
  go_quiet (fail)
  go_wp2_with fail
  refine wp_region_plan (fun w'=>w'.cell? ⟨d,6,none⟩=some lv) 9 [(0,true),(1,true),(2,true),(3,true),(4,true),(5,true),(6,false),(7,false),(8,false)] (by kernel_rfl) (by kernel_rfl) ?_
  obtain ⟨W,hWe⟩:∃ W:World,W=(w.drewN nq).drew:=⟨_,rfl⟩
  rw [← hWe]
  have hS:W.cell? ⟨d,6,none⟩=some lv:=by rw [hWe]; exact z6
  have hrW:Rows B W f:=by rw [hWe]; exact (hr.drewN nq).drew
  have hXW:IntsAt W xv xs:=by rw [hWe]; exact hX.out.drew
  have hBw:Below w.heap.size w W:=by rw [hWe]; exact below_drewND _ _ _
  have hf7:=z7
  have hsW:B≤W.heap.size:=Nat.le_trans hBW hBw.size
  clear hWe
  refine pqY 29 hS ?_
  refine pqY 30 hS ?_
  refine pqY 31 hS ?_
  refine pqY 32 hS ?_
  refine pqY 33 hS ?_
  refine pqY 34 hS ?_
  refine headC rfl (fun KK hK=>?_)
  go_simp
  refine (clone_any xv xs _ hXW (by omega)).mono ?_
  rintro e W1 ⟨x,rfl,b1,hC⟩
  obtain ⟨xa,xn,xc,rfl⟩:=hC.at.shape
  have hS1:=cell_keep b1 hS
  refine hK _ _ hS1 ?_
  clear hK KK
  refine headC rfl (fun KK hK=>?_)
  go_simp
  refine hK _ _ (cell_alloc hS1 _) ?_
  clear hK KK
  refine headC rfl (fun KK hK=>?_)
  have hV1:=(D.listV hrW).below b1
  refine step_app1L (by rfl) _ _ rfl B lv ls _ W1.heap.size rfl rfl rfl hV1 (by omega) (hC.one) (Nat.le_trans hsW b1.size) ?_
  intro lv' W3 hV3 hgr
  obtain ⟨hr3,hS3,hF3,hB3⟩:=push_rows D hrW b1 hC hsW hV3 hgr
  refine hK _ _ hS3 ?_
  clear hK KK
  refine head0 ?_
  simp only [List.drop_succ_cons,List.drop_zero]
  obtain ⟨la,ln,lc,rfl⟩:=hV3.shape
  replace hr3:=Hd hr3
  replace hV3:=Hd hV3
  replace hgr:=Hd hgr
  replace hC:=Hd hC
  clear z3 z5 z6 hS hS1 f6 f7 z7 hf7
  go_wp2
  refine NoPanic.normal ?_
  go_wp2
  go_ret
  refine ⟨_,_,M,_,_,_,false,rfl,push_store D hr3.out,below_le hBw (hB3.setCell (p:=⟨d,6,none⟩) (D.base hr) _) hBW,D.pushed _ _ xs hlt,hso.out,fun k _=>?_,.inl ⟨by simp; omega,rfl,rfl,by simp⟩⟩
  rw [upd_ne _ _ (by simp),upd_ne _ _ (by simp),upd_ne _ _ (by simp)]
 ·replace hX:=Hd hX
  replace hW:=Hd hW
  replace hso:=Hd hso
  obtain ⟨f',hr',D',hf'⟩:=D.setMore hr
  go_enter Tryz.func42,Tryz.ntmps42
  go_wp2
  go_quiet (fail)
  go_wp2
  go_ret
  refine ⟨_,f',M,lv,ls,LS,true,rfl,hr'.drewN nq,?_,D',hso.out,fun k _=>hf' _ (by simp),.inr ⟨by simp; omega,rfl,rfl⟩⟩
  exact (show Below B w (w.drewN nq) from ⟨rfl,rfl,rfl,Nat.le_refl _,fun _ _=>rfl⟩).setCell (p:=⟨d,7,none⟩) (D.base hr) (.bool true)
theorem oneBools:OneCell 91 4 (.bool false) 1:=⟨by kernel_rfl,by kernel_rfl,rfl,by decide,fun _=>by kernel_rfl⟩
theorem oneBoolss:OneCell 88 91 (.slice none 0 0) 24:=⟨by kernel_rfl,by kernel_rfl,rfl,by decide,fun _=>by kernel_rfl⟩
theorem step_app1I {ops:Array Oper} {o:Oper} {a:Act} {w:World} {K:Act→World→Prop} {Q:Exit→Act→World→Prop} {Ep:Prop} (hw:Region.wanted o (yielded ops a.tmps)=true) (s x:Operand)
 (ho:o.op=.call { callee:=.builtin .append,args:=#[s,x],argTypes:=#[22,22] })
 (B:Nat) (v:Value) (vs:List Int) (y:Int) (b:Nat) (hs:a.eval s=v) (hx:a.eval x=.slice (some ⟨b,0,none⟩) 1 1) (hb:b=w.heap.size) (hown:OwnI B w v vs)
 (hlen:vs.length<4398046511104) (hB:B≤w.heap.size)
 (h:∀ v' w',OwnI B w' v' (vs++[y])→((roomOf v'=roomOf v∧w.grownBy w' v.ownBlock)∨(∃ k,v'.ownBlock=some k∧w.heap.size≤k∧w.grownBy w' none))→K (a.put o.dst v') w') :
 if Region.wanted o (yielded ops a.tmps)=true then Oper.wp Tryz.prog o a (w.alloc (.cells #[.int .i64 y] 3)) K Q else Ep:=by
 rw [if_pos hw]
 subst hb
 obtain ⟨v',w',hr,h2,h3⟩:=run_app oneInts (w.alloc (.cells #[.int .i64 y] 3)) B o.type v _ (hown.alloc _).toV ⟨w.heap.size,0,none⟩ 1 [.int .i64 y] (by simp) (cell_one_new _ _ _) (by simp [Value.oneCell']) (by simp; omega) (by simp; omega)
 rw [show ([.int .i64 y]:List Value).length=1 from rfl] at hr
 have hal:∀ row,w.grownBy (w.alloc (.cells #[.int .i64 y] 3)) row:=fun row=>World.grownBy_alloc w _ row
 have hK:K (a.put o.dst v') w':=by
  refine h v' w' (OwnV.toI (by simpa using h2)) ?_
  rcases h3 with ⟨hroom,hg⟩ | ⟨hk,hg⟩
  ·exact .inl ⟨hroom,(hal v.ownBlock).trans hg⟩
  ·exact .inr ⟨_,hk,by simp,(hal none).trans hg⟩
 unfold Oper.wp
 simp [execOp,ho,resolve,invoke,builtin,hs,hx,hr,Result.andThen]
 exact hK
theorem x_rows {B:Nat} {w w':World} {f:Names} {i:Nat} {xv xv':Value} {xs:List Int} {s:Int} (hr:Rows B w f) (hx:f (4,i)=some (rowI xv xs)) (hB:B≤w.heap.size) (hx':OwnI B w' xv' (xs++[s]))
 (hal:(roomOf xv'=roomOf xv∧w.grownBy w' xv.ownBlock)∨(∃ k,xv'.ownBlock=some k∧w.heap.size≤k∧w.grownBy w' none)) :
 ∃ f1,Rows B w' f1∧f1 (4,i+1)=some (rowI xv' (xs++[s]))∧(∀ j,j.1≠4→f1 j=f j)∧(∀ k,k<i→f1 (4,k)=f (4,k))∧Below B w w' ∧
  ∀ w2 f2,Rows B w2 f2→(∀ k,k≤i+1→f2 (4,k)=f1 (4,k))→∃ f3,Rows B w2 f3∧(∀ k,k≤i→f3 (4,k)=f (4,k))∧∀ j,j.1≠4→f3 j=f2 j:=by
 have hx0:=hr.ownI hx
 rcases hal with ⟨hroom,hg⟩ | ⟨k,hk,hk2,hg⟩
 ·obtain ⟨a1,n1,c1,e1⟩:=hx0.at.shape
  obtain ⟨a2,n2,c2,e2⟩:=hx'.at.shape
  have hob:=ownBlock_of_room e1 e2 hroom
  have h1:=hr.grown (r':=rowI xv' (xs++[s])) hx hg hx' (.inl hob)
  have h2:=h1.move (i:=(4,i)) (j:=(4,i+1)) (r:=rowI xv' (xs++[s])) (r':=rowI xv' (xs++[s])) (upd_same _ _ _) hx' rfl
  refine ⟨_,h2,upd_same _ _ _,fun j hj=>?_,fun k hk=>?_,(Below.refl _ _).grown hg hB (fun k hk=>(hx0.lt k hk).1),fun w2 f2 hr2 hf2=>?_⟩
  ·rw [upd_ne _ _ (fun e=>hj (by rw [e])),upd_ne _ _ (fun e=>hj (by rw [e])),upd_ne _ _ (fun e=>hj (by rw [e]))]
  ·rw [upd_ne _ _ (by simp; omega),upd_ne _ _ (by simp; omega),upd_ne _ _ (by simp; omega)]
  ·have e4:f2 (4,i+1)=some (rowI xv' (xs++[s])):=by rw [hf2 _ (Nat.le_refl _),upd_same]
   have hxb:=hx0.front (hr2.ownI e4) hroom
   have h3:=hr2.move (i:=(4,i+1)) (j:=(4,i)) (r:=rowI xv' (xs++[s])) (r':=rowI xv xs) e4 hxb hob.symm
   refine ⟨_,h3,fun k hk=>?_,fun j hj=>?_⟩
   ·by_cases e:k=i
    ·subst e; rw [upd_same,hx]
    ·rw [upd_ne _ _ (by simpa using e),upd_ne _ _ (by simp; omega),hf2 k (by omega),upd_ne _ _ (by simp; omega),upd_ne _ _ (by simp; omega),upd_ne _ _ (by simp; omega)]
   ·rw [upd_ne _ _ (fun e=>hj (by rw [e])),upd_ne _ _ (fun e=>hj (by rw [e]))]
 ·have h1:=hr.fresh (i:=(4,i+1)) (r':=rowI xv' (xs++[s])) hg hx' (fun m hm=>by
   have e:xv'.ownBlock=some m:=hm
   rw [hk] at e; injection e with e; omega)
  refine ⟨_,h1,upd_same _ _ _,fun j hj=>?_,fun k hk=>?_,(Below.refl _ _).grown hg hB (by intro k hk; cases hk),fun w2 f2 hr2 hf2=>⟨f2,hr2,fun k hk=>?_,fun _ _=>rfl⟩⟩
  ·rw [upd_ne _ _ (fun e=>hj (by rw [e]))]
  ·rw [upd_ne _ _ (by simp; omega)]
  ·rw [hf2 k (by omega),upd_ne _ _ (by simp; omega)]
theorem complU_mono (K N:Nat) (T:List Int) (node:Nat) (y:Int) (ws:List Int) (s t:Nat) (h:s≤t):(complU K N T node y ws s).length≤(complU K N T node y ws t).length:=by
 induction t with
 | zero=>obtain rfl:s=0:=by omega
         exact Nat.le_refl _
 | succ t ih =>
  by_cases e:s=t+1
  ·subst e; exact Nat.le_refl _
  ·have:=ih (by omega)
   rw [complU_succ,List.length_append]; omega
theorem keep6 {w w':World} {a0 a1 a2 a3 a4 a5:Addr} {u0 u1 u2 u3 u4 u5:Value} (h:w.cell? a0=some u0∧w.cell? a1=some u1∧w.cell? a2=some u2∧w.cell? a3=some u3∧w.cell? a4=some u4∧w.cell? a5=some u5) (hb:Below w.heap.size w w') :
 w'.cell? a0=some u0∧w'.cell? a1=some u1∧w'.cell? a2=some u2∧w'.cell? a3=some u3∧w'.cell? a4=some u4∧w'.cell? a5=some u5:=by
 obtain ⟨h0,h1,h2,h3,h4,h5⟩:=h
 have k:∀ {a:Addr} {u:Value},w.cell? a=some u→w'.cell? a=some u:=fun {a u} h=>(hb.cell (World.block_lt_of_cell? _ _ h)).trans h
 exact ⟨k h0,k h1,k h2,k h3,k h4,k h5⟩
def OnInv (B K N:Nat) (T ws:List Int) (d:Nat) (hd:List Value) (A:Value) (az:List Value) (most:Nat) (f:Names) (LS C Ct:List (List Int)) (i:Nat) (w:World) (any:Value) (wr:World):Prop :=
 ∃ f' M' lv' ls' LS' more',Rows B wr f'∧Below B w wr∧DN f' d hd A az ws.length N most M' lv' ls' LS' more'∧Sound K N T ws M'∧(∀ k,k≤i→f' (4,k)=f (4,k)) ∧
  ((LS.length+C.length≤most∧LS'=LS++C∧more'=false∧any=.bool (decide (C≠[])))∨(most<LS.length+Ct.length∧more'=true∧any=.bool true))
theorem on_step (w0:World) (K N R:Nat) (T ws:List Int) (d:Nat) (va:Option Addr) (vn vc:Nat) (ua:Option Addr) (un uc:Nat) (A:Value) (az:List Value) (most i:Nat) (hi:i<ws.length)
 (hok:RuleOk K R T) (hN:T.length/K=N) (hT256:T.length≤256) (hwl:ws.length≤256) (hT0:IntsAt w0 (.slice va vn vc) T) (hW0:IntsAt w0 (.slice ua un uc) ws)
 (IH:∀ (f:Names) (M:Nat→List Bool) (lv:Value) (ls:List Value) (LS:List (List Int)) (xv:Value) (xs:List Int) (node:Nat) (w:World),Rows w0.heap.size w f→Below w0.heap.size w0 w →
   DN f d [.int .i64 K,.int .i64 R,.slice va vn vc,.slice ua un uc,A,.int .i64 most] A az ws.length N most M lv ls LS false→Sound K N T ws M→f (4,i+1)=some (rowI xv xs)→xs.length≤8+(i+1)→node<N →
   Calls Tryz.prog 42 #[.pointer (some ⟨d,0,none⟩),xv,.int .i64 node,.int .i64 ((i+1:Nat):Int)] w (OnPost w0.heap.size K N T ws d [.int .i64 K,.int .i64 R,.slice va vn vc,.slice ua un uc,A,.int .i64 most] A az most f LS ((compl K N T node (ws.drop (i+1))).map (xs++·)) (i+1) w))
 (f:Names) (M:Nat→List Bool) (lv:Value) (ls:List Value) (LS:List (List Int)) (xv:Value) (xs:List Int) (node:Nat) (w:World) (hr:Rows w0.heap.size w f) (hB0w:Below w0.heap.size w0 w)
 (D:DN f d [.int .i64 K,.int .i64 R,.slice va vn vc,.slice ua un uc,A,.int .i64 most] A az ws.length N most M lv ls LS false) (hso:Sound K N T ws M) (hx:f (4,i)=some (rowI xv xs)) (hxl:xs.length≤8+i) (hnode:node<N) :
 Calls Tryz.prog 42 #[.pointer (some ⟨d,0,none⟩),xv,.int .i64 node,.int .i64 i] w (OnPost w0.heap.size K N T ws d [.int .i64 K,.int .i64 R,.slice va vn vc,.slice ua un uc,A,.int .i64 most] A az most f LS ((compl K N T node (ws.drop i)).map (xs++·)) i w):=by
 have hk1:=hok.k1
 have hk4:=hok.k4
 have hlm:=D.lmost
 have hMl:=(D.marks i hi).2
 have lw:=(hW0.below (w':=w) (hB0w.mono (Nat.le_refl _))).len
 have hne:((i:Int)==(ws.length:Int))=false:=by rw [beq_eq_false_iff_ne]; omega
 obtain ⟨b,hb⟩:∃ b,(M i)[node]?=some b:=⟨_,List.getElem?_eq_getElem (by rw [hMl]; exact hnode)⟩
 have haz:=Hd D.aslen
 have oA:=(D.outerV hr).at
 have oM:=(D.marksV hr i hi).at
 have iA:=fun w'=>oA.idx oneBoolss i (by rw [haz.out]; exact hi) w'
 have cA:=oA.cellV i (by rw [haz.out]; exact hi)
 have iM:=fun w'=>oM.idx oneBools node (by rw [List.length_map,hMl]; exact hnode) w'
 have cM:=oM.cellV node (by rw [List.length_map,hMl]; exact hnode)
 have hbv:vAt ((M i).map Value.bool) node=.bool b:=by simp [vAt,List.getD,hb]
 rw [hbv] at cM
 obtain ⟨pa,hpa⟩:∃ pa,valAt A i=pa:=⟨_,rfl⟩
 obtain ⟨mv,hmv⟩:∃ mv,vAt az i=mv:=⟨_,rfl⟩
 obtain ⟨pm,hpm⟩:∃ pm,valAt mv node=pm:=⟨_,rfl⟩
 rw [hmv] at iM cM cA
 rw [hpa] at iA cA
 rw [hpm] at iM cM
 replace hpa:=Hd hpa
 obtain ⟨ma,mn,mc,rfl⟩:∃ a n c,mv=.slice a n c:=by rw [← hmv]; exact (D.marksV hr i hi).shape
 replace hmv:=Hd hmv
 replace hpm:=Hd hpm
 obtain ⟨Aa,An,Ac,rfl⟩:=(D.outerV hr).shape
 have z0:=D.cellH hr 0 (by decide)
 have z3:=D.cellH hr 3 (by decide)
 have z4:=D.cellH hr 4 (by decide)
 simp only [List.getElem?_cons_succ,List.getElem?_cons_zero] at z0 z3 z4
 clear oA oM hbv
 replace hb:=Hd hb
 cases b with
 | true =>
  have hC:=hso i node hi hb.out
  rw [hC,List.map_nil]
  replace hso:=Hd hso
  replace IH:=Hd IH
  replace hC:=Hd hC
  go_enter Tryz.func42,Tryz.ntmps42
  go_wp2
  go_ret
  exact ⟨_,f,M,lv,ls,LS,false,rfl,hr,Below.refl _ _,D,hso.out,fun _ _=>rfl,.inl ⟨by simpa using hlm,by simp,rfl,by simp⟩⟩
 | false =>
  rw [List.drop_eq_getElem_cons hi,compl_cons]
  replace IH:=Hd IH
  replace hMl:=Hd hMl
  have hso':=Hd hso
  clear hso
  obtain ⟨CU,hCU⟩:∃ CU:Nat→List (List Int),CU=fun s=>(complU K N T node ws[i] (ws.drop (i+1)) s).map (xs++·):=⟨_,rfl⟩
  rw [show (complU K N T node ws[i] (ws.drop (i+1)) K).map (xs++·)=CU K by rw [hCU]]
  replace hCU:=Hd hCU
  go_enter Tryz.func42,Tryz.ntmps42
  go_wp2
  clear z0 z3 z4 cA cM
  go_loopw [9,10] (fun any sv wr=>∃ s:Nat,s≤K∧sv=.int .i64 s∧OnInv w0.heap.size K N T ws d [.int .i64 K,.int .i64 R,.slice va vn vc,.slice ua un uc,.slice Aa An Ac,.int .i64 most] (.slice Aa An Ac) az most f LS (CU s) (CU K) i w any wr) (fun _ sv _=>K-(intOf sv).toNat)
  case atStart=>exact ⟨0,by omega,rfl,f,M,lv,ls,LS,false,hr,Below.refl _ _,D,hso'.out,fun _ _=>rfl,.inl ⟨by rw [hCU.out]; simpa [complU] using hlm,by rw [hCU.out]; simp [complU],rfl,by rw [hCU.out]; simp [complU]⟩⟩
  case round =>
   obtain ⟨s,hs,rfl,f',M',lv',ls',LS',more',hr',hBr,D',hso2,hfk,hst⟩:=hrel
   obtain ⟨wo,rfl⟩:∃ wo:World,wo=wr:=⟨_,rfl⟩
   replace hso2:=Hd hso2
   replace hfk:=Hd hfk
   have hB0wo:Below w0.heap.size w0 wo:=hB0w.trans hBr
   rcases hst with ⟨hfit,rfl,rfl,rfl⟩ | ⟨hbig,rfl,rfl⟩
   ·by_cases hlt:s<K
    ·obtain ⟨aq,haq⟩:∃ aq,aq=decide (CU s≠[]):=⟨_,rfl⟩
     rw [← haq]
     replace haq:=Hd haq
     have z0:=D'.cellH hr' 0 (by decide)
     have z7:=D'.cell7 hr'
     simp only [List.getElem?_cons_zero] at z0
     have hNK:N*K=T.length:=by rw [← hN,hok.half.1]; exact hok.half.2.symm
     have he:node*K+s<T.length:=by
      have:(node+1)*K≤N*K:=Nat.mul_le_mul_right _ hnode
      rw [Nat.add_mul] at this; omega
     have hT1:=hT0.below hB0wo
     have hW1:=hW0.below hB0wo
     have i2:∀ w',(Instr.indexAt 22 (.slice va vn vc) (.int .i64 ((node:Int)*(K:Int)+(s:Int)))).run Tryz.prog w'=.ok (.pointer (some (valAt (.slice va vn vc) (node*K+s)))) w':=by
      intro w'
      have:=hT1.idx (node*K+s) he w'
      rwa [Int.natCast_add,Int.natCast_mul] at this
     have i3:=hW1.idx i hi
     have c2:=hT1.cellD (node*K+s) he
     have c3:=hW1.cell i hi
     have hCS:CU (s+1)=CU s++if T.getD (node*K+s) 0=ws[i] then (compl K N T ((node*K+s)%N) (ws.drop (i+1))).map ((xs++[(s:Int)])++·) else []:=by
      rw [hCU.out]
      simp only [complU_succ,List.map_append]
      congr 1
      split
      ·simp [List.map_map,Function.comp_def]
      ·rfl
     obtain ⟨x,hxe⟩:∃ x,T.getD (node*K+s) 0=x:=⟨_,rfl⟩
     obtain ⟨y,hye⟩:∃ y,ws[i]=y:=⟨_,rfl⟩
     obtain ⟨ta,hta⟩:∃ ta,valAt (.slice va vn vc) (node*K+s)=ta:=⟨_,rfl⟩
     obtain ⟨wa,hwa⟩:∃ wa,valAt (.slice ua un uc) i=wa:=⟨_,rfl⟩
     rw [hta] at i2 c2
     rw [hwa] at i3 c3
     rw [hxe] at c2 hCS
     rw [hye] at c3 hCS
     have SS:=Hd (show ∀ (f2:Names) (M2:Nat→List Bool) (lv2:Value) (ls2:List Value) (LS2:List (List Int)) (more2:Bool) (W2:World),DN f2 d [.int .i64 K,.int .i64 R,.slice va vn vc,.slice ua un uc,.slice Aa An Ac,.int .i64 most] (.slice Aa An Ac) az ws.length N most M2 lv2 ls2 LS2 more2→Rows w0.heap.size W2 f2→Below w0.heap.size w0 W2 →
      W2.cell? ⟨d,0,none⟩=some (.int .i64 K)∧W2.cell? ⟨d,1,none⟩=some (.int .i64 R)∧W2.cell? ⟨d,2,none⟩=some (.slice va vn vc)∧W2.cell? ⟨d,3,none⟩=some (.slice ua un uc)∧W2.cell? ta=some (.int .i64 x)∧W2.cell? wa=some (.int .i64 y) from by
      intro f2 M2 lv2 ls2 LS2 more2 W2 D2 r2 b2
      refine ⟨D2.cellH r2 0 (by decide),D2.cellH r2 1 (by decide),D2.cellH r2 2 (by decide),D2.cellH r2 3 (by decide),?_,?_⟩
      ·rw [← hta,← hxe]; exact (hT0.below b2).cellD _ he
      ·rw [← hwa,← hye]; exact (hW0.below b2).cell i hi)
     replace hxe:=Hd hxe
     replace hye:=Hd hye
     replace hta:=Hd hta
     replace hwa:=Hd hwa
     have hT0':=Hd hT0
     have hrW:=Hd (hr'.drew)
     have hB0W:=Hd (show Below w0.heap.size w0 wo.drew from hB0wo.drew)
     have hBW:=Hd (show Below w0.heap.size w wo.drew from hBr.drew)
     have hsW:w0.heap.size≤wo.drew.heap.size:=hB0wo.size
     have hxf:=hfk.out i (Nat.le_refl _)
     rw [hx] at hxf
     have hxW:=Hd (show OwnI w0.heap.size wo.drew xv xs from (hr'.ownI hxf).drew)
     have hS:=SS.out _ _ _ _ _ _ wo.drew D' hrW.out hB0W.out
     obtain ⟨W,hWe⟩:∃ W:World,W=wo.drew:=⟨_,rfl⟩
     rw [← hWe] at hrW hB0W hBW hsW hxW hS
     have hNK2:=Hd hNK
     have hNe:=Hd hN
     have hNp:0<N:=by omega
     have hN0:((N:Int)==0)=false:=by rw [beq_eq_false_iff_ne]; omega
     have hN1:¬ (N:Int)=0:=by omega
     have hN2:(0:Int)<N:=by omega
     have hN3:¬ N=0:=by omega
     obtain ⟨nd,hnd⟩:∃ nd,(node*K+s)%N=nd:=⟨_,rfl⟩
     have hndl:nd<N:=by rw [← hnd]; exact Nat.mod_lt _ hNp
     have htm:((node:Int)*(K:Int)+(s:Int)).tmod (N:Int)=(nd:Int):=by
      rw [← hnd,Int.tmod_eq_emod_of_nonneg (by have:=Int.mul_nonneg (a:=(node:Int)) (b:=(K:Int)) (by omega) (by omega); omega)]
      simp
     rw [hnd] at hCS
     replace hnd:=Hd hnd
     have hm1:0≤(node:Int)*(K:Int):=Int.mul_nonneg (by omega) (by omega)
     have hm2:(node:Int)*(K:Int)+(s:Int)≤256:=by
      have h2:=Int.ofNat_le.2 (Nat.le_of_lt he)
      rw [Int.natCast_add,Int.natCast_mul] at h2
      omega
     have hmono:(CU (s+1)).length≤(CU K).length:=by
      rw [hCU.out]; simp only [List.length_map]; exact complU_mono _ _ _ _ _ _ _ _ (by omega)
     clear hNK hxf c2 c3 hT1 hW1
     by_cases hq:x=y
     ·have hq2:(x==y)=true:=by rw [beq_iff_eq]; exact hq
      rw [if_pos hq] at hCS
      obtain ⟨C',hC'⟩:∃ C',(compl K N T nd (ws.drop (i+1))).map ((xs++[(s:Int)])++·)=C':=⟨_,rfl⟩
      rw [hC'] at hCS
      replace hC':=Hd hC'
      replace hCS:=Hd hCS
      replace hq:=Hd hq
      go_wp2
      refine wp_region_plan (fun w'=>w'.cell? ⟨d,0,none⟩=some (.int .i64 K)∧w'.cell? ⟨d,1,none⟩=some (.int .i64 R)∧w'.cell? ⟨d,2,none⟩=some (.slice va vn vc)∧w'.cell? ⟨d,3,none⟩=some (.slice ua un uc)∧w'.cell? ta=some (.int .i64 x)∧w'.cell? wa=some (.int .i64 y)) 31 [(0,true),(1,true),(2,true),(3,true),(4,true),(5,true),(6,true),(7,true),(8,true),(9,true),(10,true),(11,true),(12,true),(13,true),(14,true),(15,true),(16,true),(17,true),(18,true),(19,true),(22,true),(23,true),(24,true),(25,true),(26,true),(29,true),(30,true),(20,false),(21,false),(27,false),(28,true)] (by kernel_rfl) (by kernel_rfl) ?_
      rw [← hWe]
      replace hWe:=Hd hWe
      clear z0 z7
      refine pqY 78 hS ?_
      refine pqY 79 hS ?_
      refine pqY 80 hS ?_
      refine pqY 81 hS ?_
      refine pqY 82 hS ?_
      refine pqY 83 hS ?_
      refine pqY 84 hS ?_
      refine pqY 85 hS ?_
      refine pqY 86 hS ?_
      refine pqY 87 hS ?_
      refine pqY 88 hS ?_
      refine pqY 89 hS ?_
      refine pqY 90 hS ?_
      refine pqY 91 hS ?_
      refine pqY 92 hS ?_
      refine pqY 93 hS ?_
      refine pqY 94 hS ?_
      refine pqY 95 hS ?_
      refine pqY 96 hS ?_
      refine pqY 97 hS ?_
      refine pqY 100 hS ?_
      refine pqY 101 hS ?_
      refine pqY 102 hS ?_
      refine pqY 103 hS ?_
      refine pqY 104 hS ?_
      refine pqY 107 hS ?_
      refine pqY 108 hS ?_
      refine headC rfl (fun KK hK=>?_)
      go_simp
      refine hK _ _ (keep6 hS (belowAlloc _ _)) ?_
      clear hK KK
      refine headC rfl (fun KK hK=>?_)
      refine step_app1I (by rfl) _ _ rfl w0.heap.size xv xs s W.heap.size rfl rfl rfl hxW.out (by omega) hsW ?_
      intro xv' W2 hx2 hal
      obtain ⟨f2,hr2,hx2',hf2,hfk2,hB2,hback⟩:=x_rows (i:=i) hrW.out ((hfk.out i (Nat.le_refl _)).trans hx) hsW hx2 hal
      have D2:=D'.congr hf2
      have hBt:=hB0W.out.trans hB2
      have hS2:=SS.out _ _ _ _ _ _ W2 D2 hr2 hBt
      refine hK _ _ hS2 ?_
      clear hK KK
      refine headC rfl (fun KK hK=>?_)
      go_simp
      refine (over_nodes K R va vn vc T _ (hT0'.out.below hBt) (by omega) (by omega)).mono ?_
      rintro e W3 ⟨rfl,rfl⟩
      rw [hNe.out]
      have hS3:=keep6 hS2 (belowAlloc W2 (.cells #[.int .i64 K,.int .i64 R,.slice va vn vc] 24))
      refine hK _ _ hS3 ?_
      clear hK KK
      refine pqY 106 hS3 ?_
      refine head0 ?_
      simp only [List.drop_succ_cons,List.drop_zero]
      have hIH:=IH.out f2 M' lv' ls' (LS++CU s) xv' (xs++[(s:Int)]) nd _ (hr2.below (belowAlloc W2 (.cells #[.int .i64 K,.int .i64 R,.slice va vn vc] 24))) (hBt.trans ((belowAlloc W2 _).mono hBt.size)) D2 hso2.out hx2' (by simp; omega) hndl
      rw [hC'.out,show ((i+1:Nat):Int)=(i:Int)+1 by omega] at hIH
      replace hIH:=Hd hIH
      replace hback:=Hd hback
      replace hr2:=Hd hr2
      replace hx2:=Hd hx2
      replace hx2':=Hd hx2'
      replace hf2:=Hd hf2
      replace hfk2:=Hd hfk2
      replace hal:=Hd hal
      replace htm:=Hd htm
      have hBX:=Hd (hBW.out.trans (hB2.trans ((belowAlloc W2 (.cells #[.int .i64 K,.int .i64 R,.slice va vn vc] 24)).mono hBt.size)))
      clear hS hS2 hS3
      go_wp2_with fail
      refine hIH.out.mono ?_
      rintro e w4 ⟨ret,f4,M4,lv4,ls4,LS4,more4,rfl,hr4,hB4,D4,hso4,hfk4,hst4⟩
      obtain ⟨f5,hr5,hf5,hf5'⟩:=hback.out w4 f4 hr4 hfk4
      have D5:=D4.congr hf5'
      have hBe:=Hd (hBX.out.trans hB4)
      have hfkE:=Hd (show ∀ k,k≤i→f5 (4,k)=f (4,k) from fun k hk=>(hf5 k hk).trans (hfk.out k hk))
      replace hr5:=Hd hr5
      replace hso4:=Hd hso4
      clear hr4 hB4 D4 hfk4 hf5 hf5'
      rcases hst4 with ⟨hfit4,rfl,rfl,rfl⟩ | ⟨hbig4,rfl,rfl⟩
      ·obtain ⟨q,hqd⟩:∃ q,decide (C'≠[])=q:=⟨_,rfl⟩
       rw [hqd]
       cases q with
       | true =>
        have hq3:C'≠[]:=by simpa using hqd
        replace hqd:=Hd hqd
        replace hq3:=Hd hq3
        go_wp2
        refine NoPanic.normal ?_
        go_wp2
        go_roundw
        case rel=>exact ⟨s+1,by omega,by go_num,f5,M4,lv4,ls4,_,_,hr5.out,hBe.out,D5,hso4.out,hfkE.out,.inl ⟨by rw [hCS.out]; simp at hfit4 ⊢; omega,by rw [hCS.out,List.append_assoc],rfl,by rw [hCS.out]; simp [hq3.out]⟩⟩
        case measure=>simp [intOf]; omega
       | false =>
        have hq3:C'=[]:=by simpa using hqd
        replace hqd:=Hd hqd
        replace hq3:=Hd hq3
        go_wp2
        refine NoPanic.normal ?_
        go_wp2
        go_roundw
        case rel=>exact ⟨s+1,by omega,by go_num,f5,M4,lv4,ls4,_,_,hr5.out,hBe.out,D5,hso4.out,hfkE.out,.inl ⟨by rw [hCS.out]; simp at hfit4 ⊢; omega,by rw [hCS.out,List.append_assoc],rfl,by rw [hCS.out,hq3.out,List.append_nil,haq.out]⟩⟩
        case measure=>simp [intOf]; omega
      ·go_wp2
       refine NoPanic.normal ?_
       go_wp2
       go_roundw
       case rel=>exact ⟨s+1,by omega,by go_num,f5,M4,lv4,ls4,_,_,hr5.out,hBe.out,D5,hso4.out,hfkE.out,.inr ⟨by rw [hCS.out] at hmono; simp at hbig4 hmono ⊢; omega,rfl,rfl⟩⟩
       case measure=>simp [intOf]; omega
     ·have hq2:(x==y)=false:=by rw [beq_eq_false_iff_ne]; exact hq
      rw [if_neg hq,List.append_nil] at hCS
      replace hCS:=Hd hCS
      replace hq:=Hd hq
      go_wp2
      refine wp_region_plan (fun w'=>w'.cell? ⟨d,0,none⟩=some (.int .i64 K)∧w'.cell? ⟨d,1,none⟩=some (.int .i64 R)∧w'.cell? ⟨d,2,none⟩=some (.slice va vn vc)∧w'.cell? ⟨d,3,none⟩=some (.slice ua un uc)∧w'.cell? ta=some (.int .i64 x)∧w'.cell? wa=some (.int .i64 y)) 31 [(0,true),(1,true),(2,true),(3,true),(4,true),(5,true),(6,true),(7,true),(8,true),(9,true),(10,true),(11,true),(12,true),(13,true),(14,true),(15,true),(16,true),(17,true),(18,true),(19,true),(22,true),(23,true),(24,true),(25,true),(26,true),(29,true),(30,true),(20,false),(21,false),(27,false),(28,true)] (by kernel_rfl) (by kernel_rfl) ?_
      rw [← hWe]
      replace hWe:=Hd hWe
      clear z0 z7
      refine pqY 78 hS ?_
      refine pqY 79 hS ?_
      refine pqY 80 hS ?_
      refine pqY 81 hS ?_
      refine pqY 82 hS ?_
      refine pqY 83 hS ?_
      refine pqY 84 hS ?_
      refine pqY 85 hS ?_
      refine pqY 86 hS ?_
      refine pqY 87 hS ?_
      refine pqY 88 hS ?_
      refine pqY 89 hS ?_
      refine pqY 90 hS ?_
      refine pqY 91 hS ?_
      refine pqY 92 hS ?_
      refine pqY 93 hS ?_
      refine pqY 94 hS ?_
      refine pqN 95 hS ?_
      refine pqN 96 hS ?_
      refine pqN 97 hS ?_
      refine pqN 100 hS ?_
      refine pqN 101 hS ?_
      refine pqN 102 hS ?_
      refine pqN 103 hS ?_
      refine pqN 104 hS ?_
      refine pqN 107 hS ?_
      refine pqN 108 hS ?_
      refine headC rfl (fun KK hK=>?_)
      go_simp
      refine hK _ _ hS ?_
      clear hK KK
      refine headC rfl (fun KK hK=>?_)
      go_simp
      refine hK _ _ hS ?_
      clear hK KK
      refine headC rfl (fun KK hK=>?_)
      go_simp
      refine hK _ _ hS ?_
      clear hK KK
      refine pqN 106 hS ?_
      refine head0 ?_
      simp only [List.drop_succ_cons,List.drop_zero]
      replace htm:=Hd htm
      clear hS
      go_wp2
      refine NoPanic.normal ?_
      go_wp2
      go_roundw
      case rel=>exact ⟨s+1,by omega,by go_num,f',M',lv',ls',_,_,hrW.out,hBW.out,D',hso2.out,hfk.out,.inl ⟨by rw [hCS.out]; exact hfit,by rw [hCS.out],rfl,by rw [hCS.out,haq.out]⟩⟩
      case measure=>simp [intOf]; omega
    ·obtain rfl:s=K:=by omega
     obtain ⟨q,hqd⟩:∃ q,decide (CU s≠[])=q:=⟨_,rfl⟩
     rw [hqd]
     cases q with
     | true =>
      replace hqd:=Hd hqd
      have HM:=(D'.marks i hi).2
      have m0:=D'.cellH hr' 0 (by decide)
      have m4:=D'.cellH hr' 4 (by decide)
      have m7:=D'.cell7 hr'
      simp only [List.getElem?_cons_succ,List.getElem?_cons_zero] at m0 m4
      have mA:=(D'.outerV hr').at.cellV i (by rw [haz.out]; exact hi)
      have mV:=D'.marksV hr' i hi
      have mM:=mV.at.cellV node (by rw [List.length_map,HM]; exact hnode)
      have mF:=mV.frz node (by rw [List.length_map,HM]; exact hnode)
      rw [hpa.out,hmv.out] at mA
      rw [hmv.out,hpm.out] at mM mF
      obtain ⟨fE,hrE,DE,hfE⟩:=D'.mark hr' i hi node hnode false
      rw [hmv.out,hpm.out] at hrE
      have hpB:w0.heap.size≤pm.block:=by
       have h:=mV.blkB node (by rw [List.length_map,HM]; exact hnode)
       rw [hmv.out,hpm.out] at h
       exact h.2
      generalize vAt ((M' i).map Value.bool) node=mbv at mM
      replace mV:=Hd mV
      have hsoE:=Hd (hso2.out.mark i node false (by intro h; cases h))
      replace hrE:=Hd hrE
      replace hfE:=Hd hfE
      replace DE:=Hd DE
      replace HM:=Hd HM
      replace hBr:=Hd hBr
      go_wp2
      refine wp_region_plan (fun w'=>w'.cell? ⟨d,4,none⟩=some (.slice Aa An Ac)∧w'.cell? pa=some (.slice ma mn mc)∧w'.cell? ⟨d,7,none⟩=some (.bool false)) 18 [(0,true),(1,true),(2,true),(3,true),(4,true),(5,true),(6,true),(7,true),(8,true),(9,true),(10,true),(11,true),(12,true),(13,true),(14,true),(15,true),(16,true),(17,true)] (by kernel_rfl) (by kernel_rfl) ?_
      have hS:wo.drew.cell? ⟨d,4,none⟩=some (.slice Aa An Ac)∧wo.drew.cell? pa=some (.slice ma mn mc)∧wo.drew.cell? ⟨d,7,none⟩=some (.bool false):=⟨m4,mA,m7⟩
      refine pqY 111 hS ?_
      refine pqY 112 hS ?_
      refine pqY 113 hS ?_
      refine pqY 114 hS ?_
      refine pqY 115 hS ?_
      refine pqY 116 hS ?_
      refine pqY 117 hS ?_
      refine pqY 118 hS ?_
      refine pqY 119 hS ?_
      refine pqY 120 hS ?_
      refine pqY 121 hS ?_
      refine pqN 122 hS ?_
      refine pqN 123 hS ?_
      refine pqN 124 hS ?_
      refine pqN 125 hS ?_
      refine pqN 126 hS ?_
      refine pqY 127 hS ?_
      refine pqY 128 hS ?_
      refine head0 ?_
      simp only [List.drop_succ_cons,List.drop_zero]
      clear hS m0 m4 m7 mA
      go_wp2
      refine NoPanic.normal ?_
      go_wp2
      go_ret
      exact ⟨.bool true,fE,_,lv',ls',_,_,rfl,hrE.out.drew,(show Below w0.heap.size wo wo.drew from ⟨rfl,rfl,rfl,Nat.le_refl _,fun _ _=>rfl⟩) |> hBr.out.trans |>.setCell hpB _,DE.out,hsoE.out,fun k hk=>(hfE.out _ (by simp)).trans (hfk.out k hk),.inl ⟨hfit,rfl,rfl,by rw [hqd.out]⟩⟩
     | false =>
      have hnil:compl s N T node (ws.drop i)=[]:=by
       have:CU s=[]:=by simpa using hqd
       rw [hCU.out] at this
       rw [List.drop_eq_getElem_cons hi,compl_cons]
       simpa using this
      replace hqd:=Hd hqd
      replace hnil:=Hd hnil
      have HM:=(D'.marks i hi).2
      have m0:=D'.cellH hr' 0 (by decide)
      have m4:=D'.cellH hr' 4 (by decide)
      have m7:=D'.cell7 hr'
      simp only [List.getElem?_cons_succ,List.getElem?_cons_zero] at m0 m4
      have mA:=(D'.outerV hr').at.cellV i (by rw [haz.out]; exact hi)
      have mV:=D'.marksV hr' i hi
      have mM:=mV.at.cellV node (by rw [List.length_map,HM]; exact hnode)
      have mF:=mV.frz node (by rw [List.length_map,HM]; exact hnode)
      rw [hpa.out,hmv.out] at mA
      rw [hmv.out,hpm.out] at mM mF
      obtain ⟨fE,hrE,DE,hfE⟩:=D'.mark hr' i hi node hnode true
      rw [hmv.out,hpm.out] at hrE
      have hpB:w0.heap.size≤pm.block:=by
       have h:=mV.blkB node (by rw [List.length_map,HM]; exact hnode)
       rw [hmv.out,hpm.out] at h
       exact h.2
      generalize vAt ((M' i).map Value.bool) node=mbv at mM
      replace mV:=Hd mV
      have hsoE:=Hd (hso2.out.mark i node true (fun _=>hnil.out))
      replace hrE:=Hd hrE
      replace hfE:=Hd hfE
      replace DE:=Hd DE
      replace HM:=Hd HM
      replace hBr:=Hd hBr
      go_wp2
      refine wp_region_plan (fun w'=>w'.cell? ⟨d,4,none⟩=some (.slice Aa An Ac)∧w'.cell? pa=some (.slice ma mn mc)∧w'.cell? ⟨d,7,none⟩=some (.bool false)) 18 [(0,true),(1,true),(2,true),(3,true),(4,true),(5,true),(6,true),(7,true),(8,true),(9,true),(10,true),(11,true),(12,true),(13,true),(14,true),(15,true),(16,true),(17,true)] (by kernel_rfl) (by kernel_rfl) ?_
      have hS:wo.drew.cell? ⟨d,4,none⟩=some (.slice Aa An Ac)∧wo.drew.cell? pa=some (.slice ma mn mc)∧wo.drew.cell? ⟨d,7,none⟩=some (.bool false):=⟨m4,mA,m7⟩
      refine pqY 111 hS ?_
      refine pqY 112 hS ?_
      refine pqY 113 hS ?_
      refine pqY 114 hS ?_
      refine pqY 115 hS ?_
      refine pqY 116 hS ?_
      refine pqY 117 hS ?_
      refine pqY 118 hS ?_
      refine pqY 119 hS ?_
      refine pqY 120 hS ?_
      refine pqY 121 hS ?_
      refine pqY 122 hS ?_
      refine pqY 123 hS ?_
      refine pqY 124 hS ?_
      refine pqY 125 hS ?_
      refine pqY 126 hS ?_
      refine pqY 127 hS ?_
      refine pqY 128 hS ?_
      refine head0 ?_
      simp only [List.drop_succ_cons,List.drop_zero]
      clear hS m0 m4 m7 mA
      go_wp2
      refine NoPanic.normal ?_
      go_wp2
      go_ret
      exact ⟨.bool false,fE,_,lv',ls',_,_,rfl,hrE.out.drew,(show Below w0.heap.size wo wo.drew from ⟨rfl,rfl,rfl,Nat.le_refl _,fun _ _=>rfl⟩) |> hBr.out.trans |>.setCell hpB _,DE.out,hsoE.out,fun k hk=>(hfE.out _ (by simp)).trans (hfk.out k hk),.inl ⟨hfit,rfl,rfl,by rw [hqd.out]⟩⟩
   ·by_cases hlt:s<K
    ·skip
     have HM:=(D'.marks i hi).2
     have m0:=D'.cellH hr' 0 (by decide)
     have m4:=D'.cellH hr' 4 (by decide)
     have m7:=D'.cell7 hr'
     simp only [List.getElem?_cons_succ,List.getElem?_cons_zero] at m0 m4
     have mA:=(D'.outerV hr').at.cellV i (by rw [haz.out]; exact hi)
     have mV:=D'.marksV hr' i hi
     have mM:=mV.at.cellV node (by rw [List.length_map,HM]; exact hnode)
     have mF:=mV.frz node (by rw [List.length_map,HM]; exact hnode)
     rw [hpa.out,hmv.out] at mA
     rw [hmv.out,hpm.out] at mM mF
     obtain ⟨fE,hrE,DE,hfE⟩:=D'.mark hr' i hi node hnode false
     rw [hmv.out,hpm.out] at hrE
     have hpB:w0.heap.size≤pm.block:=by
      have h:=mV.blkB node (by rw [List.length_map,HM]; exact hnode)
      rw [hmv.out,hpm.out] at h
      exact h.2
     generalize vAt ((M' i).map Value.bool) node=mbv at mM
     replace mV:=Hd mV
     have hsoE:=Hd (hso2.out.mark i node false (by intro h; cases h))
     replace hrE:=Hd hrE
     replace hfE:=Hd hfE
     replace DE:=Hd DE
     replace HM:=Hd HM
     replace hBr:=Hd hBr
     go_wp2
     refine wp_region_plan (fun w'=>w'.cell? ⟨d,4,none⟩=some (.slice Aa An Ac)∧w'.cell? pa=some (.slice ma mn mc)∧w'.cell? ⟨d,7,none⟩=some (.bool true)) 18 [(0,true),(1,true),(2,true),(3,true),(4,true),(5,true),(6,true),(7,true),(8,true),(9,true),(10,true),(11,true),(12,true),(13,true),(14,true),(15,true),(16,true),(17,true)] (by kernel_rfl) (by kernel_rfl) ?_
     have hS:wo.drew.cell? ⟨d,4,none⟩=some (.slice Aa An Ac)∧wo.drew.cell? pa=some (.slice ma mn mc)∧wo.drew.cell? ⟨d,7,none⟩=some (.bool true):=⟨m4,mA,m7⟩
     refine pqY 111 hS ?_
     refine pqY 112 hS ?_
     refine pqY 113 hS ?_
     refine pqY 114 hS ?_
     refine pqY 115 hS ?_
     refine pqY 116 hS ?_
     refine pqY 117 hS ?_
     refine pqY 118 hS ?_
     refine pqY 119 hS ?_
     refine pqY 120 hS ?_
     refine pqY 121 hS ?_
     refine pqN 122 hS ?_
     refine pqN 123 hS ?_
     refine pqN 124 hS ?_
     refine pqN 125 hS ?_
     refine pqN 126 hS ?_
     refine pqY 127 hS ?_
     refine pqY 128 hS ?_
     refine head0 ?_
     simp only [List.drop_succ_cons,List.drop_zero]
     clear hS m0 m4 m7 mA
     go_wp2
     refine NoPanic.normal ?_
     go_wp2
     go_ret
     exact ⟨.bool true,fE,_,lv',ls',_,_,rfl,hrE.out.drew,(show Below w0.heap.size wo wo.drew from ⟨rfl,rfl,rfl,Nat.le_refl _,fun _ _=>rfl⟩) |> hBr.out.trans |>.setCell hpB _,DE.out,hsoE.out,fun k hk=>(hfE.out _ (by simp)).trans (hfk.out k hk),.inr ⟨hbig,rfl,rfl⟩⟩
    ·skip
     have HM:=(D'.marks i hi).2
     have m0:=D'.cellH hr' 0 (by decide)
     have m4:=D'.cellH hr' 4 (by decide)
     have m7:=D'.cell7 hr'
     simp only [List.getElem?_cons_succ,List.getElem?_cons_zero] at m0 m4
     have mA:=(D'.outerV hr').at.cellV i (by rw [haz.out]; exact hi)
     have mV:=D'.marksV hr' i hi
     have mM:=mV.at.cellV node (by rw [List.length_map,HM]; exact hnode)
     have mF:=mV.frz node (by rw [List.length_map,HM]; exact hnode)
     rw [hpa.out,hmv.out] at mA
     rw [hmv.out,hpm.out] at mM mF
     obtain ⟨fE,hrE,DE,hfE⟩:=D'.mark hr' i hi node hnode false
     rw [hmv.out,hpm.out] at hrE
     have hpB:w0.heap.size≤pm.block:=by
      have h:=mV.blkB node (by rw [List.length_map,HM]; exact hnode)
      rw [hmv.out,hpm.out] at h
      exact h.2
     generalize vAt ((M' i).map Value.bool) node=mbv at mM
     replace mV:=Hd mV
     have hsoE:=Hd (hso2.out.mark i node false (by intro h; cases h))
     replace hrE:=Hd hrE
     replace hfE:=Hd hfE
     replace DE:=Hd DE
     replace HM:=Hd HM
     replace hBr:=Hd hBr
     go_wp2
     refine wp_region_plan (fun w'=>w'.cell? ⟨d,4,none⟩=some (.slice Aa An Ac)∧w'.cell? pa=some (.slice ma mn mc)∧w'.cell? ⟨d,7,none⟩=some (.bool true)) 18 [(0,true),(1,true),(2,true),(3,true),(4,true),(5,true),(6,true),(7,true),(8,true),(9,true),(10,true),(11,true),(12,true),(13,true),(14,true),(15,true),(16,true),(17,true)] (by kernel_rfl) (by kernel_rfl) ?_
     have hS:wo.drew.cell? ⟨d,4,none⟩=some (.slice Aa An Ac)∧wo.drew.cell? pa=some (.slice ma mn mc)∧wo.drew.cell? ⟨d,7,none⟩=some (.bool true):=⟨m4,mA,m7⟩
     refine pqY 111 hS ?_
     refine pqY 112 hS ?_
     refine pqY 113 hS ?_
     refine pqY 114 hS ?_
     refine pqY 115 hS ?_
     refine pqY 116 hS ?_
     refine pqY 117 hS ?_
     refine pqY 118 hS ?_
     refine pqY 119 hS ?_
     refine pqY 120 hS ?_
     refine pqY 121 hS ?_
     refine pqN 122 hS ?_
     refine pqN 123 hS ?_
     refine pqN 124 hS ?_
     refine pqN 125 hS ?_
     refine pqN 126 hS ?_
     refine pqY 127 hS ?_
     refine pqY 128 hS ?_
     refine head0 ?_
     simp only [List.drop_succ_cons,List.drop_zero]
     clear hS m0 m4 m7 mA
     go_wp2
     refine NoPanic.normal ?_
     go_wp2
     go_ret
     exact ⟨.bool true,fE,_,lv',ls',_,_,rfl,hrE.out.drew,(show Below w0.heap.size wo wo.drew from ⟨rfl,rfl,rfl,Nat.le_refl _,fun _ _=>rfl⟩) |> hBr.out.trans |>.setCell hpB _,DE.out,hsoE.out,fun k hk=>(hfE.out _ (by simp)).trans (hfk.out k hk),.inr ⟨hbig,rfl,rfl⟩⟩
end Go.Proofs.YtkaoebokbfcmhaaGreatDoor
namespace Go.Proofs.YtkaoebokbfcmhaaGreatDoor
open Go.RowKit
theorem on_any (w0:World) (K N R:Nat) (T ws:List Int) (d:Nat) (va:Option Addr) (vn vc:Nat) (ua:Option Addr) (un uc:Nat) (A:Value) (az:List Value) (most:Nat)
 (hok:RuleOk K R T) (hN:T.length/K=N) (hT256:T.length≤256) (hm:most≤256) (hwl:ws.length≤256) (hT0:IntsAt w0 (.slice va vn vc) T) (hW0:IntsAt w0 (.slice ua un uc) ws) :
 ∀ (n i:Nat),i+n=ws.length→∀ (f:Names) (M:Nat→List Bool) (lv:Value) (ls:List Value) (LS:List (List Int)) (xv:Value) (xs:List Int) (node:Nat) (w:World),Rows w0.heap.size w f→Below w0.heap.size w0 w →
  DN f d [.int .i64 K,.int .i64 R,.slice va vn vc,.slice ua un uc,A,.int .i64 most] A az ws.length N most M lv ls LS false→Sound K N T ws M→f (4,i)=some (rowI xv xs)→xs.length≤8+i→node<N →
  Calls Tryz.prog 42 #[.pointer (some ⟨d,0,none⟩),xv,.int .i64 node,.int .i64 (i:Int)] w (OnPost w0.heap.size K N T ws d [.int .i64 K,.int .i64 R,.slice va vn vc,.slice ua un uc,A,.int .i64 most] A az most f LS ((compl K N T node (ws.drop i)).map (xs++·)) i w):=by
 intro n
 induction n with
 | zero =>
  intro i hin f M lv ls LS xv xs node w hr hb D hso hx hxl hn
  obtain rfl:i=ws.length:=by omega
  exact on_end w0.heap.size K N R T ws d _ ua un uc A az most f M lv ls LS xv xs node w hb.size hr (hW0.below hb) D hso hx (by omega) hm
 | succ n ih =>
  intro i hin f M lv ls LS xv xs node w hr hb D hso hx hxl hn
  exact on_step w0 K N R T ws d va vn vc ua un uc A az most i (by omega) hok hN hT256 hwl hT0 hW0 (ih (i+1) (by omega)) f M lv ls LS xv xs node w hr hb D hso hx hxl hn
set_option maxRecDepth 100000
set_option maxHeartbeats 8000000
theorem run_makeV {T E:TypeId} {z:Value} {b:Nat} (oc:OneCell T E z b) (C:Int) (n:Nat) (w:World) (hC:C=n) (hn:n≤4398046511104) :
 ∃ v w',(Instr.makeSlice T (.int .i64 C) (.int .i64 C)).run Tryz.prog w=.ok v w'∧OwnV E w.heap.size w' v (List.replicate n z)∧Below w.heap.size w w':=by
 subst hC
 obtain ⟨i,hi,hz0,hz1,hz2⟩:=info_parts oc.hi
 have hb:=oc.hb
 obtain ⟨w',hrun,r1,r2⟩:=run_make_full (P:=Tryz.prog) w w.heap.size T E i z 1 oc.ht hi hz0 hz1 .i64 .i64 n (by
  rw [hz2]
  calc b*n≤32*4398046511104:=Nat.mul_le_mul hb (by omega)
   _≤_:=by decide) (by unfold maxLen; omega) (Nat.le_refl _)
 refine ⟨_,w',hrun,?_,(Below.refl _ _).grown r2 (Nat.le_refl _) (by intro k hk; cases hk)⟩
 rw [oc.hz,toList_madeCells_one] at r1
 simpa [OwnV] using r1
theorem before_bad (r:Nat→Addr) (k R:Int) (va:Option Addr) (vn vc:Nat) (T:List Int) (u:Value) (ws:List Int) (t:Int×List (ByteArray×Int)) (w:World) (hg:Glob r w) (h:IntsAt w (.slice va vn vc) T) (hu:IntsAt w u ws) (hc:overP k R T ws 256=some t) (m:Int) :
 Calls Tryz.prog 10 #[.agg #[.int .i64 k,.int .i64 R,.slice va vn vc],u,.int .i64 m] w (Ret3 (fun x y z w'=>x=.slice none 0 0∧y=.bool false∧ErrIs r w' (some t) z) w):=by
 have b0:=belowAlloc w (.cells #[.int .i64 k,.int .i64 R,.slice va vn vc] 24)
 obtain ⟨a1,n1,c1,rfl⟩:=hu.shape
 replace hg:=Hd (hg.below b0)
 replace h:=Hd (h.below b0)
 replace hu:=Hd (hu.below b0)
 replace hc:=Hd hc
 go_enter Tryz.func10,Tryz.ntmps10
 go_wp2_with fail
 refine (over_check r k R va vn vc T _ ws 256 _ hg.out h.out hu.out).mono ?_
 rintro e w1 ⟨x,rfl,b1,he⟩
 rw [hc.out] at he
 obtain ⟨T1,a1,rfl⟩:=ErrIs.some_shape he
 replace he:=Hd he
 go_wp2
 go_ret3
 exact ⟨_,_,_,rfl,Below.step b0 b1,rfl,rfl,he.out⟩
def BefInv1 (w0:World) (N L d:Nat) (hd:List Value) (A:Value) (i:Nat) (w:World):Prop :=
 Below w0.heap.size w0 w∧hd.length=6∧hd[4]?=some A∧∃ f az,Rows w0.heap.size w f∧f (0,0)=some ⟨90,8,.slice (some ⟨d,0,none⟩) 1 1,1,hd++[Value.slice none 0 0,Value.bool false]⟩∧f (5,0)=some (rowV 91 A az)∧az.length=L ∧
  ∀ j,j<i→f (2,j)=some (rowV 4 (vAt az j) (List.replicate N (.bool false)))
theorem BefInv1.drew {w0:World} {N L d:Nat} {hd:List Value} {A:Value} {i:Nat} {w:World} (h:BefInv1 w0 N L d hd A i w):BefInv1 w0 N L d hd A i w.drew:=by
 obtain ⟨h1,h2,h3,f,az,h4,h5⟩:=h
 exact ⟨h1.drew,h2,h3,f,az,h4.drew,h5⟩
theorem BefInv1.cell4 {w0:World} {N L d:Nat} {hd:List Value} {A:Value} {i:Nat} {w:World} (h:BefInv1 w0 N L d hd A i w):w.cell? ⟨d,4,none⟩=some A:=by
 obtain ⟨h1,h2,h3,f,az,h4,h5,_⟩:=h
 rw [h4.cell h5 (g:=d) (cap:=1) rfl 4 (by simp),List.getElem?_append_left (by rw [h2]; decide),h3]
theorem BefInv1.idx {w0:World} {N L d:Nat} {hd:List Value} {A:Value} {i:Nat} {w:World} (h:BefInv1 w0 N L d hd A i w) (hi:i<L) (w':World) :
 (Instr.indexAt 88 A (.int .i64 i)).run Tryz.prog w'=.ok (.pointer (some (valAt A i))) w':=by
 obtain ⟨h1,h2,h3,f,az,h4,h5,h6,h7,_⟩:=h
 exact (h4.ownV h6).at.idx oneBoolss i (by omega) w'
theorem BefInv1.step {w0:World} {N L d:Nat} {hd:List Value} {A mv:Value} {i:Nat} {w w4:World} (h:BefInv1 w0 N L d hd A i w) (hi:i<L) (hb:Below w.heap.size w w4) (hm:OwnV 4 w.heap.size w4 mv (List.replicate N (.bool false))) :
 (∃ u,w4.cell? (valAt A i)=some u)∧w4.frozen? (valAt A i)=false∧BefInv1 w0 N L d hd A (i+1) (w4.setCell (valAt A i) mv):=by
 obtain ⟨h1,h2,h3,f,az,h4,h5,h6,h7,h8⟩:=h
 have r1:=h4.add (i:=(2,i)) (r':=rowV 4 mv (List.replicate N (.bool false))) hb (hm.mono h1.size) (fun k hk=>(hm.lt k hk).1)
 have e6:upd f (2,i) (some (rowV 4 mv (List.replicate N (.bool false)))) (5,0)=some (rowV 91 A az):=by rw [upd_ne _ _ (by simp)]; exact h6
 have hil:i<az.length:=by omega
 have hv:=r1.ownV e6
 have r2:=r1.setV e6 i hil mv
 refine ⟨⟨_,hv.at.cellV i hil⟩,hv.frz i hil,(h1.trans (hb.mono h1.size)).setCell (hv.blkB i hil).2 mv,h2,h3,_,_,r2,?_,upd_same _ _ _,by simpa using h7,fun j hj=>?_⟩
 ·rw [upd_ne _ _ (by simp),upd_ne _ _ (by simp)]; exact h5
 ·rw [upd_ne _ _ (by simp)]
  by_cases e:j=i
  ·subst e
   rw [upd_same]
   simp [vAt,List.getD,hil]
  ·rw [upd_ne _ _ (by simp [e]),h8 j (by omega)]
   simp [vAt,List.getD,Ne.symm e]
theorem below_drewN' {B:Nat} {w w':World} (h:Below B w w') (n:Nat):Below B w (w'.drewN n):=⟨h.os,h.tape,h.output,h.size,h.block⟩
theorem Rows.empty (B:Nat) (w:World):Rows B w (fun _=>Option.none):=by
 refine ⟨?_,?_⟩
 ·intro i r h; cases h
 ·intro i j r s h; cases h
theorem dead_rows {w0 w2:World} {N L:Nat} {A:Value} (hd:List Value) (h6:hd.length=6) (hA:OwnV 91 w0.heap.size w2 A (List.replicate L (.slice none 0 0))) (hb:Below w0.heap.size w0 w2) {cs:Array Value} (hcs:cs.toList=hd++[Value.slice none 0 0,Value.bool false]) (h4:hd[4]?=some A) :
 BefInv1 w0 N L w2.heap.size hd A 0 (w2.alloc (.cells cs 90)):=by
 have r1:=(Rows.empty w0.heap.size w0).add (i:=(5,0)) (r':=rowV 91 A (List.replicate L (.slice none 0 0))) hb hA (fun k hk=>(hA.lt k hk).1)
 have hlit:=World.ownsRow_lit (base:=w0.heap.size) (e:=90) (size:=8) w2 cs 1 hb.size (by unfold maxLen; omega) (by rw [← Array.length_toList,hcs]; simp [h6])
 rw [hcs] at hlit
 have r2:=r1.add (i:=(0,0)) (r':=⟨90,8,.slice (some ⟨w2.heap.size,0,none⟩) 1 1,1,hd++[Value.slice none 0 0,Value.bool false]⟩) (belowAlloc w2 (.cells cs 90)) hlit (fun k hk=>by
  have:w2.heap.size=k:=by simpa [Value.ownBlock] using hk
  omega)
 refine ⟨hb.alloc hb.size _,h6,h4,_,_,r2,upd_same _ _ _,by rw [upd_ne _ _ (by simp),upd_same],by simp,fun j hj=>by omega⟩
theorem keep4 {w w':World} {a0 a1 a2 a3:Addr} {u0 u1 u2 u3:Value} (h:w.cell? a0=some u0∧w.cell? a1=some u1∧w.cell? a2=some u2∧w.cell? a3=some u3) (hb:Below w.heap.size w w') :
 w'.cell? a0=some u0∧w'.cell? a1=some u1∧w'.cell? a2=some u2∧w'.cell? a3=some u3:=by
 obtain ⟨h0,h1,h2,h3⟩:=h
 have k:∀ {a:Addr} {u:Value},w.cell? a=some u→w'.cell? a=some u:=fun {a u} h=>(hb.cell (World.block_lt_of_cell? _ _ h)).trans h
 exact ⟨k h0,k h1,k h2,k h3⟩
def BefInv2 (w0:World) (K N R d m:Nat) (T ws:List Int) (hd:List Value) (A:Value) (bv:Value) (node:Nat) (w:World):Prop :=
 Below w0.heap.size w0 w∧∃ f az M lv ls LS more xs,Rows w0.heap.size w f∧DN f d hd A az ws.length N m M lv ls LS more∧Sound K N T ws M∧f (4,0)=some (rowI bv xs)∧(node<N→xs=digs K (2*R) node)∧((more=false→LS=allBefore K R T ws node)∧(more=true→m<(allBefore K R T ws node).length))
theorem BefInv1.two {w0:World} {K N R d m:Nat} {T ws:List Int} {hd:List Value} {A bv:Value} {w w':World} (h:BefInv1 w0 N ws.length d hd A ws.length w) (hb:Below w.heap.size w w') (ho:OwnI w.heap.size w' bv (List.replicate (2*R) 0)):BefInv2 w0 K N R d m T ws hd A bv 0 w':=by
 obtain ⟨h1,h2,h3,f,az,h4,h5,h6,h7,h8⟩:=h
 have r1:=h4.add (i:=(4,0)) (r':=rowI bv (List.replicate (2*R) 0)) hb (ho.mono h1.size) (fun k hk=>(ho.lt k hk).1)
 have r2:=r1.add (i:=(1,0)) (r':=rowV 22 (.slice none 0 0) []) (Below.refl _ _) (OwnV.nil 22 w0.heap.size w') (fun k hk=>by cases hk)
 refine ⟨h1.trans (hb.mono h1.size),_,az,fun _=>List.replicate N false,.slice none 0 0,[],[],false,List.replicate (2*R) 0,r2,⟨?_,h2,?_,h7,fun i hi=>?_,upd_same _ _ _,rfl,fun j hj=>by simp at hj,by simp⟩,fun i node _ hm=>?_,?_,fun _=>(digs_zero K (2*R)).symm,⟨fun _=>rfl,fun h=>by cases h⟩⟩
 ·rw [upd_ne _ _ (by simp),upd_ne _ _ (by simp)]; exact h5
 ·rw [upd_ne _ _ (by simp),upd_ne _ _ (by simp)]; exact h6
 ·rw [upd_ne _ _ (by simp),upd_ne _ _ (by simp),h8 i hi]; simp
 ·rw [List.getElem?_replicate] at hm; split at hm<;>cases hm
 ·rw [upd_ne _ _ (by simp),upd_same]
def BefPost (m K R:Nat) (T ws:List Int) (x y:Value) (w':World):Prop :=
 ∃ (ls:List Value) (LS:List (List Int)) (more:Bool),y=.bool more∧ValsAt w' x ls∧ls.length=LS.length∧LS.length≤m∧(∀ j,j<ls.length→IntsAt w' (vAt ls j) (LS.getD j []))∧(more=false→LS=allBefore K R T ws (pw K (2*R)))∧(more=true→m<(allBefore K R T ws (pw K (2*R))).length)
theorem allBefore_le (K R:Nat) (T ws:List Int) {n N:Nat} (h:n≤N):(allBefore K R T ws n).length≤(allBefore K R T ws N).length:=by
 obtain ⟨d,rfl⟩:∃ d,N=n+d:=⟨N-n,by omega⟩
 induction d with
 | zero=>exact Nat.le_refl _
 | succ d ih=>rw [← Nat.add_assoc,allBefore_succ,List.length_append]; exact Nat.le_trans (ih (by omega)) (Nat.le_add_right _ _)
theorem before_ok (r:Nat→Addr) (K R:Nat) (va:Option Addr) (vn vc:Nat) (T:List Int) (u:Value) (ws:List Int) (w:World) (hg:Glob r w) (h:IntsAt w (.slice va vn vc) T) (hu:IntsAt w u ws) (hok:RuleOk K R T) (hc:overP K R T ws 256=none) (hT256:T.length≤256) (hwl:ws.length≤256) (m:Nat) (hm256:m≤256) :
 Calls Tryz.prog 10 #[.agg #[.int .i64 K,.int .i64 R,.slice va vn vc],u,.int .i64 m] w (Ret3 (fun x y z w'=>z=.nilIface∧BefPost m K R T ws x y w') w):=by
 have b0:=belowAlloc w (.cells #[.int .i64 K,.int .i64 R,.slice va vn vc] 24)
 have q:Box3 (w.alloc (.cells #[.int .i64 K,.int .i64 R,.slice va vn vc] 24)) w.heap.size (.int .i64 K) (.int .i64 R) (.slice va vn vc):=by simp [Box3,go_sem]
 obtain ⟨ua,un,uc,rfl⟩:=hu.shape
 have lw:=hu.len
 replace hg:=Hd (hg.below b0)
 replace h:=Hd (h.below b0)
 replace hu:=Hd (hu.below b0)
 replace hc:=Hd hc
 have hk1:=hok.k1
 have hk4:=hok.k4
 have hR:=hok.r3
 replace hok:=Hd hok
 go_enter Tryz.func10,Tryz.ntmps10
 go_wp2_with fail
 refine (over_check r K R va vn vc T _ ws 256 _ hg.out h.out hu.out).mono ?_
 rintro e w1 ⟨x,rfl,b1,he⟩
 rw [hc.out] at he
 obtain rfl:=he.none_eq
 clear he
 go_wp2
 refine wp_region_plan (fun w'=>w'.cell? ⟨w.heap.size,0,none⟩=some (.int .i64 K)∧w'.cell? ⟨w.heap.size,1,none⟩=some (.int .i64 R)∧w'.cell? ⟨w.heap.size,2,none⟩=some (.slice va vn vc)) 8 [(0,true),(1,true),(2,true),(3,true),(4,true),(5,false),(6,true),(7,false)] (by kernel_rfl) (by kernel_rfl) ?_
 obtain ⟨w0,hw0⟩:∃ w0,w0=w1.drew:=⟨_,rfl⟩
 rw [← hw0]
 have q0:Box3 w0 w.heap.size (.int .i64 K) (.int .i64 R) (.slice va vn vc):=by rw [hw0]; exact (q.below b1).drew
 have hT0:=Hd (show IntsAt w0 (.slice va vn vc) T by rw [hw0]; exact (h.out.below b1).drew)
 have hW0:=Hd (show IntsAt w0 (.slice ua un uc) ws by rw [hw0]; exact (hu.out.below b1).drew)
 have hB0:=Hd (show Below w.heap.size w w0 by rw [hw0]; exact (Below.step b0 b1).drew)
 have hlt0:w.heap.size<w0.heap.size:=World.block_lt_of_cell? _ _ q0.1.1
 clear hw0
 obtain ⟨A,w2,hmk,hA,hb8⟩:=run_makeV oneBoolss (ws.length:Int) ws.length w0 rfl (by omega)
 obtain ⟨Aa,An,Ac,rfl⟩:=hA.shape
 have hS:=q0.1
 refine pqY 30 hS ?_
 refine pqY 31 hS ?_
 refine pqY 32 hS ?_
 refine pqY 33 hS ?_
 refine pqY 34 hS ?_
 refine headC rfl (fun KK hK=>?_)
 go_simp
 have hS8:=keep3 hb8 hS
 refine hK _ _ hS8 ?_
 clear hK KK
 refine pqY 36 hS8 ?_
 refine headC rfl (fun KK hK=>?_)
 go_simp
 refine hK _ _ (keep3 (belowAlloc _ _) hS8) ?_
 clear hK KK
 refine head0 ?_
 simp only [List.drop_succ_cons,List.drop_zero]
 obtain ⟨W,hWe⟩:∃ W:World,W=w2.alloc (.cells #[.int .i64 K,.int .i64 R,.slice va vn vc,.slice ua un uc,.slice Aa An Ac,.int .i64 m,.slice none 0 0,.bool false] 90):=⟨_,rfl⟩
 rw [← hWe]
 have hI:=dead_rows (N:=T.length/K) [.int .i64 K,.int .i64 R,.slice va vn vc,.slice ua un uc,.slice Aa An Ac,.int .i64 m] rfl hA hb8 (cs:=#[.int .i64 K,.int .i64 R,.slice va vn vc,.slice ua un uc,.slice Aa An Ac,.int .i64 m,.slice none 0 0,.bool false]) rfl rfl
 rw [← hWe] at hI
 have lA:=fun w'=>hA.at.len oneBoolss 3 w'
 rw [List.length_replicate] at lA
 have hB0W:=hI.1
 have mA:=hI.cell4
 have q0W:=q0.belowB hB0W hlt0
 clear hS hS8 hmk hA hb8
 generalize w2.heap.size=d at *
 obtain ⟨N,hN⟩:∃ N,T.length/K=N:=⟨_,rfl⟩
 rw [hN] at hI
 have hNl:N≤256:=by rw [← hN]; exact Nat.le_trans (Nat.div_le_self _ _) hT256
 have hNp:N=pw K (2*R):=by rw [← hN]; exact hok.out.half.1
 have hN1:1≤N:=by rw [hNp]; exact pw_pos _ hk1
 replace hN:=Hd hN
 replace hNp:=Hd hNp
 replace hWe:=Hd hWe
 obtain ⟨y0,y1,y2⟩:=q0W.1
 go_wp2
 refine NoPanic.normal ?_
 go_wp2
 clear y0 y1 y2 mA
 go_loopw [43] (fun iv wr=>∃ i:Nat,i≤ws.length∧iv=.int .i64 i∧BefInv1 w0 N ws.length d [.int .i64 K,.int .i64 R,.slice va vn vc,.slice ua un uc,.slice Aa An Ac,.int .i64 m] (.slice Aa An Ac) i wr) (fun iv _=>ws.length-(intOf iv).toNat)
 case atStart=>exact ⟨0,by omega,rfl,hI⟩
 case round =>
  obtain ⟨i,hi,rfl,hI⟩:=hrel
  obtain ⟨wo,rfl⟩:∃ wo:World,wo=wr:=⟨_,rfl⟩
  by_cases hlt:i<ws.length
  ·go_wp2
   refine wp_region_plan (fun w'=>w'.cell? ⟨w.heap.size,0,none⟩=some (.int .i64 K)∧w'.cell? ⟨w.heap.size,1,none⟩=some (.int .i64 R)∧w'.cell? ⟨w.heap.size,2,none⟩=some (.slice va vn vc)∧w'.cell? ⟨d,4,none⟩=some (.slice Aa An Ac)) 9 [(0,true),(1,true),(2,true),(3,true),(4,true),(5,true),(6,false),(7,false),(8,true)] (by kernel_rfl) (by kernel_rfl) ?_
   obtain ⟨W3,hW3⟩:∃ W3:World,W3=wo.drew:=⟨_,rfl⟩
   rw [← hW3]
   have hI3:BefInv1 w0 N ws.length d [.int .i64 K,.int .i64 R,.slice va vn vc,.slice ua un uc,.slice Aa An Ac,.int .i64 m] (.slice Aa An Ac) i W3:=by rw [hW3]; exact hI.drew
   replace hW3:=Hd hW3
   have hB3:=hI3.1
   have iA:=hI3.idx hlt
   have hS:W3.cell? ⟨w.heap.size,0,none⟩=some (.int .i64 K)∧W3.cell? ⟨w.heap.size,1,none⟩=some (.int .i64 R)∧W3.cell? ⟨w.heap.size,2,none⟩=some (.slice va vn vc)∧W3.cell? ⟨d,4,none⟩=some (.slice Aa An Ac) :=
    have q3:=(q0.belowB hB3 hlt0).1
    ⟨q3.1,q3.2.1,q3.2.2,hI3.cell4⟩
   have hS6:=keep4 hS (belowAlloc W3 (.cells #[.int .i64 K,.int .i64 R,.slice va vn vc] 24))
   obtain ⟨mv,w4,hmk2,hm2,hb4⟩:=run_makeV oneBools (N:Int) N (W3.alloc (.cells #[.int .i64 K,.int .i64 R,.slice va vn vc] 24)) rfl (by omega)
   have hS12:=keep4 hS6 hb4
   have hb5:=Below.step (belowAlloc W3 (.cells #[.int .i64 K,.int .i64 R,.slice va vn vc] 24)) hb4
   obtain ⟨ma,mn,mc,rfl⟩:=hm2.shape
   obtain ⟨⟨ov,hov⟩,hof,hIn⟩:=hI3.step hlt hb5 (hm2.mono (by simp))
   generalize valAt (.slice Aa An Ac) i=pa at iA hov hof hIn
   clear hI
   refine pqY 46 hS ?_
   refine pqY 47 hS ?_
   refine pqY 48 hS ?_
   refine pqY 49 hS ?_
   refine pqY 50 hS ?_
   refine pqY 51 hS ?_
   refine headC rfl (fun KK hK=>?_)
   go_simp
   refine (over_nodes K R va vn vc T _ (hT0.out.below hB3) (by omega) (by omega)).mono ?_
   rintro e W4 ⟨rfl,rfl⟩
   rw [hN.out]
   refine hK _ _ hS6 ?_
   clear hK KK
   refine headC rfl (fun KK hK=>?_)
   go_simp
   refine hK _ _ hS12 ?_
   clear hK KK
   refine pqY 54 hS12 ?_
   refine head0 ?_
   simp only [List.drop_succ_cons,List.drop_zero]
   clear hS hS6 hS12 hmk2
   replace hIn:=Hd hIn
   replace hI3:=Hd hI3
   go_wp2
   refine NoPanic.normal ?_
   go_wp2
   go_roundw
   case rel=>exact ⟨i+1,by omega,by go_num,hIn.out⟩
   case measure=>simp [intOf]; omega
  ·obtain rfl:i=ws.length:=by omega
   obtain ⟨bv,w5,hmk3,hbo,hb5⟩:=run_makeI (2*(R:Int)) (2*R) wo (by omega) (by omega)
   have q1:=(q0.belowB hI.1 hlt0).1
   obtain ⟨y0,y1,y2⟩:=q1
   have hI2:BefInv2 w0 K N R d m T ws [.int .i64 K,.int .i64 R,.slice va vn vc,.slice ua un uc,.slice Aa An Ac,.int .i64 m] (.slice Aa An Ac) bv 0 w5:=hI.two hb5 hbo
   replace hI:=Hd hI
   replace hI2:=Hd hI2
   replace hbo:=Hd hbo
   clear lA
   go_wp2
   clear y0 y1 y2 hmk3
   go_loopw [12,13] (fun bv' nv wr=>∃ (node:Nat) (bw:Value),node≤N∧nv=.int .i64 node∧bw=bv'∧BefInv2 w0 K N R d m T ws [.int .i64 K,.int .i64 R,.slice va vn vc,.slice ua un uc,.slice Aa An Ac,.int .i64 m] (.slice Aa An Ac) bw node wr) (fun _ nv _=>N-(intOf nv).toNat)
   case atStart=>exact ⟨0,bv,by omega,rfl,rfl,hI2.out⟩
   case round =>
    obtain ⟨node,bw,hno,rfl,rfl,hBn,f,az,M,lv,ls,LS,more,xs,hr,D,hso,hx,hdg,hall⟩:=hrel
    obtain ⟨wp,rfl⟩:∃ wp:World,wp=wr:=⟨_,rfl⟩
    have hqn:=(q0.belowB hBn hlt0)
    obtain ⟨y0,y1,y2⟩:=hqn.1
    have hqA:=hqn.alloc (.cells #[.int .i64 K,.int .i64 R,.slice va vn vc] 24)
    have hbA:=belowAlloc wp (.cells #[.int .i64 K,.int .i64 R,.slice va vn vc] 24)
    obtain ⟨WA,hWA⟩:∃ WA:World,WA=wp.alloc (.cells #[.int .i64 K,.int .i64 R,.slice va vn vc] 24):=⟨_,rfl⟩
    rw [← hWA] at hbA hqA
    replace hWA:=Hd hWA
    have m7:=D.cell7 (hr.below hbA)
    have m6:=D.cell6 (hr.below hbA)
    have hBA:=hBn.trans (hbA.mono hBn.size)
    replace hso:=Hd hso
    replace hdg:=Hd hdg
    replace hall:=Hd hall
    replace hx:=Hd hx
    clear hI hI2 hbo
    by_cases hlt:node<N
    ·cases more with
     | false =>
      have hxs:=hdg.out hlt
      subst hxs
      have hLS:=hall.out.1 rfl
      subst hLS
      have hon:=on_any w0 K N R T ws d va vn vc ua un uc (.slice Aa An Ac) az m hok.out hN.out hT256 hm256 hwl hT0.out hW0.out ws.length 0 (by omega) f M lv ls _ bw (digs K (2*R) node) node _ (hr.below hbA) hBA D hso.out hx.out (by rw [digs_length]; omega) hlt
      rw [List.drop_zero] at hon
      replace hon:=Hd hon
      go_wp2_with fail
      refine (over_nodes K R va vn vc T _ (hT0.out.below hBn) (by omega) (by omega)).mono ?_
      rintro e W3 ⟨rfl,hW3⟩
      rw [hN.out,hW3,← hWA.out]
      clear y0 y1 y2 hW3
      go_wp2_with fail
      refine hon.out.mono ?_
      rintro e w6 ⟨ret,f6,M6,lv6,ls6,LS6,more6,rfl,hr6,hB6,D6,hso6,hfk6,hst6⟩
      have hB06:=hBA.trans hB6
      have hx6:=(hfk6 0 (Nat.le_refl _)).trans hx.out
      have hall6:(more6=false→LS6=allBefore K R T ws (node+1))∧(more6=true→m<(allBefore K R T ws (node+1)).length):=by
       rcases hst6 with ⟨_,e1,e2,_⟩ | ⟨e0,e2,_⟩
       ·exact ⟨fun _=>(by rw [e1,allBefore_succ,hNp.out]),fun q=>(by rw [e2] at q; cases q)⟩
       ·exact ⟨fun q=>(by rw [e2] at q; cases q),fun _=>(by rw [allBefore_succ,List.length_append,← hNp.out]; exact e0)⟩
      clear hst6 m6 m7
      obtain ⟨y0,y1,y2⟩:=(q0.belowB hB06 hlt0).1
      replace hall6:=Hd hall6
      replace hfk6:=Hd hfk6
      replace hso6:=Hd hso6
      replace hx6:=Hd hx6
      by_cases hR0:0<2*R
      ·have hxo:=hr6.ownI hx6.out
       go_wp2_with fail
       refine (word_next_digs K (2*R) node bw _ hxo.at hk1 hk4 (by omega) (by rw [← hNp.out]; exact hlt)).mono ?_
       rintro e w7 ⟨o,_,rfl,hb7,rfl,zs,hoz,hz⟩
       have r7:=hr6.add (i:=(4,0)) (r':=rowI o zs) hb7 (hoz.mono hB06.size) (fun k hk=>(hoz.lt k hk).1)
       have D7:=D6.congr (f':=upd f6 (4,0) (some (rowI o zs))) (fun j hj=>upd_ne _ _ (fun e=>hj (by rw [e])))
       have hB07:=hB06.trans (hb7.mono hB06.size)
       replace r7:=Hd r7
       replace hoz:=Hd hoz
       replace hz:=Hd hz
       clear y0 y1 y2
       go_wp2
       go_roundw
       case rel=>exact ⟨node+1,_,by omega,by go_num,rfl,hB07,_,az,M6,lv6,ls6,LS6,more6,zs,r7.out,D7,hso6.out,upd_same _ _ _,fun h=>hz.out (by rw [← hNp.out]; exact h),hall6.out⟩
       case measure=>simp [intOf]; omega
      ·have hN1:N=1:=by rw [hNp.out,show 2*R=0 by omega]; rfl
       go_wp2
       go_roundw
       case rel=>exact ⟨node+1,_,by omega,by go_num,rfl,hB06,f6,az,M6,lv6,ls6,LS6,more6,_,hr6,D6,hso6.out,hx6.out,fun h=>by omega,hall6.out⟩
       case measure=>simp [intOf]; omega
     | true =>
      go_wp2_with fail
      refine (over_nodes K R va vn vc T _ (hT0.out.below hBn) (by omega) (by omega)).mono ?_
      rintro e W3 ⟨rfl,hW3⟩
      rw [hN.out,hW3,← hWA.out]
      clear y0 y1 y2 hW3
      go_wp2
      go_quiet (fail)
      go_wp2
      go_ret3
      refine ⟨_,_,_,rfl,hB0.out.trans (below_drewN' (hBA.mono (Nat.le_of_lt hlt0)) nq),rfl,ls,LS,true,rfl,(D.listV ((hr.below hbA).drewN nq)).at,D.llen,D.lmost,fun j hj=>(((hr.below hbA).drewN nq).ownI (D.items j hj)).at,(fun h=>by cases h),fun _=>Nat.lt_of_lt_of_le (hall.out.2 (by simp)) (allBefore_le K R T ws (by rw [← hNp.out]; exact hno))⟩
    ·obtain rfl:node=N:=by omega
     go_wp2_with fail
     refine (over_nodes K R va vn vc T _ (hT0.out.below hBn) (by omega) (by omega)).mono ?_
     rintro e W3 ⟨rfl,hW3⟩
     rw [hN.out,hW3,← hWA.out]
     clear y0 y1 y2 hW3
     go_wp2
     go_quiet (fail)
     go_wp2
     go_ret3
     refine ⟨_,_,_,rfl,hB0.out.trans (below_drewN' (hBA.mono (Nat.le_of_lt hlt0)) nq),rfl,ls,LS,more,rfl,(D.listV ((hr.below hbA).drewN nq)).at,D.llen,D.lmost,fun j hj=>(((hr.below hbA).drewN nq).ownI (D.items j hj)).at,(fun h=>by rw [hall.out.1 h,hNp.out]),fun h=>by have:=hall.out.2 h; rw [hNp.out] at this; exact this⟩
end Go.Proofs.YtkaoebokbfcmhaaGreatDoor
