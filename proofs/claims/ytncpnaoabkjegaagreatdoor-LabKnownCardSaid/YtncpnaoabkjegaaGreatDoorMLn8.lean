/-
  Texts that the proof leans on.
-/
import Derived.Test.YtncpnaoabkjegaaGreatDoorMLn7
import Derived.ArgAppend
import Derived.Deep.DeepCutAuto
import Derived.Ground.SlgfProg
import Derived.Shelf.SlGeneric
import Derived.Shelf.SlicesE.DeleteFunc
import Derived.Lib.SliceRun
namespace Go.Proofs.YtncpnaoabkjegaaGreatDoor
open Go.RowKit
set_option maxRecDepth 100000
set_option maxHeartbeats 8000000
def WordsPost (r:Nat→Addr) (w:World) (K R:Nat) (T:List Int) (ns:List Nat) (x y z:Value) (w':World):Prop :=
 (AllFit K (pw K (2*R)) T ns∧z=.nilIface∧OwnI w.heap.size w' x (alongW K (2*R) (·/pw K (2*R)) ns)∧OwnI w.heap.size w' y (alongW K (2*R) (·%pw K (2*R)) ns)∧(x.ownBlock=none∨x.ownBlock≠y.ownBlock)) ∨
 (¬ AllFit K (pw K (2*R)) T ns∧x=.slice none 0 0∧y=.slice none 0 0∧ErrIs r w' (fresh sPairs 1 3) z)
theorem pwords_way (r:Nat→Addr) (K R:Nat) (va:Option Addr) (vn vc:Nat) (T:List Int) (u:Value) (ns:List Nat) (w:World) (hg:Glob r w) (h:IntsAt w (.slice va vn vc) T) (hr:RuleOk K R T) (hl:T.length≤256) (hu:IntsAt w u (castI ns)) (hne:ns≠[]) (hlow:∀ p∈ns,p<pw K (2*wkR R)*pw K (2*wkR R)) (hnl:ns.length≤17592186044000) :
 Calls Tryz.prog 53 #[.agg #[.int .i64 K,.int .i64 R,.slice va vn vc],u] w (Ret3 (WordsPost r w K (wkR R) (wkT K R T) ns) w):=by
 have b0:=belowAlloc w (.cells #[.int .i64 K,.int .i64 R,.slice va vn vc] 24)
 have hk1:=hr.k1
 have hk4:=hr.k4
 have hokW:=wk_ok hr
 have hlW:=wk_small hr hl
 have hRW:=wk_pos R
 have hN81:=nodes_le hokW hRW hlW
 obtain ⟨hdiv,hlen⟩:=hokW.half
 have hR3:=hokW.r3
 have hN1:=pw_pos (K:=K) (2*wkR R) hk1
 have hwork:=fun (w':World) (hgl:Glob r w') (hT:IntsAt w' (.slice va vn vc) T)=>working_ok r K R va vn vc T w' hgl hT hr hl
 have hNodes:=fun (a:Option Addr) (n c:Nat) (w':World) (hgl:Glob r w') (hT:IntsAt w' (.slice a n c) (wkT K R T))=>over_Nodes r K (wkR R) a n c (wkT K R T) w' hgl hT hokW hlW
 have hEdge:=fun (a:Option Addr) (n c u s:Nat) (w':World) (hgl:Glob r w') (hT:IntsAt w' (.slice a n c) (wkT K R T)) (hu:u<pw K (2*wkR R)) (hs:s<K)=>over_Edge r K (wkR R) a n c (wkT K R T) u s w' hgl hT hokW hlW (by rw [hdiv]; exact hu) hs
 rw [hdiv] at hNodes hEdge
 have hpost:=fun (x y z:Value) (w':World)=>@WordsPost r w K (wkR R) (wkT K R T) ns x y z w'
 obtain ⟨m,hm⟩:∃ m,2*wkR R=m:=⟨_,rfl⟩
 unfold WordsPost
 rw [hm] at hNodes hEdge hlow hN81 hN1 hdiv hlen ⊢
 obtain ⟨N,hN⟩:∃ N,pw K m=N:=⟨_,rfl⟩
 rw [hN] at hNodes hEdge hlow hN81 hN1 hdiv hlen ⊢
 generalize wkT K R T=T' at *
 generalize wkR R=R' at *
 clear hpost
 have lu:=hu.len
 obtain ⟨up,hup,hupI⟩:=hu.post 1 (by rw [castI_len]; exact List.length_pos_iff.2 hne)
 have lup:=hupI.len
 have hcl:(castI ns).length=ns.length:=castI_len ns
 have hdl:((castI ns).drop 1).length=ns.length-1:=by rw [List.length_drop,castI_len]
 rw [hdl] at lup
 rw [hcl] at lu
 have hnp:0<ns.length:=List.length_pos_iff.2 hne
 have iU:=fun (i:Nat) (hi:i<ns.length) w'=>hu.idx i (by rw [castI_len]; exact hi) w'
 have cU:=fun (i:Nat) (hi:i<ns.length)=>hu.cellD i (by rw [castI_len]; exact hi)
 have iP:=fun (i:Nat) (hi:i+1<ns.length) w'=>hupI.idx i (by rw [hdl]; omega) w'
 have cP:=fun (i:Nat) (hi:i+1<ns.length)=>hupI.cellD i (by rw [hdl]; omega)
 have gU:∀ i,i<ns.length→(castI ns).getD i 0=((ns.getD i 0:Nat):Int):=fun i hi=>by simp [castI,List.getD,hi]
 have gP:∀ i,i+1<ns.length→((castI ns).drop 1).getD i 0=((ns.getD (i+1) 0:Nat):Int):=fun i hi=>by
  rw [List.getD_eq_getElem?_getD,List.getElem?_drop,Nat.add_comm 1 i,← List.getD_eq_getElem?_getD]; exact gU _ hi
 have cU2:=fun (i:Nat) (hi:i<ns.length)=>(cU i hi).trans (by rw [gU i hi])
 have cP2:=fun (i:Nat) (hi:i+1<ns.length)=>(cP i hi).trans (by rw [gP i hi])
 have hlow2:∀ i,i<ns.length→ns.getD i 0<N*N:=fun i hi=>by
  simp only [List.getD_eq_getElem?_getD,List.getElem?_eq_getElem hi,Option.getD_some]
  exact hlow _ (List.getElem_mem hi)
 have hM6:N*N≤6561:=Nat.mul_le_mul hN81 hN81
 have hokway:decide (0≤idxOf (odd1 ((N*N:Nat):Int)) (castI ns))=false:=by
  rw [decide_eq_false_iff_not,idxOf_neg]
  ·omega
  ·intro x hx
   obtain ⟨p,hp,rfl⟩:=List.mem_map.1 hx
   have:=hlow p hp
   rw [odd1_false]; omega
 have hl0:¬ ns.length=0:=by omega
 have hl1:((ns.length:Int)==0)=false:=by rw [beq_eq_false_iff_ne]; omega
 obtain ⟨ua,un,uc,rfl⟩:=hu.shape
 obtain ⟨pa,pn,pc,rfl⟩:=hupI.shape
 replace hwork:=Hd hwork
 replace hNodes:=Hd hNodes
 replace hEdge:=Hd hEdge
 replace hg:=Hd (hg.below b0)
 replace h:=Hd (h.below b0)
 replace hu:=Hd (hu.below b0)
 replace hokW:=Hd hokW
 replace hr:=Hd hr
 replace hdiv:=Hd hdiv
 replace hlen:=Hd hlen
 replace hm:=Hd hm
 replace hN:=Hd hN
 replace iU:=Hd iU
 replace iP:=Hd iP
 replace cU2:=Hd cU2
 replace cP2:=Hd cP2
 replace hlow2:=Hd hlow2
 replace hlow:=Hd hlow
 replace hokway:=Hd hokway
 replace hne:=Hd hne
 replace hupI:=Hd hupI
 clear cU cP gU gP hdl hcl
 go_enter Tryz.func53,Tryz.ntmps53
 go_wp2_with fail
 refine (hwork.out _ hg.out h.out).mono ?_
 rintro e w1 ⟨x,y,rfl,b1,rfl,a,n,c,rfl,hT1⟩
 have ba:=belowAlloc w1 (.cells #[.int .i64 K,.int .i64 R',.slice a n c] 24)
 have qw:Box3 (w1.alloc (.cells #[.int .i64 K,.int .i64 R',.slice a n c] 24)) w1.heap.size (.int .i64 K) (.int .i64 R') (.slice a n c):=by simp [Box3,go_sem]
 have b12:=Below.step b1 ba
 have hT2:=hT1.below ba
 replace hT1:=Hd hT1
 replace hT2:=Hd hT2
 replace qw:=Hd qw
 go_wp2_with fail
 refine (hNodes.out a n c _ (hg.out.below b12) hT2.out).mono ?_
 rintro e w3 ⟨x,y,rfl,b3,rfl,rfl⟩
 have bb:=belowAlloc w3 (.cells #[.int .i64 N] 3)
 have b34:=Below.step b3 bb
 have b14:=Below.step b12 b34
 have cN:(w3.alloc (.cells #[.int .i64 N] 3)).cell? ⟨w3.heap.size,0,none⟩=some (.int .i64 N):=by simp [go_sem]
 have hcf:=containsFunc_any (.slice ua un uc) (.pointer (some ⟨w3.heap.size,0,none⟩)) 118 (castI ns) (odd1 ((N*N:Nat):Int)) _ (hu.out.below b14) eg_words1 (fun x _=>words1_any x w3.heap.size N _ (by omega) cN)
 replace hcf:=Hd hcf
 replace cN:=Hd cN
 go_wp2_with fail
 refine hcf.out.mono ?_
 rintro e w5 ⟨rfl,hw5⟩
 rw [hokway.out]
 have cN5:=cN.out
 have qw5:=qw.out.below b34
 have hT5:=hT2.out.below b34
 rw [hw5] at b14 cN5 qw5 hT5
 clear hcf cN hw5 bb b34 b3 b12
 have b05:=Below.step b0 b14
 have hg5:=hg.out.below b14
 clear b14
 -- region 8
 obtain ⟨L1,hL1⟩:∃ L1,ns.length=L1+1:=⟨ns.length-1,by omega⟩
 rw [hL1,Nat.add_sub_cancel] at lup
 have hLbig:L1≤17592186044000:=by omega
 have hup1:∀ w',(Instr.slice 22 (.slice ua un uc) (some (.int .i64 1)) none none).run Tryz.prog w'=.ok (.slice pa pn pc) w':=hup
 obtain ⟨p0,hp0⟩:∃ p,ns.getD 0 0=p:=⟨_,rfl⟩
 have hp0l:p0<N*N:=by rw [← hp0]; exact hlow2.out 0 hnp
 have i0:∀ w',(Instr.indexAt 22 (.slice ua un uc) (.int .i64 0)).run Tryz.prog w'=.ok (.pointer (some (valAt (.slice ua un uc) 0))) w':=fun w'=>iU.out 0 hnp w'
 have c0:=cU2.out 0 hnp
 rw [hp0] at c0
 have c05:=(b05.cell (World.block_lt_of_cell? _ _ c0)).trans c0
 have hN0:((N:Int)==0)=false:=by rw [beq_eq_false_iff_ne]; omega
 have hN2:¬ (N:Int)=0:=by omega
 have hN3:¬ N=0:=by omega
 have hK0:((K:Int)==0)=false:=by rw [beq_eq_false_iff_ne]; omega
 have hK1:¬ (K:Int)=0:=by omega
 have hK3:¬ K=0:=by omega
 obtain ⟨d1,d2,d3,d4,d5,d6⟩:=dm p0 N (by omega)
 obtain ⟨u0,hu0⟩:∃ z,p0/N=z:=⟨_,rfl⟩
 obtain ⟨v0,hv0⟩:∃ z,p0%N=z:=⟨_,rfl⟩
 rw [hu0] at d1 d3 d5
 rw [hv0] at d2 d4 d6
 have hu0l:u0<N:=by rw [← hu0]; exact div_lt_of hp0l
 have hv0l:v0<N:=by rw [← hv0]; exact Nat.mod_lt _ (by omega)
 clear c0
 generalize valAt (.slice ua un uc) 0=t0 at *
 replace hL1:=Hd hL1
 replace hp0:=Hd hp0
 replace hu0:=Hd hu0
 replace hv0:=Hd hv0
 replace hT5:=Hd hT5
 replace hg5:=Hd hg5
 go_upto_region 8 with fail
 refine wp_region_plan (fun w'=>w'.cell? t0=some (.int .i64 p0)∧w'.cell? ⟨w3.heap.size,0,none⟩=some (.int .i64 N)) 15 [(0,true),(1,true),(2,true),(3,true),(4,true),(5,true),(7,true),(8,true),(9,true),(10,true),(11,true),(12,true),(6,false),(13,false),(14,true)] (by kernel_rfl) (by kernel_rfl) ?_
 have hS:w5.drew.cell? t0=some (.int .i64 p0)∧w5.drew.cell? ⟨w3.heap.size,0,none⟩=some (.int .i64 N):=⟨c05,cN5⟩
 refine pqY 47 hS ?_
 refine pqY 48 hS ?_
 refine pqY 49 hS ?_
 refine pqY 50 hS ?_
 refine pqY 51 hS ?_
 refine pqY 52 hS ?_
 refine pqY 54 hS ?_
 refine pqY 55 hS ?_
 refine pqY 56 hS ?_
 refine pqY 57 hS ?_
 refine pqY 58 hS ?_
 refine pqY 59 hS ?_
 refine headC rfl (fun KK hK=>?_)
 go_simp
 refine (words2_any K R' u0 w1.heap.size w5.drew hk1 hk4 hR3 (by omega) qw5.1.1 qw5.1.2.1).mono ?_
 rintro e w6 ⟨av,rfl,b6,ho6⟩
 have hS6:w6.cell? t0=some (.int .i64 p0)∧w6.cell? ⟨w3.heap.size,0,none⟩=some (.int .i64 N):=⟨(b6.cell (World.block_lt_of_cell? _ _ hS.1)).trans hS.1,cell_keep b6 hS.2⟩
 have qw6:=qw5.below (w':=w6) (Below.trans ((Below.refl _ _).drew) b6)
 refine hK _ _ hS6 ?_
 clear hK KK
 refine headC rfl (fun KK hK=>?_)
 go_simp
 refine (words2_any K R' v0 w1.heap.size w6 hk1 hk4 hR3 (by omega) qw6.1.1 qw6.1.2.1).mono ?_
 rintro e w7 ⟨bv,rfl,b7,ho7⟩
 have hS7:w7.cell? t0=some (.int .i64 p0)∧w7.cell? ⟨w3.heap.size,0,none⟩=some (.int .i64 N):=⟨(b7.cell (World.block_lt_of_cell? _ _ hS6.1)).trans hS6.1,cell_keep b7 hS6.2⟩
 refine hK _ _ hS7 ?_
 clear hK KK
 refine pqY 12 hS7 ?_
 refine head0 ?_
 simp only [List.drop_succ_cons,List.drop_zero]
 have b56:Below w5.heap.size w5 w6:=Below.trans ((Below.refl _ _).drew) b6
 have b57:=Below.step b56 b7
 rw [hm.out] at ho6 ho7
 have r1:=(Rows.void w5.heap.size w5).add (i:=(1,0)) (r':=rowI av (digs K m u0)) b56 ho6 (fun k hk=>(ho6.lt k hk).1)
 have r2:=r1.add (i:=(2,0)) (r':=rowI bv (digs K m v0)) b7 (ho7.mono b56.size) (fun k hk=>(ho7.lt k hk).1)
 obtain ⟨f,hf⟩:∃ f,f=upd (upd (fun _=>none) (1,0) (some (rowI av (digs K m u0)))) (2,0) (some (rowI bv (digs K m v0))):=⟨_,rfl⟩
 have hfa:f (1,0)=some (rowI av (digs K m u0)):=by rw [hf,upd_ne _ _ (by simp),upd_same]
 have hfb:f (2,0)=some (rowI bv (digs K m v0)):=by rw [hf,upd_same]
 rw [← hf] at r2
 have htk:ns.take 1=[p0]:=by
  cases hns:ns with
  | nil=>exact absurd hns hne.out
  | cons a l=>have:=hp0.out; rw [hns] at this; simp at this; simp [this]
 have ha1:alongW K m (·/N) (ns.take 1)=digs K m u0:=by rw [htk,alongW_one,hu0.out]
 have hb1:alongW K m (·%N) (ns.take 1)=digs K m v0:=by rw [htk,alongW_one,hv0.out]
 rw [← ha1] at hfa
 rw [← hb1] at hfb
 clear hS hS6 hS7 ho6 ho7 r1 hf htk ha1 hb1 qw6 i0 c05 d1 d2 d3 d4 d5 d6
 obtain ⟨aa,an,ac,rfl⟩:=(r2.ownI hfa).at.shape
 obtain ⟨ba',bn,bc,rfl⟩:=(r2.ownI hfb).at.shape
 replace r2:=Hd r2
 replace hfa:=Hd hfa
 replace hfb:=Hd hfb
 replace qw5:=Hd qw5
 replace cN5:=Hd cN5
 go_wp2
 refine NoPanic.normal ?_
 go_wp2_with fail
 clear hup hup1
 go_loopw [12,13,64] (fun xa xb jv wr=>∃ (j:Nat) (f:Names) (va' vb':Value),j≤L1∧jv=.int .i64 j∧va'=xa∧vb'=xb∧Rows w5.heap.size wr f∧Below w5.heap.size w5 wr∧f (1,0)=some (rowI va' (alongW K m (·/N) (ns.take (j+1))))∧f (2,0)=some (rowI vb' (alongW K m (·%N) (ns.take (j+1))))∧(∀ i,i<j→StepFits K N T' (ns.getD i 0) (ns.getD (i+1) 0))) (fun _ _ jv _=>L1-(intOf jv).toNat)
 case atStart=>exact ⟨0,f,_,_,by omega,rfl,rfl,rfl,r2.out,b57,hfa.out,hfb.out,fun i hi=>by omega⟩
 case round =>
  clear hfa hfb r2 b57 b56 b6 b7
  obtain ⟨j,f2,av,bv,hj,rfl,rfl,rfl,hr,bI,hfa,hfb,hfit⟩:=hrel
  obtain ⟨wo,rfl⟩:∃ wo:World,wo=wr:=⟨_,rfl⟩
  have b0o:=b05.trans (bI.mono b05.size)
  by_cases hjl:j<L1
  ·obtain ⟨p,hp⟩:∃ p,ns.getD (j+1) 0=p:=⟨_,rfl⟩
   obtain ⟨pj,hpj⟩:∃ p,ns.getD j 0=p:=⟨_,rfl⟩
   have hll:=hL1.out
   have hjl2:=Hd hjl
   have hpl:p<N*N:=by rw [← hp]; exact hlow2.out (j+1) (by omega)
   have hpjl:pj<N*N:=by rw [← hpj]; exact hlow2.out j (by omega)
   have iJ:=fun w'=>iP.out j (by omega) w'
   have cJ:=cP2.out j (by omega)
   have iI:=fun w'=>iU.out j (by omega) w'
   have cI:=cU2.out j (by omega)
   rw [hp] at cJ
   rw [hpj] at cI
   have cJo:=(b0o.cell (World.block_lt_of_cell? _ _ cJ)).trans cJ
   have cIo:=(b0o.cell (World.block_lt_of_cell? _ _ cI)).trans cI
   have htk:ns.take (j+1+1)=ns.take (j+1)++[p]:=by
    rw [List.take_add_one,List.getElem?_eq_getElem (show j+1<ns.length by omega)]
    have:ns[j+1]'(by omega)=p:=by rw [← hp]; simp [List.getD,show j+1<ns.length by omega]
    rw [this]; rfl
   have htn:ns.take (j+1)≠[]:=by
    intro e
    have:=congrArg List.length e
    rw [List.length_take,List.length_nil] at this; omega
   have haS:=alongW_snoc K m (·/N) (ns.take (j+1)) p htn
   have hbS:=alongW_snoc K m (·%N) (ns.take (j+1)) p htn
   rw [← htk] at haS hbS
   obtain ⟨d1,d2,d3,d4,d5,d6⟩:=dm p N (by omega)
   obtain ⟨u1,hu1⟩:∃ z,p/N=z:=⟨_,rfl⟩
   obtain ⟨v1,hv1⟩:∃ z,p%N=z:=⟨_,rfl⟩
   rw [hu1] at d1 d3 d5 haS
   rw [hv1] at d2 d4 d6 hbS
   have hu1l:u1<N:=by rw [← hu1]; exact div_lt_of hpl
   have hv1l:v1<N:=by rw [← hv1]; exact Nat.mod_lt _ (by omega)
   obtain ⟨g1,g2,g3,g4,g5,g6⟩:=dm pj N (by omega)
   obtain ⟨uj,huj⟩:∃ z,pj/N=z:=⟨_,rfl⟩
   obtain ⟨vj,hvj⟩:∃ z,pj%N=z:=⟨_,rfl⟩
   rw [huj] at g1 g3 g5
   rw [hvj] at g2 g4 g6
   have hujl:uj<N:=by rw [← huj]; exact div_lt_of hpjl
   have hvjl:vj<N:=by rw [← hvj]; exact Nat.mod_lt _ (by omega)
   obtain ⟨_,x2,_,x4,_,x6⟩:=dm u1 K (by omega)
   obtain ⟨_,z2,_,z4,_,z6⟩:=dm v1 K (by omega)
   obtain ⟨s,hs⟩:∃ z,u1%K=z:=⟨_,rfl⟩
   obtain ⟨t,ht⟩:∃ z,v1%K=z:=⟨_,rfl⟩
   rw [hs] at x2 x4 x6 haS
   rw [ht] at z2 z4 z6 hbS
   have hsl:s<K:=by rw [← hs]; exact Nat.mod_lt _ (by omega)
   have htl:t<K:=by rw [← ht]; exact Nat.mod_lt _ (by omega)
   have hstep:StepFits K N T' pj p↔toN K N uj s=u1∧toN K N vj t=v1∧labN K T' uj s=labN K T' vj t:=by
    unfold StepFits; rw [hu1,hv1,huj,hvj,hs,ht]
   have qwo:=qw5.out.below bI
   have cNo:=cell_keep bI cN5.out
   clear cJ cI
   generalize valAt (.slice pa pn pc) j=tj at *
   generalize valAt (.slice ua un uc) j=ti at *
   have hoa:=hr.ownI hfa
   have hob:=hr.ownI hfb
   have hm6:m≤6:=by have:=hm.out; omega
   have hLa:(alongW K m (·/N) (ns.take (j+1))).length≤17592186044100:=by rw [alongW_len,List.length_take]; omega
   have hLb:(alongW K m (·%N) (ns.take (j+1))).length≤17592186044100:=by rw [alongW_len,List.length_take]; omega
   replace hp:=Hd hp
   replace hpj:=Hd hpj
   replace hll:=Hd hll
   replace htk:=Hd htk
   replace htn:=Hd htn
   replace haS:=Hd haS
   replace hbS:=Hd hbS
   replace hu1:=Hd hu1
   replace hv1:=Hd hv1
   replace huj:=Hd huj
   replace hvj:=Hd hvj
   replace hs:=Hd hs
   replace ht:=Hd ht
   replace hstep:=Hd hstep
   replace hfit:=Hd hfit
   replace hr:=Hd hr
   replace hfa:=Hd hfa
   replace hfb:=Hd hfb
   replace hoa:=Hd hoa
   replace hob:=Hd hob
   go_upto_region 12 with fail
   refine wp_region_plan (fun w'=>w'.cell? ⟨w1.heap.size,0,none⟩=some (.int .i64 K)∧w'.cell? ⟨w3.heap.size,0,none⟩=some (.int .i64 N)) 13 [(0,true),(1,true),(2,true),(3,true),(4,true),(5,true),(6,true),(7,true),(8,true),(9,true),(10,true),(11,true),(12,true)] (by kernel_rfl) (by kernel_rfl) ?_
   have hS:wo.drew.cell? ⟨w1.heap.size,0,none⟩=some (.int .i64 K)∧wo.drew.cell? ⟨w3.heap.size,0,none⟩=some (.int .i64 N):=⟨qwo.1.1,cNo⟩
   refine pqY 69 hS ?_
   refine pqY 70 hS ?_
   refine pqY 71 hS ?_
   refine pqY 72 hS ?_
   refine pqY 73 hS ?_
   refine pqY 74 hS ?_
   refine pqY 75 hS ?_
   refine pqY 76 hS ?_
   refine pqY 77 hS ?_
   refine pqY 78 hS ?_
   refine pqY 79 hS ?_
   refine pqY 80 hS ?_
   refine pqY 16 hS ?_
   refine head0 ?_
   simp only [List.drop_succ_cons,List.drop_zero]
   clear hS
   go_wp2
   refine NoPanic.normal ?_
   go_upto_region 13 with fail
   refine wp_region_plan (fun w'=>w'.cell? ⟨w1.heap.size,0,none⟩=some (.int .i64 K)∧w'.cell? ⟨w1.heap.size,1,none⟩=some (.int .i64 R')∧w'.cell? ⟨w1.heap.size,2,none⟩=some (.slice a n c)∧w'.cell? ⟨w3.heap.size,0,none⟩=some (.int .i64 N)∧w'.cell? ti=some (.int .i64 pj)) 15 [(0,true),(1,true),(2,true),(3,true),(4,true),(5,true),(6,true),(7,true),(8,false),(9,true),(10,true),(11,true),(12,true),(13,true),(14,true)] (by kernel_rfl) (by kernel_rfl) ?_
   have hS:wo.drew.drew.cell? ⟨w1.heap.size,0,none⟩=some (.int .i64 K)∧wo.drew.drew.cell? ⟨w1.heap.size,1,none⟩=some (.int .i64 R')∧wo.drew.drew.cell? ⟨w1.heap.size,2,none⟩=some (.slice a n c)∧wo.drew.drew.cell? ⟨w3.heap.size,0,none⟩=some (.int .i64 N)∧wo.drew.drew.cell? ti=some (.int .i64 pj):=⟨qwo.1.1,qwo.1.2.1,qwo.1.2.2,cNo,cIo⟩
   refine pqY 82 hS ?_
   refine pqY 83 hS ?_
   refine pqY 84 hS ?_
   refine pqY 85 hS ?_
   refine pqY 86 hS ?_
   refine pqY 87 hS ?_
   refine pqY 88 hS ?_
   refine pqY 89 hS ?_
   refine headC rfl (fun KK hK=>?_)
   go_simp
   refine (hEdge.out a n c uj s wo.drew.drew (hg5.out.below bI.drew.drew) (hT5.out.below bI.drew.drew) hujl hsl).mono ?_
   rintro e w6 ⟨x,y,z,rfl,b6,rfl,rfl,rfl⟩
   obtain ⟨X1,hX1⟩:∃ X,toN K N uj s=X:=⟨_,rfl⟩
   obtain ⟨O1,hO1⟩:∃ X,labN K T' uj s=X:=⟨_,rfl⟩
   rw [hX1,hO1]
   have bo6:Below wo.heap.size wo w6:=Below.trans ((Below.refl _ _).drew.drew) b6
   have hS6:w6.cell? ⟨w1.heap.size,0,none⟩=some (.int .i64 K)∧w6.cell? ⟨w1.heap.size,1,none⟩=some (.int .i64 R')∧w6.cell? ⟨w1.heap.size,2,none⟩=some (.slice a n c)∧w6.cell? ⟨w3.heap.size,0,none⟩=some (.int .i64 N)∧w6.cell? ti=some (.int .i64 pj):=⟨cell_keep b6 hS.1,cell_keep b6 hS.2.1,cell_keep b6 hS.2.2.1,cell_keep b6 hS.2.2.2.1,(b6.cell (World.block_lt_of_cell? _ _ hS.2.2.2.2)).trans hS.2.2.2.2⟩
   refine hK _ _ hS6 ?_
   clear hK KK
   refine pqY 81 hS6 ?_
   refine pqY 91 hS6 ?_
   refine pqY 92 hS6 ?_
   refine pqY 93 hS6 ?_
   refine pqY 18 hS6 ?_
   refine pqY 19 hS6 ?_
   refine head0 ?_
   simp only [List.drop_succ_cons,List.drop_zero]
   have bI6:=bI.trans (bo6.mono bI.size)
   have hS6':=Hd hS6
   clear hS hS6
   go_wp2
   refine NoPanic.normal ?_
   go_upto_region 14 with fail
   refine wp_region_plan (fun w'=>w'.cell? ⟨w1.heap.size,0,none⟩=some (.int .i64 K)∧w'.cell? ⟨w1.heap.size,1,none⟩=some (.int .i64 R')∧w'.cell? ⟨w1.heap.size,2,none⟩=some (.slice a n c)∧w'.cell? ⟨w3.heap.size,0,none⟩=some (.int .i64 N)∧w'.cell? ti=some (.int .i64 pj)) 15 [(0,true),(1,true),(2,true),(3,true),(4,true),(5,true),(6,true),(7,true),(8,false),(9,true),(10,true),(11,true),(12,true),(13,true),(14,true)] (by kernel_rfl) (by kernel_rfl) ?_
   have hS:w6.drew.cell? ⟨w1.heap.size,0,none⟩=some (.int .i64 K)∧w6.drew.cell? ⟨w1.heap.size,1,none⟩=some (.int .i64 R')∧w6.drew.cell? ⟨w1.heap.size,2,none⟩=some (.slice a n c)∧w6.drew.cell? ⟨w3.heap.size,0,none⟩=some (.int .i64 N)∧w6.drew.cell? ti=some (.int .i64 pj):=hS6'.out
   refine pqY 95 hS ?_
   refine pqY 96 hS ?_
   refine pqY 97 hS ?_
   refine pqY 98 hS ?_
   refine pqY 99 hS ?_
   refine pqY 100 hS ?_
   refine pqY 101 hS ?_
   refine pqY 102 hS ?_
   refine headC rfl (fun KK hK=>?_)
   go_simp
   refine (hEdge.out a n c vj t w6.drew (hg5.out.below bI6.drew) (hT5.out.below bI6.drew) hvjl htl).mono ?_
   rintro e w7 ⟨x,y,z,rfl,b7,rfl,rfl,rfl⟩
   obtain ⟨X2,hX2⟩:∃ X,toN K N vj t=X:=⟨_,rfl⟩
   obtain ⟨O2,hO2⟩:∃ X,labN K T' vj t=X:=⟨_,rfl⟩
   rw [hX2,hO2]
   have b67:Below w6.heap.size w6 w7:=Below.trans ((Below.refl _ _).drew) b7
   have bo7:=Below.step bo6 b67
   have bI7:=bI.trans (bo7.mono bI.size)
   have hS7:w7.cell? ⟨w1.heap.size,0,none⟩=some (.int .i64 K)∧w7.cell? ⟨w1.heap.size,1,none⟩=some (.int .i64 R')∧w7.cell? ⟨w1.heap.size,2,none⟩=some (.slice a n c)∧w7.cell? ⟨w3.heap.size,0,none⟩=some (.int .i64 N)∧w7.cell? ti=some (.int .i64 pj):=⟨cell_keep b7 hS.1,cell_keep b7 hS.2.1,cell_keep b7 hS.2.2.1,cell_keep b7 hS.2.2.2.1,(b7.cell (World.block_lt_of_cell? _ _ hS.2.2.2.2)).trans hS.2.2.2.2⟩
   refine hK _ _ hS7 ?_
   clear hK KK
   refine pqY 94 hS7 ?_
   refine pqY 104 hS7 ?_
   refine pqY 105 hS7 ?_
   refine pqY 106 hS7 ?_
   refine pqY 21 hS7 ?_
   refine pqY 22 hS7 ?_
   refine head0 ?_
   simp only [List.drop_succ_cons,List.drop_zero]
   obtain ⟨k0,k1,k2,k3,k4⟩:=hS7
   clear hS hS6' cIo cJo k0 k1 k2 k4 cNo
   rw [hX1,hO1,hX2,hO2] at hstep
   replace hX1:=Hd hX1
   replace hX2:=Hd hX2
   replace hO1:=Hd hO1
   replace hO2:=Hd hO2
   go_wp2
   refine NoPanic.normal ?_
   by_cases e1:X1=u1
   ·have q1:((X1:Int) != (u1:Int))=false:=by rw [bne_eq_false_iff_eq]; omega
    by_cases e2:X2=v1
    ·have q2:((X2:Int) != (v1:Int))=false:=by rw [bne_eq_false_iff_eq]; omega
     by_cases e3:O1=O2
     ·have q3:(O1 != O2)=false:=by rw [bne_eq_false_iff_eq]; exact e3
      have hnow:=hstep.out.2 ⟨e1,e2,e3⟩
      have hr7:=hr.out.below bo7
      have hoa7:=hoa.out.below bo7
      have hB7:=bI7.size
      replace e1:=Hd e1
      replace e2:=Hd e2
      replace e3:=Hd e3
      replace hr7:=Hd hr7
      go_wp2_with (at_builtin; go_loud (refine wpl_append1 rfl _ _ rfl w5.heap.size av _ s hoa7 rfl rfl (by omega) hB7 ?_))
      intro av2 w8 ho8 b8 hgr8 hal8
      have hr8:=hr7.out.push hfa.out (s:Int) ho8 hgr8 hal8
      have hfb8:upd f2 (1,0) (some (rowI av2 (alongW K m (·/N) (ns.take (j+1))++[(s:Int)]))) (2,0)=some (rowI bv (alongW K m (·%N) (ns.take (j+1)))):=by rw [upd_ne _ _ (by simp)]; exact hfb.out
      have hob8:=hr8.ownI hfb8
      have hB8:w5.heap.size≤w8.heap.size:=Nat.le_trans hB7 b8.size
      obtain ⟨a2a,a2n,a2c,rfl⟩:=ho8.at.shape
      replace hr8:=Hd hr8
      replace ho8:=Hd ho8
      clear hgr8 hal8 hoa7
      go_wp2_with (at_builtin; go_loud (refine wpl_append1 rfl _ _ rfl w5.heap.size bv _ t hob8 rfl rfl (by omega) hB8 ?_))
      intro bv2 w9 ho9 b9 hgr9 hal9
      have hr9:=hr8.out.push hfb8 (t:Int) ho9 hgr9 hal9
      obtain ⟨b2a,b2n,b2c,rfl⟩:=ho9.at.shape
      replace hr9:=Hd hr9
      replace ho9:=Hd ho9
      replace hfb8:=Hd hfb8
      clear hgr9 hal9 hob8
      go_wp2
      go_roundw
      case measure=>have:=hjl2.out; simp [intOf]; omega
      case rel =>
       refine ⟨j+1,_,_,_,by have:=hjl2.out; omega,by go_num,rfl,rfl,hr9.out,bI7.trans (b8.trans b9),?_,?_,fun i hi=>?_⟩
       ·rw [upd_ne _ _ (by simp),upd_same,haS.out]
       ·rw [upd_same,hbS.out]
       ·by_cases e:i=j
        ·subst e; rw [hpj.out,hp.out]; exact hnow
        ·exact hfit.out i (by omega)
     ·have q3:(O1 != O2)=true:=by rw [bne_iff_ne]; exact e3
      have hnow:¬ AllFit K N T' ns:=fun hA=>by
       have:=hA j (by have:=hll.out; have:=hjl2.out; omega)
       rw [hpj.out,hp.out,hstep.out] at this
       exact e3 this.2.2
      replace hnow:=Hd hnow
      go_wp2_with fail
      refine (pairs_wrong r _ _ w7 (hg5.out.below bI7) (by decide) (by decide)).mono ?_
      rintro e w8 ⟨x,rfl,b8,he⟩
      replace he:=Hd he
      have bE:=Below.step (b05.trans (bI7.mono b05.size)) b8
      go_wp2
      go_ret3
      exact ⟨_,_,_,rfl,bE,.inr ⟨hnow.out,rfl,rfl,he.out⟩⟩
    ·have q2:((X2:Int) != (v1:Int))=true:=by rw [bne_iff_ne]; omega
     have hnow:¬ AllFit K N T' ns:=fun hA=>by
      have:=hA j (by have:=hll.out; have:=hjl2.out; omega)
      rw [hpj.out,hp.out,hstep.out] at this
      exact e2 this.2.1
     replace hnow:=Hd hnow
     go_wp2_with fail
     refine (pairs_wrong r _ _ w7 (hg5.out.below bI7) (by decide) (by decide)).mono ?_
     rintro e w8 ⟨x,rfl,b8,he⟩
     replace he:=Hd he
     have bE:=Below.step (b05.trans (bI7.mono b05.size)) b8
     go_wp2
     go_ret3
     exact ⟨_,_,_,rfl,bE,.inr ⟨hnow.out,rfl,rfl,he.out⟩⟩
   ·have q1:((X1:Int) != (u1:Int))=true:=by rw [bne_iff_ne]; omega
    have hnow:¬ AllFit K N T' ns:=fun hA=>by
     have:=hA j (by have:=hll.out; have:=hjl2.out; omega)
     rw [hpj.out,hp.out,hstep.out] at this
     exact e1 this.1
    replace hnow:=Hd hnow
    go_wp2_with fail
    refine (pairs_wrong r _ _ w7 (hg5.out.below bI7) (by decide) (by decide)).mono ?_
    rintro e w8 ⟨x,rfl,b8,he⟩
    replace he:=Hd he
    have bE:=Below.step (b05.trans (bI7.mono b05.size)) b8
    go_wp2
    go_ret3
    exact ⟨_,_,_,rfl,bE,.inr ⟨hnow.out,rfl,rfl,he.out⟩⟩
  ·obtain rfl:j=L1:=by omega
   have hall:ns.take (j+1)=ns:=List.take_of_length_le (by have:=hL1.out; omega)
   rw [hall] at hfa hfb
   have hoa:=hr.ownI hfa
   have hob:=hr.ownI hfb
   have hdis:=hr.2 (1,0) (2,0) _ _ hfa hfb (by simp)
   have hAll:AllFit K N T' ns:=fun i hi=>hfit i (by have:=hL1.out; omega)
   have hoa':=hoa.mono (B':=w.heap.size) b05.size
   have hob':=hob.mono (B':=w.heap.size) b05.size
   obtain ⟨a2a,a2n,a2c,rfl⟩:=hoa.at.shape
   obtain ⟨b2a,b2n,b2c,rfl⟩:=hob.at.shape
   replace hr:=Hd hr
   replace hfa:=Hd hfa
   replace hfb:=Hd hfb
   replace hoa:=Hd hoa
   replace hob:=Hd hob
   replace hoa':=Hd hoa'
   replace hob':=Hd hob'
   replace hdis:=Hd hdis
   replace hAll:=Hd hAll
   replace hfit:=Hd hfit
   go_wp2
   go_ret3
   exact ⟨_,_,_,rfl,b0o,.inl ⟨hAll.out,rfl,hoa'.out,hob'.out,hdis.out⟩⟩
theorem step_appR {ops:Array Oper} {o:Oper} {a:Act} {w:World} {K:Act→World→Prop} {Q:Exit→Act→World→Prop} {Ep:Prop} (hgd:o.guard=none) (s x:Operand)
 (ho:o.op=.call { callee:=.builtin .append,args:=#[s,x],argTypes:=#[22,22] })
 (B:Nat) (v u:Value) (xs ys:List Int) (hs:a.eval s=v) (hx:a.eval x=u) (hown:OwnI B w v xs) (hu:IntsAt w u ys)
 (hlen:xs.length+ys.length≤17592186044416) (hB:B≤w.heap.size)
 (h:∀ v' w',OwnI B w' v' (xs++ys)→Below B w w'→w.grownBy w' v.ownBlock→(v'.ownBlock=v.ownBlock∨v'.ownBlock=some w.heap.size)→K (a.put o.dst v') w') :
 if Region.wanted o (yielded ops a.tmps)=true then Oper.wp Tryz.prog o a w K Q else Ep:=by
 have hw:Region.wanted o (yielded ops a.tmps)=true:=by simp [Region.wanted,hgd]
 rw [if_pos hw]
 obtain ⟨v',w',hr,h2,h3,h4,h5⟩:=run_appI B o.type v u xs ys hown hu hlen hB
 unfold Oper.wp
 simp [execOp,ho,resolve,invoke,builtin,hs,hx,hr,Result.andThen]
 exact h v' w' h2 h3 h4 h5
def SD (B:Nat) (W:World) (va:Value) (xs:List Int) (vb:Value) (ys:List Int) (L M:Option (Nat×Int)):Prop :=
 ∃ f,Rows B W f∧f (1,0)=some (rowI va xs)∧f (2,0)=some (rowI vb ys)∧(∀ b s,L=some (b,s)→f (3,0)=some (rowI (.slice (some ⟨b,0,none⟩) 1 1) [s]))∧(∀ b s,M=some (b,s)→f (4,0)=some (rowI (.slice (some ⟨b,0,none⟩) 1 1) [s]))
section
variable {B:Nat} {W:World} {va vb:Value} {xs ys:List Int} {L M:Option (Nat×Int)}
theorem SD.ownA (h:SD B W va xs vb ys L M):OwnI B W va xs:=by obtain ⟨f,hr,h1,_⟩:=h; exact hr.ownI h1
theorem SD.ownB (h:SD B W va xs vb ys L M):OwnI B W vb ys:=by obtain ⟨f,hr,_,h2,_⟩:=h; exact hr.ownI h2
theorem SD.litL {b:Nat} {s:Int} (h:SD B W va xs vb ys (some (b,s)) M):IntsAt W (.slice (some ⟨b,0,none⟩) 1 1) [s]:=by obtain ⟨f,hr,_,_,h3,_⟩:=h; exact (hr.ownI (h3 b s rfl)).at
theorem SD.litM {b:Nat} {s:Int} (h:SD B W va xs vb ys L (some (b,s))):IntsAt W (.slice (some ⟨b,0,none⟩) 1 1) [s]:=by obtain ⟨f,hr,_,_,_,h4⟩:=h; exact (hr.ownI (h4 b s rfl)).at
theorem SD.two (h:SD B W va xs vb ys L M):va.ownBlock=Option.none∨va.ownBlock≠vb.ownBlock:=by obtain ⟨f,hr,h1,h2,_⟩:=h; exact hr.2 (1,0) (2,0) _ _ h1 h2 (by simp)
theorem SD.forget (h:SD B W va xs vb ys L M):SD B W va xs vb ys Option.none Option.none:=by obtain ⟨f,hr,h1,h2,_⟩:=h; exact ⟨f,hr,h1,h2,(fun _ _ e=>by cases e),(fun _ _ e=>by cases e)⟩
theorem SD.below {w':World} (h:SD B W va xs vb ys L M) (hb:Below W.heap.size W w'):SD B w' va xs vb ys L M:=by obtain ⟨f,hr,h1⟩:=h; exact ⟨f,hr.below hb,h1⟩
theorem lit_own {B:Nat} {W:World} (hB:B≤W.heap.size) (s:Int):OwnI B (W.alloc (.cells #[.int .i64 s] 3)) (.slice (some ⟨W.heap.size,0,none⟩) 1 1) [s] :=
 OwnI.lit B W hB [s] (by simp [maxLen]) #[.int .i64 s] rfl 1 rfl
theorem SD.addL (h:SD B W va xs vb ys Option.none M) (hB:B≤W.heap.size) (s:Int) {b:Nat} (hb:b=W.heap.size):SD B (W.alloc (.cells #[.int .i64 s] 3)) va xs vb ys (some (b,s)) M:=by
 subst hb
 obtain ⟨f,hr,h1,h2,h3,h4⟩:=h
 refine ⟨_,hr.add (i:=(3,0)) (r':=rowI (.slice (some ⟨W.heap.size,0,none⟩) 1 1) [s]) (belowAlloc W _) (lit_own hB s) (fun k hk=>by cases hk; exact Nat.le_refl _),by rw [upd_ne _ _ (by simp)]; exact h1,by rw [upd_ne _ _ (by simp)]; exact h2,fun b t e=>?_,fun b t e=>by rw [upd_ne _ _ (by simp)]; exact h4 b t e⟩
 cases e; rw [upd_same]
theorem SD.addM (h:SD B W va xs vb ys L Option.none) (hB:B≤W.heap.size) (s:Int) {b:Nat} (hb:b=W.heap.size):SD B (W.alloc (.cells #[.int .i64 s] 3)) va xs vb ys L (some (b,s)):=by
 subst hb
 obtain ⟨f,hr,h1,h2,h3,h4⟩:=h
 refine ⟨_,hr.add (i:=(4,0)) (r':=rowI (.slice (some ⟨W.heap.size,0,none⟩) 1 1) [s]) (belowAlloc W _) (lit_own hB s) (fun k hk=>by cases hk; exact Nat.le_refl _),by rw [upd_ne _ _ (by simp)]; exact h1,by rw [upd_ne _ _ (by simp)]; exact h2,fun b t e=>by rw [upd_ne _ _ (by simp)]; exact h3 b t e,fun b t e=>?_⟩
 cases e; rw [upd_same]
theorem SD.appA {w':World} {v':Value} {s:Int} (h:SD B W va xs vb ys L M) (ho:OwnI B w' v' (xs++[s])) (hg:W.grownBy w' va.ownBlock) (hal:v'.ownBlock=va.ownBlock∨v'.ownBlock=some W.heap.size):SD B w' v' (xs++[s]) vb ys Option.none M:=by
 obtain ⟨f,hr,h1,h2,h3,h4⟩:=h
 refine ⟨_,hr.push h1 s ho hg (hal.imp id fun e=>⟨_,e,Nat.le_refl _⟩),upd_same _ _ _,by rw [upd_ne _ _ (by simp)]; exact h2,(fun _ _ e=>by cases e),fun b t e=>by rw [upd_ne _ _ (by simp)]; exact h4 b t e⟩
theorem SD.appB {w':World} {v':Value} {s:Int} (h:SD B W va xs vb ys L M) (ho:OwnI B w' v' (ys++[s])) (hg:W.grownBy w' vb.ownBlock) (hal:v'.ownBlock=vb.ownBlock∨v'.ownBlock=some W.heap.size):SD B w' va xs v' (ys++[s]) L Option.none:=by
 obtain ⟨f,hr,h1,h2,h3,h4⟩:=h
 refine ⟨_,hr.push h2 s ho hg (hal.imp id fun e=>⟨_,e,Nat.le_refl _⟩),by rw [upd_ne _ _ (by simp)]; exact h1,upd_same _ _ _,fun b t e=>by rw [upd_ne _ _ (by simp)]; exact h3 b t e,(fun _ _ e=>by cases e)⟩
end
def sideA (k n:Nat) (way:List Nat):List Int:=castI (way.map fun p=>p/n%k)
def sideB (k n:Nat) (way:List Nat):List Int:=castI (way.map fun p=>p%n%k)
theorem sideA_take {k n:Nat} {way:List Nat} {i p:Nat} (h:way[i]?=some p):sideA k n (way.take (i+1))=sideA k n (way.take i)++[((p/n%k:Nat):Int)]:=by
 rw [List.take_add_one,h]; simp [sideA,castI]
theorem sideB_take {k n:Nat} {way:List Nat} {i p:Nat} (h:way[i]?=some p):sideB k n (way.take (i+1))=sideB k n (way.take i)++[((p%n%k:Nat):Int)]:=by
 rw [List.take_add_one,h]; simp [sideB,castI]
theorem sideA_len (k n:Nat) (way:List Nat):(sideA k n way).length=way.length:=by simp [sideA,castI_len]
theorem sideB_len (k n:Nat) (way:List Nat):(sideB k n way).length=way.length:=by simp [sideB,castI_len]
theorem sides14_any (k n:Nat) (u:Value) (way:List Nat) (w:World) (hu:IntsAt w u (castI way)) (hk:1≤k) (hn:1≤n) (hlow:∀ p∈way,p≤1000000) (hlen:way.length≤1000000) :
 Calls Tryz.prog 130 #[.int .i64 k,.int .i64 n,u] w (Ret2 (fun x y w'=>OwnI w.heap.size w' x (sideA k n way)∧OwnI w.heap.size w' y (sideB k n way)∧(x.ownBlock=none∨x.ownBlock≠y.ownBlock)) w):=by
 have lu:=hu.len
 rw [castI_len] at lu
 obtain ⟨ua,un,uc,rfl⟩:=hu.shape
 have hk1:¬ (k:Int)=0:=by omega
 have hk2:((k:Int)==0)=false:=by rw [beq_eq_false_iff_ne]; omega
 have hk3:¬ k=0:=by omega
 have hn1:¬ (n:Int)=0:=by omega
 have hn2:((n:Int)==0)=false:=by rw [beq_eq_false_iff_ne]; omega
 have hn3:¬ n=0:=by omega
 have hS0:SD w.heap.size w (.slice none 0 0) (sideA k n (way.take 0)) (.slice none 0 0) (sideB k n (way.take 0)) Option.none Option.none:=by
  refine ⟨fun i=>if i=(1,0)∨i=(2,0) then some (rowI (.slice none 0 0) []) else Option.none,⟨fun i r hi=>?_,fun i j r s hi hj hne=>?_⟩,by simp [sideA,castI],by simp [sideB,castI],(fun _ _ e=>by cases e),(fun _ _ e=>by cases e)⟩
  ·dsimp only at hi
   split at hi
   ·cases hi; exact OwnI.nil _ _
   ·cases hi
  ·dsimp only at hi
   split at hi
   ·cases hi; exact .inl rfl
   ·cases hi
 replace hu:=Hd hu
 replace hlow:=Hd hlow
 replace hS0:=Hd hS0
 go_enter Tryz.func130,Tryz.ntmps130
 go_wp2_with fail
 go_loopw [8,9,14] (fun av bv iv wr=>∃ (i:Nat) (va vb:Value),i≤way.length∧iv=.int .i64 i∧va=av∧vb=bv∧SD w.heap.size wr va (sideA k n (way.take i)) vb (sideB k n (way.take i)) Option.none Option.none∧Below w.heap.size w wr) (fun _ _ iv _=>way.length-(intOf iv).toNat)
 case atStart=>exact ⟨0,_,_,by omega,rfl,rfl,rfl,hS0.out,Below.refl _ _⟩
 case round =>
  clear hS0
  obtain ⟨i,va,vb,hi,rfl,rfl,rfl,hS,hB⟩:=hrel
  obtain ⟨wo,rfl⟩:∃ wo:World,wo=wr:=⟨_,rfl⟩
  by_cases hil:i<way.length
  ·obtain ⟨p,hp⟩:∃ p,way[i]?=some p:=⟨_,List.getElem?_eq_getElem hil⟩
   have hpl:=hlow.out p (List.mem_of_getElem? hp)
   have huo:=hu.out.below hB
   have iU:=fun w'=>huo.idx i (by rw [castI_len]; exact hil) w'
   have cU:=huo.cellD i (by rw [castI_len]; exact hil)
   rw [castI_get hp] at cU
   have tA:=sideA_take (k:=k) (n:=n) hp
   have tB:=sideB_take (k:=k) (n:=n) hp
   have lA:=sideA_len k n (way.take i)
   have lB:=sideB_len k n (way.take i)
   rw [List.length_take] at lA lB
   have lA2:(sideA k n (way.take i)).length≤1000000:=by omega
   have lB2:(sideB k n (way.take i)).length≤1000000:=by omega
   clear lA lB
   obtain ⟨a1,a2,a3,a4,a5,a6⟩:=dm p n (by omega)
   have hal:p/n≤p:=Nat.div_le_self _ _
   have hbl:p%n≤p:=Nat.mod_le _ _
   obtain ⟨a,ha⟩:∃ a,p/n=a:=⟨_,rfl⟩
   obtain ⟨b,hb⟩:∃ b,p%n=b:=⟨_,rfl⟩
   rw [ha] at a1 a3 a5 hal tA
   rw [hb] at a2 a4 a6 hbl tB
   obtain ⟨-,b2,-,b4,-,b6⟩:=dm a k (by omega)
   obtain ⟨-,c2,-,c4,-,c6⟩:=dm b k (by omega)
   obtain ⟨s,hs⟩:∃ s,a%k=s:=⟨_,rfl⟩
   obtain ⟨t,ht⟩:∃ t,b%k=t:=⟨_,rfl⟩
   rw [hs] at b2 b4 b6 tA
   rw [ht] at c2 c4 c6 tB
   generalize valAt (.slice ua un uc) i=ui at *
   have hil2:=Hd hil
   replace hp:=Hd hp
   replace ha:=Hd ha
   replace hb:=Hd hb
   replace hs:=Hd hs
   replace ht:=Hd ht
   replace tA:=Hd tA
   replace tB:=Hd tB
   replace huo:=Hd huo
   obtain ⟨W,hW⟩:∃ W:World,W=wo.drew:=⟨_,rfl⟩
   have hSW:SD w.heap.size W va (sideA k n (way.take i)) vb (sideB k n (way.take i)) Option.none Option.none:=by rw [hW]; exact hS.below ((Below.refl _ _).drew)
   have hBW:Below w.heap.size w W:=by rw [hW]; exact hB.drew
   have hsz:=hBW.size
   have hva:=hS.ownA.at.shape
   have hvb:=hS.ownB.at.shape
   obtain ⟨aa,an,ac,rfl⟩:=hva
   obtain ⟨ba,bn,bc,rfl⟩:=hvb
   generalize sideA k n (way.take i)=As at *
   generalize sideB k n (way.take i)=Bs at *
   go_upto_region 5 with fail
   refine wp_region_noPanic ?_
   refine wp_region_any (by kernel_rfl) ?_
   change wpAny _ _ _ _ _ _ _ (World.drew _)
   rw [← hW]
   clear hS hB cU iU hW
   refine pqA 0 18 ?_
   refine pqA 1 19 ?_
   refine pqA 2 20 ?_
   refine pqA 3 21 ?_
   refine pqA 4 22 ?_
   refine pqA 5 23 ?_
   refine pqA 8 26 ?_
   refine pqA 9 27 ?_
   refine pqA 10 28 ?_
   refine pqA 11 29 ?_
   refine pqA 12 30 ?_
   refine pqA 13 31 ?_
   refine wpAny_ready (rs:=[6,14]) (by kernel_rfl) (by simp) (AllReady.cons rfl (fun KK hK=>?_) (AllReady.cons rfl (fun KK hK=>?_) AllReady.nil))
   ·go_simp
    refine hK _ _ ?_
    clear hK KK
    obtain ⟨X1,hY1⟩:∃ Y:World,Y=W.alloc (.cells #[.int .i64 (s:Int)] 3):=⟨_,rfl⟩
    have S1:=hSW.addL hsz (s:Int) rfl
    have B1:=hBW.trans ((belowAlloc W (.cells #[.int .i64 (s:Int)] 3)).mono hsz)
    rw [← hY1] at S1 B1 ⊢
    have hX1:w.heap.size≤X1.heap.size:=B1.size
    clear hSW hY1
    refine wpAny_ready (rs:=[7,14]) (by kernel_rfl) (by simp) (AllReady.cons rfl (fun KK hK=>?_) (AllReady.cons rfl (fun KK hK=>?_) AllReady.nil))
    ·refine step_appR rfl _ _ rfl w.heap.size (.slice aa an ac) _ As [(s:Int)] rfl rfl S1.ownA S1.litL (by simp; omega) hX1 ?_
     intro v' X2 ho' hb' hg' hal'
     refine hK _ _ ?_
     clear hK KK
     have S2:=S1.appA ho' hg' hal'
     have B2:=B1.trans hb'
     have hX2:w.heap.size≤X2.heap.size:=B2.size
     obtain ⟨ea,en,ec,rfl⟩:=ho'.at.shape
     clear S1 ho' hb' hg' hal'
     refine wpAny_ready (rs:=[14]) (by kernel_rfl) (by simp) (AllReady.cons rfl (fun KK hK=>?_) AllReady.nil)
     ·go_simp
      refine hK _ _ ?_
      clear hK KK
      obtain ⟨X3,hY3⟩:∃ Y:World,Y=X2.alloc (.cells #[.int .i64 (t:Int)] 3):=⟨_,rfl⟩
      have S3:=S2.addM hX2 (t:Int) rfl
      have B3:=B2.trans ((belowAlloc X2 (.cells #[.int .i64 (t:Int)] 3)).mono hX2)
      rw [← hY3] at S3 B3 ⊢
      have hX3:w.heap.size≤X3.heap.size:=B3.size
      clear S2 hY3
      refine wpAny_ready (rs:=[15]) (by kernel_rfl) (by simp) (AllReady.cons rfl (fun KK hK=>?_) AllReady.nil)
      ·refine step_appR rfl _ _ rfl w.heap.size (.slice ba bn bc) _ Bs [(t:Int)] rfl rfl S3.ownB S3.litM (by simp; omega) hX3 ?_
       intro v' X4 ho' hb' hg' hal'
       refine hK _ _ ?_
       clear hK KK
       have S4:=S3.appB ho' hg' hal'
       have B4:=B3.trans hb'
       have hX4:w.heap.size≤X4.heap.size:=B4.size
       obtain ⟨fa,fn,fc,rfl⟩:=ho'.at.shape
       clear S3 ho' hb' hg' hal'
       refine takeA (i:=16) (v:=?_) (some 8) rfl rfl (by kernel_rfl) (by kernel_rfl) (by kernel_rfl) (fun _ _ _ h=>h) (Or.inl ⟨by rfl,?_⟩) ?_
       rotate_left
       ·intro _; go_simp; try with_reducible rfl
       simp only [Act.put,List.setIfInBounds_toArray]
       refine takeA (i:=17) (v:=?_) (some 9) rfl rfl (by kernel_rfl) (by kernel_rfl) (by kernel_rfl) (fun _ _ _ h=>h) (Or.inl ⟨by rfl,?_⟩) ?_
       rotate_left
       ·intro _; go_simp; try with_reducible rfl
       simp only [Act.put]
       refine wpAny_done (by kernel_rfl) ?_ _
       refine NoPanic.normal ?_
       have hF:=S4.forget
       rw [← tA.out,← tB.out] at hF
       replace hF:=Hd hF
       clear S4
       go_wp2
       go_roundw
       case rel=>exact ⟨i+1,_,_,by have:=hil2.out; omega,by go_num,rfl,rfl,hF.out,B4⟩
       case measure=>have:=hil2.out; simp [intOf]; omega
    ·go_simp
     refine hK _ _ ?_
     clear hK KK
     obtain ⟨X2,hY2⟩:∃ Y:World,Y=X1.alloc (.cells #[.int .i64 (t:Int)] 3):=⟨_,rfl⟩
     have S2:=S1.addM hX1 (t:Int) rfl
     have B2:=B1.trans ((belowAlloc X1 (.cells #[.int .i64 (t:Int)] 3)).mono hX1)
     rw [← hY2] at S2 B2 ⊢
     have hX2:w.heap.size≤X2.heap.size:=B2.size
     clear S1 hY2
     refine wpAny_ready (rs:=[7]) (by kernel_rfl) (by simp) (AllReady.cons rfl (fun KK hK=>?_) AllReady.nil)
     ·refine step_appR rfl _ _ rfl w.heap.size (.slice aa an ac) _ As [(s:Int)] rfl rfl S2.ownA S2.litL (by simp; omega) hX2 ?_
      intro v' X3 ho' hb' hg' hal'
      refine hK _ _ ?_
      clear hK KK
      have S3:=S2.appA ho' hg' hal'
      have B3:=B2.trans hb'
      have hX3:w.heap.size≤X3.heap.size:=B3.size
      obtain ⟨ea,en,ec,rfl⟩:=ho'.at.shape
      clear S2 ho' hb' hg' hal'
      refine wpAny_ready (rs:=[15]) (by kernel_rfl) (by simp) (AllReady.cons rfl (fun KK hK=>?_) AllReady.nil)
      ·refine step_appR rfl _ _ rfl w.heap.size (.slice ba bn bc) _ Bs [(t:Int)] rfl rfl S3.ownB S3.litM (by simp; omega) hX3 ?_
       intro v' X4 ho' hb' hg' hal'
       refine hK _ _ ?_
       clear hK KK
       have S4:=S3.appB ho' hg' hal'
       have B4:=B3.trans hb'
       have hX4:w.heap.size≤X4.heap.size:=B4.size
       obtain ⟨fa,fn,fc,rfl⟩:=ho'.at.shape
       clear S3 ho' hb' hg' hal'
       refine takeA (i:=16) (v:=?_) (some 8) rfl rfl (by kernel_rfl) (by kernel_rfl) (by kernel_rfl) (fun _ _ _ h=>h) (Or.inl ⟨by rfl,?_⟩) ?_
       rotate_left
       ·intro _; go_simp; try with_reducible rfl
       simp only [Act.put,List.setIfInBounds_toArray]
       refine takeA (i:=17) (v:=?_) (some 9) rfl rfl (by kernel_rfl) (by kernel_rfl) (by kernel_rfl) (fun _ _ _ h=>h) (Or.inl ⟨by rfl,?_⟩) ?_
       rotate_left
       ·intro _; go_simp; try with_reducible rfl
       simp only [Act.put]
       refine wpAny_done (by kernel_rfl) ?_ _
       refine NoPanic.normal ?_
       have hF:=S4.forget
       rw [← tA.out,← tB.out] at hF
       replace hF:=Hd hF
       clear S4
       go_wp2
       go_roundw
       case rel=>exact ⟨i+1,_,_,by have:=hil2.out; omega,by go_num,rfl,rfl,hF.out,B4⟩
       case measure=>have:=hil2.out; simp [intOf]; omega
   ·go_simp
    refine hK _ _ ?_
    clear hK KK
    obtain ⟨X1,hY1⟩:∃ Y:World,Y=W.alloc (.cells #[.int .i64 (t:Int)] 3):=⟨_,rfl⟩
    have S1:=hSW.addM hsz (t:Int) rfl
    have B1:=hBW.trans ((belowAlloc W (.cells #[.int .i64 (t:Int)] 3)).mono hsz)
    rw [← hY1] at S1 B1 ⊢
    have hX1:w.heap.size≤X1.heap.size:=B1.size
    clear hSW hY1
    refine wpAny_ready (rs:=[6]) (by kernel_rfl) (by simp) (AllReady.cons rfl (fun KK hK=>?_) AllReady.nil)
    ·go_simp
     refine hK _ _ ?_
     clear hK KK
     obtain ⟨X2,hY2⟩:∃ Y:World,Y=X1.alloc (.cells #[.int .i64 (s:Int)] 3):=⟨_,rfl⟩
     have S2:=S1.addL hX1 (s:Int) rfl
     have B2:=B1.trans ((belowAlloc X1 (.cells #[.int .i64 (s:Int)] 3)).mono hX1)
     rw [← hY2] at S2 B2 ⊢
     have hX2:w.heap.size≤X2.heap.size:=B2.size
     clear S1 hY2
     refine wpAny_ready (rs:=[7]) (by kernel_rfl) (by simp) (AllReady.cons rfl (fun KK hK=>?_) AllReady.nil)
     ·refine step_appR rfl _ _ rfl w.heap.size (.slice aa an ac) _ As [(s:Int)] rfl rfl S2.ownA S2.litL (by simp; omega) hX2 ?_
      intro v' X3 ho' hb' hg' hal'
      refine hK _ _ ?_
      clear hK KK
      have S3:=S2.appA ho' hg' hal'
      have B3:=B2.trans hb'
      have hX3:w.heap.size≤X3.heap.size:=B3.size
      obtain ⟨ea,en,ec,rfl⟩:=ho'.at.shape
      clear S2 ho' hb' hg' hal'
      refine wpAny_ready (rs:=[15]) (by kernel_rfl) (by simp) (AllReady.cons rfl (fun KK hK=>?_) AllReady.nil)
      ·refine step_appR rfl _ _ rfl w.heap.size (.slice ba bn bc) _ Bs [(t:Int)] rfl rfl S3.ownB S3.litM (by simp; omega) hX3 ?_
       intro v' X4 ho' hb' hg' hal'
       refine hK _ _ ?_
       clear hK KK
       have S4:=S3.appB ho' hg' hal'
       have B4:=B3.trans hb'
       have hX4:w.heap.size≤X4.heap.size:=B4.size
       obtain ⟨fa,fn,fc,rfl⟩:=ho'.at.shape
       clear S3 ho' hb' hg' hal'
       refine takeA (i:=16) (v:=?_) (some 8) rfl rfl (by kernel_rfl) (by kernel_rfl) (by kernel_rfl) (fun _ _ _ h=>h) (Or.inl ⟨by rfl,?_⟩) ?_
       rotate_left
       ·intro _; go_simp; try with_reducible rfl
       simp only [Act.put,List.setIfInBounds_toArray]
       refine takeA (i:=17) (v:=?_) (some 9) rfl rfl (by kernel_rfl) (by kernel_rfl) (by kernel_rfl) (fun _ _ _ h=>h) (Or.inl ⟨by rfl,?_⟩) ?_
       rotate_left
       ·intro _; go_simp; try with_reducible rfl
       simp only [Act.put]
       refine wpAny_done (by kernel_rfl) ?_ _
       refine NoPanic.normal ?_
       have hF:=S4.forget
       rw [← tA.out,← tB.out] at hF
       replace hF:=Hd hF
       clear S4
       go_wp2
       go_roundw
       case rel=>exact ⟨i+1,_,_,by have:=hil2.out; omega,by go_num,rfl,rfl,hF.out,B4⟩
       case measure=>have:=hil2.out; simp [intOf]; omega
  ·obtain rfl:i=way.length:=by omega
   rw [List.take_length] at hS
   have h1:=hS.ownA
   have h2:=hS.ownB
   have h3:=hS.two
   replace hS:=Hd hS
   replace h1:=Hd h1
   replace h2:=Hd h2
   replace h3:=Hd h3
   go_wp2
   go_ret2
   exact ⟨_,_,rfl,hB,h1.out,h2.out,h3.out⟩
end Go.Proofs.YtncpnaoabkjegaaGreatDoor
namespace Go.Proofs.YtncpnaoabkjegaaGreatDoor
open Go.RowKit
set_option maxRecDepth 100000
structure Kin (w:World) (lo:Nat) (vs:List Value) (xs:List (List Int)):Prop where
 len:vs.length=xs.length
 own:∀ t,t<vs.length→OwnI lo w (vAt vs t) (xs.getD t [])
 two:∀ s t,s<vs.length→t<vs.length→s≠t→(vAt vs s).ownBlock=none∨(vAt vs s).ownBlock≠(vAt vs t).ownBlock
theorem wpl_app_run {w:World} {ops:Array Oper} {rest:List Oper} {o:Oper} {a:Act} {Q:Exit→Act→World→Prop} (hgd:o.guard=none) (s x:Operand) (T:TypeId)
 (ho:o.op=.call { callee:=.builtin .append,args:=#[s,x],argTypes:=#[T,T] })
 (v u:Value) (hs:a.eval s=v) (hx:a.eval x=u) {v':Value} {w':World} (hr:(Builtin.append_ #[T,T] o.type #[v,u]).run Tryz.prog w=.ok v' w')
 (h:wpList Tryz.prog ops Q rest (a.put o.dst v') w') :
 wpList Tryz.prog ops Q (o::rest) a w:=by
 refine wpList_plain hgd fun K hK=>?_
 unfold Oper.wp execOp
 simp only [ho,resolve,invoke,builtin,Sem.run_bind,Sem.run_pure,Result.andThen_ok,List.map_toArray,List.map_cons,List.map_nil,hs,hx]
 rw [hr]
 exact hK _ _ h
theorem add_lit0 (b j:Nat):(⟨b,0,none⟩:Addr).add j=⟨b,j,none⟩:=by simp [Addr.add_lit]
theorem run_appTail (B:Nat) (ty:TypeId) (w:World) (g C b:Nat) (xs:List Int) (y:Int) (hown:OwnI B w (.slice (some ⟨g,0,none⟩) xs.length C) xs) (hL:1≤xs.length) (hb:w.cell? ⟨b,0,none⟩=some (.int .i64 y)) (hB:B≤w.heap.size) (hlen:xs.length≤1000000) :
 ∃ v' w',(Builtin.append_ #[22,22] ty #[sliced (some ⟨g,0,none⟩) 1 xs.length C 1,.slice (some ⟨b,0,none⟩) 1 1]).run Tryz.prog w=.ok v' w'∧IntsAt w' v' (xs.drop 1++[y])∧Below B w w'∧w.grownBy w' (some g):=by
 obtain ⟨i,hi,hz0,hz1,hz2⟩:=info_parts iInt
 have hat:=hown.at
 have hcells:∀ j (hj:j<xs.length),w.cell? ⟨g,j,none⟩=some (.int .i64 xs[j]):=fun j hj=>by
  have:=hat.cell j hj
  rwa [valAt_row] at this
 have hnews:∀ (j:Nat) (u:Value),([.int .i64 y]:List Value)[j]?=some u→w.cell? ((⟨b,0,none⟩:Addr).add j)=some u:=by
  intro j u hj
  cases j with
  | zero=>simp at hj; subst hj; rw [add_lit0]; exact hb
  | succ j=>simp at hj
 have hone:∀ u∈([.int .i64 y]:List Value),u.oneCell'=true:=by intro u hu; rw [List.mem_singleton] at hu; subst hu; rfl
 rcases hown.2 with ⟨e,_⟩ | ⟨g',cap,cur,e,hBg,hg,hn,hm,hs,ht⟩
 ·cases e
 injection e with e1 _ e3
 obtain rfl:g=g':=by injection e1 with e1; injection e1
 subst e3
 have finish:∀ v' w',w'.ownsRow w.heap.size 3 1 v' (xs.length-1+1) ((xs.drop 1).map (Value.int .i64)++[.int .i64 y])→IntsAt w' v' (xs.drop 1++[y]):=fun v' w' h=>by
  have:OwnI w.heap.size w' v' (xs.drop 1++[y]):=by
   unfold OwnI
   rw [List.map_append,List.length_append,List.length_drop]
   exact h
  exact this.at
 by_cases hC:C=1
 ·have h1:xs.length=1:=by omega
  have hsl:sliced (some ⟨g,0,none⟩) 1 xs.length C 1=.slice (some ⟨g,0,none⟩) 0 0:=by unfold sliced; rw [if_pos hC,h1,hC]
  obtain ⟨v',w',hr,r1,r2⟩:=run_append_arg_grows (P:=Tryz.prog) w 22 ty 3 i (.int .i64 0) 1 8 uInts hi hz0 hz1 hz2 rfl (by decide) ⟨g,0,none⟩ 0 0 [] rfl (by simp) ⟨b,0,none⟩ 1 1 [.int .i64 y] rfl hnews (by omega) (by unfold maxLen; omega) (by omega)
  have hd:xs.drop 1=[]:=List.drop_eq_nil_of_le (by omega)
  refine ⟨v',w',by rw [hsl]; exact hr,finish v' w' (by rw [hd,h1]; exact r1),(Below.refl _ _).grown r2 hB (by intro k hk; cases hk),⟨r2.os,r2.tape,r2.output,r2.size,fun k hk _=>r2.block k hk (by simp)⟩⟩
 ·have hsl:sliced (some ⟨g,0,none⟩) 1 xs.length C 1=.slice (some ⟨g,1,none⟩) (xs.length-1) (C-1):=by unfold sliced; rw [if_neg hC]; rfl
  by_cases hroom:xs.length<C
  ·have hcs:cur.size=C:=by rw [hs,Nat.mul_one]
   have hl:w.cell? ⟨g,xs.length,none⟩=cur[xs.length]?:=cell_of_row w g _ cur _ _ hg
   have hsome:(w.cell? ⟨g,xs.length,none⟩).isSome=true:=by rw [hl]; simp [hcs,hroom]
   have hfz:w.frozen? ⟨g,xs.length,none⟩=false:=frozen_of_row w g _ cur _ hg
   have e1:1+(xs.length-1)*i.size+0=xs.length:=by rw [hz1]; omega
   have hr:=run_append_room_cells (P:=Tryz.prog) w 22 ty 3 i uInts hi g 1 (xs.length-1) (C-1) ⟨b,0,none⟩ 1 1 [.int .i64 y] (by rw [hz1]; rfl) hnews hone (by omega) (fun j hj=>by
    obtain rfl:j=0:=by simpa using hj
    rw [e1]; exact hsome) (fun j hj=>by
    obtain rfl:j=0:=by simpa using hj
    rw [e1]; exact hfz)
   have e2:1+(xs.length-1)*i.size=xs.length:=by rw [hz1]; omega
   have e3:xs.length-1+1=xs.length:=by omega
   rw [e2,e3] at hr
   have e4:w.setCells g xs.length [.int .i64 y]=w.setCell ⟨g,xs.length,none⟩ (.int .i64 y):=rfl
   rw [e4] at hr
   refine ⟨_,_,by rw [hsl]; exact hr,?_,(Below.refl _ _).setCell hBg _,⟨rfl,rfl,rfl,by simp [World.setCell],fun k _ hk=>Below.heap_setCell _ _ _ _ (by intro e; exact hk (by rw [e]))⟩⟩
   refine ⟨some ⟨g,1,none⟩,C-1,by simp; omega,by simp; omega,by omega,(by intro e; cases e),fun j hj=>?_⟩
   have hj2:j<xs.length:=by simp at hj; omega
   have ev:valAt (.slice (some ⟨g,1,none⟩) xs.length (C-1)) j=⟨g,1+j,none⟩:=by simp [valAt,Addr.add_lit]
   rw [ev]
   by_cases hjl:j+1<xs.length
   ·rw [World.cell?_setCell_other _ _ _ _ (by intro e; have:=congrArg Addr.off e; dsimp only at this; omega),Nat.add_comm 1 j,hcells (j+1) hjl]
    rw [List.getElem_append_left (by simp; omega),List.getElem_drop]
    simp only [Nat.add_comm 1 j]
   ·obtain rfl:j=xs.length-1:=by omega
    rw [show 1+(xs.length-1)=xs.length by omega,World.cell?_setCell_same' _ _ _ hsome,List.getElem_append_right (by simp)]
    simp
  ·obtain ⟨v',w',hr,r1,r2⟩:=run_append_arg_grows (P:=Tryz.prog) w 22 ty 3 i (.int .i64 0) 1 8 uInts hi hz0 hz1 hz2 rfl (by decide) ⟨g,1,none⟩ (xs.length-1) (C-1) ((xs.drop 1).map (Value.int .i64)) (by simp) (fun j u hj=>by
    have hjl:j<(xs.drop 1).length:=by have:=(List.getElem?_eq_some_iff.1 hj).1; simpa using this
    have hjl2:j+1<xs.length:=by simp at hjl; omega
    rw [Addr.add_lit,Nat.add_comm 1 j,hcells (j+1) hjl2,← hj]
    simp [hjl2]) ⟨b,0,none⟩ 1 1 [.int .i64 y] rfl hnews (by omega) (by unfold maxLen; omega) (by omega)
   exact ⟨v',w',by rw [hsl]; exact hr,finish v' w' r1,(Below.refl _ _).grown r2 hB (by intro k hk; cases hk),⟨r2.os,r2.tape,r2.output,r2.size,fun k hk _=>r2.block k hk (by simp)⟩⟩
theorem run_sliceTail (g L C:Nat) (hL:1≤L) (w:World):(Instr.slice 22 (.slice (some ⟨g,0,none⟩) L C) (some (.int .i64 1)) none none).run Tryz.prog w=.ok (sliced (some ⟨g,0,none⟩) 1 L C 1) w:=by
 have:=run_slice_l (P:=Tryz.prog) w 22 (some ⟨g,0,none⟩) L C uIntsE .i64 1 (by omega) (by omega)
 rw [eInts,sInt] at this
 exact this
set_option maxHeartbeats 8000000
def outG (G:List (List Int)) (a:Int):Prop:=a<0∨(G.length:Int)≤a
instance (G:List (List Int)) (a:Int):Decidable (outG G a):=by unfold outG; infer_instance
def pathE (G:List (List Int)) (a b:Int):PErr :=
 match checkG G with
 | some t=>some t
 | none=>if outG G a then fresh sGraph 1 3 else if outG G b then fresh sGraph 2 3 else none
theorem pathE_ok {G:List (List Int)} {x y:Nat} (hc:checkG G=none) (hx:x<G.length) (hy:y<G.length):pathE G x y=none:=by
 unfold pathE
 rw [hc]
 dsimp only
 rw [if_neg (by unfold outG; omega),if_neg (by unfold outG; omega)]
def PathPost (r:Nat→Addr) (w:World) (G:List (List Int)) (a b:Int) (x y:Value) (w':World):Prop :=
 ErrIs r w' (pathE G a b) y∧(pathE G a b=none→FirstPost w (adjOf G) a.toNat b.toNat x w')∧(pathE G a b≠none→x=.slice none 0 0)
theorem FirstPost.step {w1 w2 w3:World} {adj:Nat→List Nat} {a b:Nat} {x:Value} (h:FirstPost w2 adj a b x w3) (hs:w1.heap.size≤w2.heap.size):FirstPost w1 adj a b x w3:=by
 rcases h with ⟨u,h1,h2⟩ | h
 ·exact .inl ⟨u,h1,h2.mono hs⟩
 ·exact .inr h
theorem FirstPost.shape {w w':World} {adj:Nat→List Nat} {a b:Nat} {x:Value} (h:FirstPost w adj a b x w'):∃ p n c,x=.slice p n c:=by
 rcases h with ⟨u,_,h2⟩ | ⟨_,h⟩
 ·exact h2.at.shape
 ·exact ⟨_,_,_,h⟩
theorem path_any (r:Nat→Addr) (na:Option Addr) (nc:Nat) (G:List (List Int)) (a b:Int) (w:World) (hg:Glob r w) (h:ListsAt w (.slice na G.length nc) G) (hsz:∀ k,k<G.length→(G.getD k []).length≤17592186044416) :
 Calls Tryz.prog 129 #[.slice na G.length nc,.int .i64 a,.int .i64 b] w (Ret2 (PathPost r w G a b) w):=by
 have hC:=graph_check r na nc G w hg h hsz
 cases hck:checkG G with
 | some t =>
  rw [hck] at hC
  have hp:pathE G a b=some t:=by unfold pathE; rw [hck]
  replace hp:=Hd hp
  replace hck:=Hd hck
  replace h:=Hd h
  replace hg:=Hd hg
  replace hsz:=Hd hsz
  go_enter Tryz.func129,Tryz.ntmps129
  go_wp2_with fail
  refine hC.mono ?_
  rintro e w1 ⟨y,rfl,b1,he⟩
  obtain ⟨T,p,rfl⟩:=he.some_shape
  replace he:=Hd he
  go_wp2
  go_ret2
  exact ⟨_,_,rfl,b1,⟨by rw [hp.out]; exact he.out,⟨fun q=>(by rw [hp.out] at q; cases q),fun _=>rfl⟩⟩⟩
 | none =>
  rw [hck] at hC
  obtain ⟨hn,harr,hok⟩:=checkG_none hck
  by_cases ha:outG G a
  ·have hp:pathE G a b=fresh sGraph 1 3:=by unfold pathE; rw [hck]; dsimp only; rw [if_pos ha]
   replace hp:=Hd hp
   replace hck:=Hd hck
   replace h:=Hd h
   replace hg:=Hd hg
   replace hsz:=Hd hsz
   replace hok:=Hd hok
   rcases ha with ha | ha
   ·go_enter Tryz.func129,Tryz.ntmps129
    go_wp2_with fail
    refine hC.mono ?_
    rintro e w1 ⟨y,rfl,b1,he⟩
    obtain rfl:=he.none_eq
    clear he hC
    go_wp2_with fail
    refine (graph_wrong r _ _ _ (hg.out.below b1) (by decide) (by decide)).mono ?_
    rintro e w2 ⟨y,rfl,b2,he⟩
    replace he:=Hd he
    go_wp2
    go_ret2
    exact ⟨_,_,rfl,Below.step b1 b2,⟨by rw [hp.out]; exact he.out,⟨fun q=>(by rw [hp.out] at q; cases q),fun _=>rfl⟩⟩⟩
   ·have ha0:¬ a<0:=by omega
    go_enter Tryz.func129,Tryz.ntmps129
    go_wp2_with fail
    refine hC.mono ?_
    rintro e w1 ⟨y,rfl,b1,he⟩
    obtain rfl:=he.none_eq
    clear he hC
    go_wp2_with fail
    refine (graph_wrong r _ _ _ (hg.out.below b1) (by decide) (by decide)).mono ?_
    rintro e w2 ⟨y,rfl,b2,he⟩
    replace he:=Hd he
    go_wp2
    go_ret2
    exact ⟨_,_,rfl,Below.step b1 b2,⟨by rw [hp.out]; exact he.out,⟨fun q=>(by rw [hp.out] at q; cases q),fun _=>rfl⟩⟩⟩
  ·have ha1:0≤a∧a<G.length:=by unfold outG at ha; omega
   obtain ⟨ha1,ha2⟩:=ha1
   by_cases hb:outG G b
   ·have hp:pathE G a b=fresh sGraph 2 3:=by unfold pathE; rw [hck]; dsimp only; rw [if_neg ha,if_pos hb]
    replace hp:=Hd hp
    replace hck:=Hd hck
    replace h:=Hd h
    replace hg:=Hd hg
    replace hsz:=Hd hsz
    replace hok:=Hd hok
    clear ha
    rcases hb with hb | hb
    ·go_enter Tryz.func129,Tryz.ntmps129
     go_wp2_with fail
     refine hC.mono ?_
     rintro e w1 ⟨y,rfl,b1,he⟩
     obtain rfl:=he.none_eq
     clear he hC
     go_wp2_with fail
     refine (graph_wrong r _ _ _ (hg.out.below b1) (by decide) (by decide)).mono ?_
     rintro e w2 ⟨y,rfl,b2,he⟩
     replace he:=Hd he
     go_wp2
     go_ret2
     exact ⟨_,_,rfl,Below.step b1 b2,⟨by rw [hp.out]; exact he.out,⟨fun q=>(by rw [hp.out] at q; cases q),fun _=>rfl⟩⟩⟩
    ·have hb0:¬ b<0:=by omega
     go_enter Tryz.func129,Tryz.ntmps129
     go_wp2_with fail
     refine hC.mono ?_
     rintro e w1 ⟨y,rfl,b1,he⟩
     obtain rfl:=he.none_eq
     clear he hC
     go_wp2_with fail
     refine (graph_wrong r _ _ _ (hg.out.below b1) (by decide) (by decide)).mono ?_
     rintro e w2 ⟨y,rfl,b2,he⟩
     replace he:=Hd he
     go_wp2
     go_ret2
     exact ⟨_,_,rfl,Below.step b1 b2,⟨by rw [hp.out]; exact he.out,⟨fun q=>(by rw [hp.out] at q; cases q),fun _=>rfl⟩⟩⟩
   ·have hb1:0≤b∧b<G.length:=by unfold outG at hb; omega
    obtain ⟨hb1,hb2⟩:=hb1
    have hp:pathE G a b=none:=by unfold pathE; rw [hck]; dsimp only; rw [if_neg ha,if_neg hb]
    obtain ⟨x,rfl⟩:=Int.eq_ofNat_of_zero_le ha1
    obtain ⟨y,rfl⟩:=Int.eq_ofNat_of_zero_le hb1
    have hx:x<G.length:=by omega
    have hy:y<G.length:=by omega
    clear ha hb ha1 hb1 ha2 hb2
    replace hp:=Hd hp
    replace hck:=Hd hck
    replace h:=Hd h
    replace hg:=Hd hg
    replace hsz:=Hd hsz
    replace hok:=Hd hok
    go_enter Tryz.func129,Tryz.ntmps129
    go_wp2_with fail
    refine hC.mono ?_
    rintro e w1 ⟨y',rfl,b1,he⟩
    obtain rfl:=he.none_eq
    clear he hC
    go_wp2_with fail
    refine (first_any na nc G x y _ (h.out.below b1) hok.out (by omega) hx hy hsz.out).mono ?_
    rintro e w2 ⟨z,rfl,b2,hz⟩
    obtain ⟨zp,zn,zc,rfl⟩:=hz.shape
    replace hz:=Hd hz
    go_wp2
    go_ret2
    exact ⟨_,_,rfl,Below.step b1 b2,⟨by rw [hp.out]; rfl,⟨fun _=>by rw [Int.toNat_natCast,Int.toNat_natCast]; exact hz.out.step b1.size,fun q=>absurd hp.out q⟩⟩⟩
def mapW (v n:Nat) (l:List Int):List Int:=l.map fun t=>if t=(v:Int) then (n:Int) else t
theorem mapW_len (v n:Nat) (l:List Int):(mapW v n l).length=l.length:=by simp [mapW]
def wideTo (G:List (List Int)) (v k:Nat):Nat→List Int:=fun u=>if u<k then mapW v G.length (G.getD u []) else []
def wideG (G:List (List Int)) (v:Nat):List (List Int):=rowsOf (G.length+1) (wideTo G v G.length)
def midW (v n:Nat) (l:List Int) (j:Nat):List Int:=mapW v n (l.take j)++l.drop j
theorem midW_zero (v n:Nat) (l:List Int):midW v n l 0=l:=by simp [midW,mapW]
theorem midW_full (v n:Nat) (l:List Int):midW v n l l.length=mapW v n l:=by simp [midW]
theorem midW_len (v n:Nat) (l:List Int) (j:Nat) (hj:j≤l.length):(midW v n l j).length=l.length:=by simp [midW,mapW_len]; omega
theorem mapW_append (v n:Nat) (a b:List Int):mapW v n (a++b)=mapW v n a++mapW v n b:=by unfold mapW; exact List.map_append
theorem midW_next (v n:Nat) (l:List Int) (j:Nat) (hj:j<l.length):midW v n l (j+1)=mapW v n (l.take j)++(if l[j]=(v:Int) then (n:Int) else l[j])::l.drop (j+1):=by
 unfold midW
 rw [take_snoc l j hj,mapW_append,List.append_assoc]
 rfl
theorem midW_now (v n:Nat) (l:List Int) (j:Nat) (hj:j<l.length):midW v n l j=mapW v n (l.take j)++l[j]::l.drop (j+1):=by
 unfold midW
 rw [← List.drop_eq_getElem_cons hj]
theorem midW_step (v n:Nat) (l:List Int) (j:Nat) (hj:j<l.length):midW v n l (j+1)=(midW v n l j).set j (if l[j]=(v:Int) then (n:Int) else l[j]):=by
 have hl:(mapW v n (l.take j)).length=j:=by rw [mapW_len,List.length_take]; omega
 rw [midW_next v n l j hj,midW_now v n l j hj,List.set_append_right _ _ (by omega),hl,Nat.sub_self,List.set_cons_zero]
theorem midW_same (v n:Nat) (l:List Int) (j:Nat) (hj:j<l.length) (he:l[j]≠(v:Int)):midW v n l (j+1)=midW v n l j:=by
 rw [midW_next v n l j hj,midW_now v n l j hj,if_neg he]
theorem updN_updN {α:Type} (f:Nat→α) (k:Nat) (a b:α):updN (updN f k a) k b=updN f k b:=by
 funext x
 by_cases e:x=k
 ·subst e; rw [updN_same,updN_same]
 ·rw [updN_other _ _ _ e,updN_other _ _ _ e,updN_other _ _ _ e]
theorem wideTo_succ (G:List (List Int)) (v k:Nat):updN (wideTo G v k) k (mapW v G.length (G.getD k []))=wideTo G v (k+1):=by
 funext u
 unfold wideTo
 by_cases e:u=k
 ·subst e; rw [updN_same,if_pos (by omega)]
 ·rw [updN_other _ _ _ e]
  by_cases q:u<k
  ·rw [if_pos q,if_pos (by omega)]
  ·rw [if_neg q,if_neg (by omega)]
theorem wideG_len (G:List (List Int)) (v:Nat):(wideG G v).length=G.length+1:=rowsOf_len _ _
theorem wideG_row (G:List (List Int)) (v u:Nat) (hu:u<G.length):(wideG G v).getD u []=mapW v G.length (G.getD u []):=by
 unfold wideG
 rw [rowsOf_get _ _ _ (by omega)]
 exact if_pos hu
theorem wideG_last (G:List (List Int)) (v:Nat):(wideG G v).getD G.length []=[]:=by
 unfold wideG
 rw [rowsOf_get _ _ _ (by omega)]
 exact if_neg (by omega)
theorem wideG_ok {G:List (List Int)} (hok:GraphOk G) (v:Nat):GraphOk (wideG G v):=by
 intro u hu t ht
 rw [wideG_len] at hu ⊢
 by_cases e:u<G.length
 ·rw [wideG_row G v u e] at ht
  obtain ⟨x,hx,rfl⟩:=List.mem_map.1 ht
  have:=hok u e x hx
  split<;>omega
 ·obtain rfl:u=G.length:=by omega
  rw [wideG_last] at ht; cases ht
theorem wide_adj {G:List (List Int)} (hok:GraphOk G) (v:Nat) {u:Nat} (hu:u<G.length) (t:Nat):t∈adjOf (wideG G v) u↔(t≠v∧t∈adjOf G u∧t<G.length)∨(t=G.length∧v∈adjOf G u):=by
 unfold adjOf
 rw [wideG_row G v u hu]
 simp only [List.mem_map,mapW]
 constructor
 ·rintro ⟨y,⟨x,hx,rfl⟩,rfl⟩
  have:=hok u hu x hx
  by_cases e:x=(v:Int)
  ·rw [if_pos e]; exact .inr ⟨by simp,x,hx,by rw [e]; simp⟩
  ·rw [if_neg e]; exact .inl ⟨by omega,⟨x,hx,rfl⟩,by omega⟩
 ·rintro (⟨h1,⟨x,hx,rfl⟩,_⟩ | ⟨rfl,x,hx,he⟩)
  ·have:=hok u hu x hx
   exact ⟨x,⟨x,hx,if_neg (by omega)⟩,rfl⟩
  ·have:=hok u hu x hx
   exact ⟨(G.length:Int),⟨x,hx,if_pos (by omega)⟩,by simp⟩
theorem wide_end (G:List (List Int)) (v:Nat):adjOf (wideG G v) G.length=[]:=by unfold adjOf; rw [wideG_last]; rfl
def loopE (G:List (List Int)) (a:Int):PErr :=
 match checkG G with
 | some t=>some t
 | none=>if outG G a then fresh sGraph 1 3 else none
theorem loopE_ok {G:List (List Int)} {x:Nat} (hc:checkG G=none) (hx:x<G.length):loopE G x=none:=by
 unfold loopE
 rw [hc]
 dsimp only
 rw [if_neg (by unfold outG; omega)]
def LoopWay (w:World) (G:List (List Int)) (v:Nat) (x:Value) (w':World):Prop :=
 (∃ u,IsFirst (adjOf (wideG G v)) v G.length u∧OwnI w.heap.size w' x (castI u.dropLast))∨(¬ Goes (adjOf (wideG G v)) v G.length∧x=.slice none 0 0)
def LoopPost (r:Nat→Addr) (w:World) (G:List (List Int)) (a:Int) (x y:Value) (w':World):Prop :=
 ErrIs r w' (loopE G a) y∧(loopE G a=none→LoopWay w G a.toNat x w')∧(loopE G a≠none→x=.slice none 0 0)
theorem OwnI.cut {B:Nat} {w:World} {g m c:Nat} {xs:List Int} (h:OwnI B w (.slice (some ⟨g,0,none⟩) (m+1) c) xs) (hl:xs.length=m+1):OwnI B w (.slice (some ⟨g,0,none⟩) m c) (xs.take m):=by
 rcases h.2 with ⟨e,_⟩ | ⟨g',cap',cur,e,hB,hg,hn,hm,hs,ht⟩
 ·cases e
 ·injection e with e1 e2 e3
  injection e1 with e1
  injection e1 with e1
  subst e1; subst e3
  have hml:(xs.take m).length=m:=by simp; omega
  refine ⟨by simp,.inr ⟨g,c,cur,by rw [hml],hB,hg,by rw [hml]; omega,hm,hs,?_⟩⟩
  rw [hml]
  rw [hl] at ht
  have:=congrArg (List.take m) ht
  rw [List.take_take] at this
  simp only [Nat.mul_one] at this ⊢
  rw [Nat.min_eq_left (by omega)] at this
  rw [this,List.map_take]
theorem loopG_any (r:Nat→Addr) (na:Option Addr) (nc:Nat) (G:List (List Int)) (a:Int) (w:World) (hg:Glob r w) (h:ListsAt w (.slice na G.length nc) G) (hsz:∀ k,k<G.length→(G.getD k []).length≤17592186044416) :
 Calls Tryz.prog 128 #[.slice na G.length nc,.int .i64 a] w (Ret2 (LoopPost r w G a) w):=by
 have hC:=graph_check r na nc G w hg h hsz
 cases hck:checkG G with
 | some t =>
  rw [hck] at hC
  have hp:loopE G a=some t:=by unfold loopE; rw [hck]
  replace hp:=Hd hp
  replace hck:=Hd hck
  replace h:=Hd h
  replace hg:=Hd hg
  replace hsz:=Hd hsz
  go_enter Tryz.func128,Tryz.ntmps128
  go_wp2_with fail
  refine hC.mono ?_
  rintro e w1 ⟨y,rfl,b1,he⟩
  obtain ⟨T,p,rfl⟩:=he.some_shape
  replace he:=Hd he
  go_wp2
  go_ret2
  exact ⟨_,_,rfl,b1,⟨by rw [hp.out]; exact he.out,⟨fun q=>(by rw [hp.out] at q; cases q),fun _=>rfl⟩⟩⟩
 | none =>
  rw [hck] at hC
  obtain ⟨hn,harr,hok⟩:=checkG_none hck
  by_cases ha:outG G a
  ·have hp:loopE G a=fresh sGraph 1 3:=by unfold loopE; rw [hck]; dsimp only; rw [if_pos ha]
   replace hp:=Hd hp
   replace hck:=Hd hck
   replace h:=Hd h
   replace hg:=Hd hg
   replace hsz:=Hd hsz
   replace hok:=Hd hok
   rcases ha with ha | ha
   ·go_enter Tryz.func128,Tryz.ntmps128
    go_wp2_with fail
    refine hC.mono ?_
    rintro e w1 ⟨y,rfl,b1,he⟩
    obtain rfl:=he.none_eq
    clear he hC
    go_wp2_with fail
    refine (graph_wrong r _ _ _ (hg.out.below b1) (by decide) (by decide)).mono ?_
    rintro e w2 ⟨y,rfl,b2,he⟩
    replace he:=Hd he
    go_wp2
    go_ret2
    exact ⟨_,_,rfl,Below.step b1 b2,⟨by rw [hp.out]; exact he.out,⟨fun q=>(by rw [hp.out] at q; cases q),fun _=>rfl⟩⟩⟩
   ·have ha0:¬ a<0:=by omega
    go_enter Tryz.func128,Tryz.ntmps128
    go_wp2_with fail
    refine hC.mono ?_
    rintro e w1 ⟨y,rfl,b1,he⟩
    obtain rfl:=he.none_eq
    clear he hC
    go_wp2_with fail
    refine (graph_wrong r _ _ _ (hg.out.below b1) (by decide) (by decide)).mono ?_
    rintro e w2 ⟨y,rfl,b2,he⟩
    replace he:=Hd he
    go_wp2
    go_ret2
    exact ⟨_,_,rfl,Below.step b1 b2,⟨by rw [hp.out]; exact he.out,⟨fun q=>(by rw [hp.out] at q; cases q),fun _=>rfl⟩⟩⟩
  ·have ha1:0≤a∧a<G.length:=by unfold outG at ha; omega
   obtain ⟨ha1,ha2⟩:=ha1
   obtain ⟨v,rfl⟩:=Int.eq_ofNat_of_zero_le ha1
   have hv:v<G.length:=by omega
   have hp:loopE G (v:Int)=none:=loopE_ok hck hv
   have hd1:decide ((v:Int)<0)=false:=by simp
   have hd2:decide (G.length≤v)=false:=by simp; omega
   clear ha ha1 ha2
   replace hp:=Hd hp
   replace hck:=Hd hck
   replace h:=Hd h
   replace hg:=Hd hg
   replace hsz:=Hd hsz
   replace hok:=Hd hok
   go_enter Tryz.func128,Tryz.ntmps128
   go_wp2_with fail
   refine hC.mono ?_
   rintro e w1 ⟨y',rfl,b1,he⟩
   obtain rfl:=he.none_eq
   clear he hC
   obtain ⟨ov,w2,mk,ho,hb2⟩:=run_makeW oneLists ((G.length:Int)+1) (G.length+1) w1 (by omega) (by omega)
   obtain ⟨f1,hr1,h1⟩:=WN.made (G.length+1) hb2 (Nat.le_refl _) ho
   have h1:WN f1 ov (List.replicate (G.length+1) (.slice none 0 0)) (G.length+1) (wideTo G v 0):=by
    have:(fun _:Nat=>([]:List Int))=wideTo G v 0:=by funext u; unfold wideTo; rw [if_neg (by omega)]
    rw [← this]; exact h1
   obtain ⟨oa,on,oc,rfl⟩:=ho.shape
   replace ho:=Hd ho
   replace hr1:=Hd hr1
   go_wp2_with fail
   clear mk
   go_loopw [35] (fun kv wr=>∃ (k:Nat) (f:Names) (vals:List Value),k≤G.length∧kv=.int .i64 k∧Rows w1.heap.size wr f∧Below w1.heap.size w1 wr∧WN f (.slice oa on oc) vals (G.length+1) (wideTo G v k)) (fun kv _=>G.length-(intOf kv).toNat)
   case atStart=>exact ⟨0,f1,_,by omega,rfl,hr1.out,hb2,h1⟩
   case round =>
    clear h1 ho hr1
    obtain ⟨k,f2,vals,hk,rfl,hr2,b2,h2⟩:=hrel
    obtain ⟨wo,rfl⟩:∃ wo:World,wo=wr:=⟨_,rfl⟩
    by_cases hlt:k<G.length
    ·obtain ⟨mv,iR,cR0,hM0⟩:=h.out.row k hlt
     have hbw:Below w.heap.size w wo:=b1.trans (b2.mono b1.size)
     have cR:=(hbw.cell (World.block_lt_of_cell? _ _ cR0)).trans cR0
     have hM:=hM0.below hbw
     have hglen:=hsz.out k hlt
     have hsucc:=wideTo_succ G v k
     generalize G.getD k []=gk at *
     have hcl:=clone_any mv gk wo hM hglen
     have hOV:=(hr2.ownV h2.outer).at
     have iO:=fun w'=>hOV.idx oneLists k (by rw [h2.len]; omega) w'
     have hput:=fun (w1':World) (v':Value) (xs:List Int)=>h2.put (B:=w1.heap.size) (w1:=w1') (u:=k) (by omega) (v':=v') (xs:=xs)
     have hnew:=fun (w1':World) (v':Value) (xs:List Int)=>h2.new (B:=w1.heap.size) hr2 (w1:=w1') k (v':=v') (xs:=xs)
     have hBo:=b2.size
     generalize valAt (.slice na G.length nc) k=ra at *
     obtain ⟨ua,hua⟩:∃ ua,valAt (.slice oa on oc) k=ua:=⟨_,rfl⟩
     rw [hua] at iO
     simp only [hua] at hput
     replace hua:=Hd hua
     replace hput:=Hd hput
     replace hnew:=Hd hnew
     replace hOV:=Hd hOV
     replace hr2:=Hd hr2
     replace hM:=Hd hM
     replace hM0:=Hd hM0
     replace hcl:=Hd hcl
     replace hsucc:=Hd hsucc
     go_wp2_with fail
     clear cR cR0 iR hbw
     refine hcl.out.mono ?_
     rintro e w3 ⟨cv,rfl,b3,hcv⟩
     have hR3:=hnew.out w3 cv gk b3 hBo hcv
     obtain ⟨y1,y2,y3,f4,hr4,h4,_⟩:=hput.out w3 cv gk hR3
     obtain ⟨va,vn,vc,rfl⟩:=hcv.at.shape
     have b4:Below w1.heap.size w1 (w3.setCell ua (.slice va vn vc)):=(b2.trans (b3.mono hBo)).setCell y3 _
     have h4:WN f4 (.slice oa on oc) (vals.set k (.slice va vn vc)) (G.length+1) (updN (wideTo G v k) k (midW v G.length gk 0)):=by rw [midW_zero]; exact h4
     have lM:=(hM0.out.below (b1.trans (b4.mono b1.size))).len
     obtain ⟨W4,hW4⟩:∃ W4:World,W4=w3.setCell ua (.slice va vn vc):=⟨_,rfl⟩
     rw [← hW4] at hr4 b4
     replace hr4:=Hd hr4
     replace hR3:=Hd hR3
     replace hcv:=Hd hcv
     clear hcl
     go_upto_region 12 with fail
     rw [← hW4]
     clear hW4 y1 y2 iO
     go_wp2_with fail
     clear lM
     generalize vals.set k (.slice va vn vc)=vals at *
     go_loopw [47] (fun jv wr=>∃ (j:Nat) (f:Names) (vals:List Value),j≤gk.length∧jv=.int .i64 j∧Rows w1.heap.size wr f∧Below w1.heap.size w1 wr∧WN f (.slice oa on oc) vals (G.length+1) (updN (wideTo G v k) k (midW v G.length gk j))) (fun jv _=>gk.length-(intOf jv).toNat)
     case atStart=>exact ⟨0,f4,_,by omega,rfl,hr4.out,b4,h4⟩
     case round =>
      clear hr4 h4 b4 hR3 hcv hM hr2 hnew hput hOV y3
      obtain ⟨j,f5,vals,hj,rfl,hr5,b5,h5⟩:=hrel
      obtain ⟨wo,rfl⟩:∃ wo:World,wo=wr:=⟨_,rfl⟩
      by_cases hjl:j<gk.length
      ·have hMj:=hM0.out.below (b1.trans (b5.mono b1.size))
       have iJ:=fun w'=>hMj.idx j hjl w'
       have cJ:=hMj.cell j hjl
       generalize valAt mv j=ja at *
       have hstep:=midW_step v G.length gk j hjl
       have hsame:=midW_same v G.length gk j hjl
       obtain ⟨t,ht⟩:∃ t,gk[j]=t:=⟨_,rfl⟩
       rw [ht] at cJ hstep hsame
       replace hMj:=Hd hMj
       replace ht:=Hd ht
       by_cases htv:t=(v:Int)
       ·have hq:(t==(v:Int))=true:=by simp [htv]
        rw [if_pos htv] at hstep
        have hOV:=(hr5.ownV h5.outer).at
        have iO:=fun w'=>hOV.idx oneLists k (by rw [h5.len]; omega) w'
        have cO:=hOV.cellV k (by rw [h5.len]; omega)
        have hrow:=hr5.ownI (h5.rows k (by omega))
        rw [updN_same] at hrow
        have hml:(midW v G.length gk j).length=gk.length:=midW_len _ _ _ _ hj
        have iE:=fun w'=>hrow.at.idx j (by rw [hml]; exact hjl) w'
        have cE:=hrow.at.cellD j (by rw [hml]; exact hjl)
        have fE:=hrow.frz j (by rw [hml]; exact hjl)
        have kE:=(hrow.toV.blkB j (by rw [List.length_map,hml]; exact hjl)).2
        obtain ⟨f6,hr6,h6⟩:=h5.elem hr5 k (by omega) j (by rw [updN_same,hml]; exact hjl) (G.length:Int)
        rw [updN_same,← hstep,updN_updN] at h6
        have b6:Below w1.heap.size w1 (wo.setCell (valAt (vAt vals k) j) (.int .i64 (G.length:Int))):=b5.setCell kE _
        generalize valAt (vAt vals k) j=ea at *
        generalize vAt vals k=ev at *
        generalize valAt (.slice oa on oc) k=ua at *
        generalize (midW v G.length gk j).getD j 0=eo at *
        subst htv
        replace hr6:=Hd hr6
        replace hr5:=Hd hr5
        replace hOV:=Hd hOV
        replace hrow:=Hd hrow
        replace hstep:=Hd hstep
        replace hsame:=Hd hsame
        replace hml:=Hd hml
        go_wp2
        go_roundw
        case measure=>simp [intOf]; omega
        case rel=>exact ⟨j+1,f6,vals,by omega,by go_num,hr6.out,b6,h6⟩
       ·have hq:(t==(v:Int))=false:=by simp [htv]
        have h6:=h5
        rw [← hsame htv] at h6
        replace hr5:=Hd hr5
        replace hstep:=Hd hstep
        replace hsame:=Hd hsame
        go_wp2
        go_roundw
        case measure=>simp [intOf]; omega
        case rel=>exact ⟨j+1,f5,vals,by omega,by go_num,hr5.out,b5,h6⟩
      ·obtain rfl:j=gk.length:=by omega
       rw [midW_full,hsucc.out] at h5
       replace hr5:=Hd hr5
       go_wp2
       go_roundw
       case measure=>simp [intOf]; omega
       case rel=>exact ⟨k+1,f5,vals,by omega,by go_num,hr5.out,b5,h5⟩
    ·obtain rfl:k=G.length:=by omega
     have hWL:=h2.lists hr2
     have hWL:ListsAt wo (.slice oa on oc) (wideG G v):=hWL
     obtain ⟨oa',oc',he⟩:=hWL.shape
     injection he with he1 he2 he3
     clear he1 he3
     rw [he2] at hWL
     have hF:=first_any oa oc (wideG G v) v G.length wo hWL (wideG_ok hok.out v) (by rw [wideG_len]; omega) (by rw [wideG_len]; omega) (by rw [wideG_len]; omega) (fun u hu=>by
      rw [wideG_len] at hu
      by_cases e:u<G.length
      ·rw [wideG_row G v u e,mapW_len]; exact hsz.out u e
      ·obtain rfl:u=G.length:=by omega
       rw [wideG_last]; exact Nat.zero_le _)
     rw [← he2] at hF
     replace hF:=Hd hF
     replace he2:=Hd he2
     replace hWL:=Hd hWL
     replace hr2:=Hd hr2
     go_wp2_with fail
     refine hF.out.mono ?_
     rintro e w5 ⟨xv,rfl,b5,hx⟩
     have hbw:Below w.heap.size w wo:=b1.trans (b2.mono b1.size)
     rcases hx with ⟨u,hu,hxo⟩ | ⟨hno,rfl⟩
     ·have hul:=hu.way.pos
      obtain ⟨g,c,e1,e2⟩:=row_shape (show w5.ownsRow wo.heap.size 3 1 xv (castI u).length ((castI u).map (Value.int .i64)) from hxo) (by rw [castI_len]; exact hul)
      obtain ⟨m,hm⟩:∃ m,u.length=m+1:=⟨u.length-1,by omega⟩
      rw [castI_len,hm] at e1 e2
      subst e1
      have hcut:=hxo.cut (by rw [castI_len,hm])
      have hdl:(castI u).take m=castI u.dropLast:=by
       unfold castI
       rw [List.dropLast_eq_take,hm,← List.map_take]; rfl
      rw [hdl] at hcut
      have hmb:m≤9223372036854775806:=by
       have:=hxo.at.len_le
       rw [castI_len,hm] at this; omega
      have hwr:IntKind.i64.wrap (m:Int)=m:=wrapK (by omega) (by omega)
      have hsl:(0≤(m:Int)∧(m:Int)≤(c:Int)):=⟨by omega,by omega⟩
      have hne:(((m:Int)+1)==0)=false:=by rw [beq_eq_false_iff_ne]; omega
      replace hcut:=Hd hcut
      replace hxo:=Hd hxo
      replace hdl:=Hd hdl
      replace hm:=Hd hm
      go_wp2
      go_ret2
      exact ⟨_,_,rfl,Below.step hbw b5,⟨by rw [hp.out]; rfl,⟨fun _=>by rw [Int.toNat_natCast]; exact .inl ⟨u,hu,hcut.out.mono hbw.size⟩,fun q=>absurd hp.out q⟩⟩⟩
     ·replace hno:=Hd hno
      go_wp2
      go_ret2
      exact ⟨_,_,rfl,Below.step hbw b5,⟨by rw [hp.out]; rfl,⟨fun _=>by rw [Int.toNat_natCast]; exact .inr ⟨hno.out,rfl⟩,fun q=>absurd hp.out q⟩⟩⟩
end Go.Proofs.YtncpnaoabkjegaaGreatDoor
namespace Go.Proofs.YtncpnaoabkjegaaGreatDoor
open Go.RowKit
set_option maxRecDepth 100000
def sixG:List (List Int):=[[1],[2],[1,3],[4],[4],[0]]
theorem adj6 (v:Nat):adjOf sixG v=[[1],[2],[1,3],[4],[4],[0]].getD v []:=by
 match v with
 | 0=>rfl
 | 1=>rfl
 | 2=>rfl
 | 3=>rfl
 | 4=>rfl
 | 5=>rfl
 | n+6=>rfl
theorem g12:Goes (adjOf sixG) 1 2:=.one (by rw [adj6]; decide)
theorem g21:Goes (adjOf sixG) 2 1:=.one (by rw [adj6]; decide)
theorem g23:Goes (adjOf sixG) 2 3:=.one (by rw [adj6]; decide)
theorem lit_ints (w:World) (xs:List Int) (cs:Array Value) (hc:cs.toList=xs.map (Value.int .i64)) (hl:xs.length≤10):IntsAt (w.alloc (.cells cs 3)) (.slice (some ⟨w.heap.size,0,none⟩) xs.length xs.length) xs :=
 (OwnI.lit w.heap.size w (Nat.le_refl _) xs (by unfold maxLen; omega) cs hc xs.length rfl).at
def ChainOk (G:List (List Int)) (u:List Nat):Prop:=∀ i x,u[i]?=some x→x<G.length∧∀ j y,i=j+1→u[j]?=some y→(x:Int)∈G.getD y []
theorem adj_mem {G:List (List Int)} (hok:GraphOk G) {y x:Nat} (hy:y<G.length) (h:x∈adjOf G y):(x:Int)∈G.getD y []:=by
 obtain ⟨z,hz,rfl⟩:=List.mem_map.1 h
 have:=hok y hy z hz
 rwa [Int.toNat_of_nonneg this.1]
theorem way_chain {G:List (List Int)} (hok:GraphOk G) {x y:Nat} {w:List Nat} (h:Way (adjOf G) x y w) (hx:x<G.length):ChainOk G w:=by
 induction h with
 | one x =>
  intro i z hz
  have hi:=get_of hz
  simp only [List.length_cons,List.length_nil] at hi
  obtain rfl:i=0:=by omega
  injection hz with hz; subst hz
  exact ⟨hx,fun j y e=>by omega⟩
 | @cons x t y w ht h ih =>
  have htn:=hok.lt x hx t ht
  have ih:=ih htn
  intro i z hz
  cases i with
  | zero=>injection hz with hz; subst hz; exact ⟨hx,fun j y e=>by omega⟩
  | succ i =>
   have hz':w[i]?=some z:=hz
   refine ⟨(ih i z hz').1,fun j y e hy=>?_⟩
   have e:j=i:=by omega
   subst e
   cases j with
   | zero =>
    injection hy with hy; subst hy
    obtain ⟨w',rfl⟩:=h.ne
    injection hz' with hz'; subst hz'
    exact adj_mem hok hx ht
   | succ j=>exact (ih (j+1) z hz').2 j y rfl hy
theorem ChainOk.dropLast {G:List (List Int)} {u:List Nat} (h:ChainOk G u):ChainOk G u.dropLast:=by
 have up:∀ i x,u.dropLast[i]?=some x→u[i]?=some x:=fun i x hx=>by
  rw [List.getElem?_dropLast] at hx
  split at hx
  ·exact hx
  ·cases hx
 intro i x hx
 exact ⟨(h i x (up i x hx)).1,fun j y e hy=>(h i x (up i x hx)).2 j y e (up j y hy)⟩
theorem ChainOk.nil (G:List (List Int)):ChainOk G []:=fun i x hx=>by simp at hx
def WayList (adj:Nat→List Nat) (a b:Nat) (u:List Nat):Prop:=(u≠[]∧IsFirst adj a b u)∨(u=[]∧¬ Goes adj a b)
theorem FirstPost.list {w w':World} {adj:Nat→List Nat} {a b:Nat} {x:Value} (h:FirstPost w adj a b x w'):∃ u,WayList adj a b u∧OwnI w.heap.size w' x (castI u):=by
 rcases h with ⟨u,h1,h2⟩ | ⟨h1,rfl⟩
 ·exact ⟨u,.inl ⟨by intro e; subst e; exact absurd h1.way.pos (by simp),h1⟩,h2⟩
 ·exact ⟨[],.inr ⟨rfl,h1⟩,OwnI.nil _ _⟩
theorem WayList.goes {adj:Nat→List Nat} {a b:Nat} {u:List Nat} (h:WayList adj a b u):u≠[]↔Goes adj a b:=by
 rcases h with ⟨h1,h2⟩ | ⟨h1,h2⟩
 ·exact ⟨fun _=>h2.way.goes,fun _=>h1⟩
 ·exact ⟨fun q=>absurd h1 q,fun q=>absurd q h2⟩
theorem WayList.chain {G:List (List Int)} (hok:GraphOk G) {a b:Nat} {u:List Nat} (h:WayList (adjOf G) a b u) (ha:a<G.length):ChainOk G u:=by
 rcases h with ⟨_,h2⟩ | ⟨h1,_⟩
 ·exact way_chain hok h2.way ha
 ·subst h1; exact ChainOk.nil G
theorem WayList.len {G:List (List Int)} (hok:GraphOk G) {a b:Nat} {u:List Nat} (h:WayList (adjOf G) a b u) (ha:a<G.length):u.length≤G.length:=by
 have hc:=h.chain hok ha
 rcases h with ⟨_,q⟩ | ⟨q,_⟩
 ·exact nodup_len G.length u q.nodup (fun x hx=>by
   obtain ⟨i,hi⟩:=List.mem_iff_getElem?.1 hx
   exact (hc i x hi).1)
 ·subst q; simp
theorem wide_way {G:List (List Int)} (hok:GraphOk G) {v:Nat} {x e:Nat} {u:List Nat} (h:Way (adjOf (wideG G v)) x e u) (he:e=G.length) (hx:x<G.length):∃ y,y<G.length∧v∈adjOf G y∧Way (adjOf G) x y u.dropLast:=by
 induction h with
 | one x=>omega
 | @cons x t y w ht h ih =>
  rcases (wide_adj hok v hx t).1 ht with ⟨_,h1,h2⟩ | ⟨h1,h2⟩
  ·obtain ⟨z,z1,z2,z3⟩:=ih he h2
   have:=h.pos
   refine ⟨z,z1,z2,?_⟩
   rw [List.dropLast_cons_of_ne_nil (by intro q; subst q; simp at this)]
   exact .cons h1 z3
  ·subst h1
   refine ⟨x,hx,h2,?_⟩
   cases h with
   | one=>exact .one x
   | cons ht' _=>rw [wide_end] at ht'; cases ht'
def LoopList (G:List (List Int)) (a:Nat) (l:List Nat):Prop:=l=[]∨∃ y,y<G.length∧a∈adjOf G y∧Way (adjOf G) a y l
theorem LoopWay.list {w w':World} {G:List (List Int)} (hok:GraphOk G) {a:Nat} (ha:a<G.length) {x:Value} (h:LoopWay w G a x w'):∃ l,LoopList G a l∧OwnI w.heap.size w' x (castI l):=by
 rcases h with ⟨u,h1,h2⟩ | ⟨_,rfl⟩
 ·exact ⟨u.dropLast,.inr (wide_way hok h1.way rfl ha),h2⟩
 ·exact ⟨[],.inl rfl,OwnI.nil _ _⟩
theorem LoopList.chain {G:List (List Int)} (hok:GraphOk G) {a:Nat} {l:List Nat} (h:LoopList G a l) (ha:a<G.length):ChainOk G l:=by
 rcases h with h | ⟨y,_,_,h⟩
 ·subst h; exact ChainOk.nil G
 ·exact way_chain hok h ha
end Go.Proofs.YtncpnaoabkjegaaGreatDoor
namespace Go.Proofs.YtncpnaoabkjegaaGreatDoor
def NearTo (l:List Nat) (D:Nat→Int) (k:Nat) (b:Int):Prop :=
 (b=-1∧∀ t∈l.take k,D t<0)∨∃ m:Nat,b=m∧m∈l.take k∧0≤D m∧∀ t∈l.take k,0≤D t→D m<D t∨(D m=D t∧m≤t)
section
variable {l:List Nat} {D:Nat→Int} {k:Nat} {b:Int}
theorem NearTo.zero (l:List Nat) (D:Nat→Int):NearTo l D 0 (-1):=.inl ⟨rfl,fun t ht=>by simp at ht⟩
theorem NearTo.low (h:NearTo l D k b):-1≤b:=by
 rcases h with ⟨h,_⟩ | ⟨m,h,_⟩<;>omega
theorem NearTo.skip (h:NearTo l D k b) {t:Nat} (ht:l[k]?=some t) (hd:D t<0):NearTo l D (k+1) b:=by
 rcases h with ⟨h1,h2⟩ | ⟨m,h1,h2,h3,h4⟩
 ·refine .inl ⟨h1,fun x hx=>?_⟩
  rcases (take_mem ht x).1 hx with hx | rfl
  ·exact h2 x hx
  ·exact hd
 ·refine .inr ⟨m,h1,(take_mem ht m).2 (.inl h2),h3,fun x hx hxd=>?_⟩
  rcases (take_mem ht x).1 hx with hx | rfl
  ·exact h4 x hx hxd
  ·omega
theorem NearTo.fst (h:NearTo l D k b) {t:Nat} (ht:l[k]?=some t) (hd:0≤D t) (hb:b<0):NearTo l D (k+1) t:=by
 refine .inr ⟨t,rfl,(take_mem ht t).2 (.inr rfl),hd,fun x hx hxd=>?_⟩
 rcases (take_mem ht x).1 hx with hx | rfl
 ·rcases h with ⟨h1,h2⟩ | ⟨m,h1,_⟩
  ·have:=h2 x hx; omega
  ·omega
 ·exact .inr ⟨rfl,Nat.le_refl _⟩
theorem NearTo.mark (h:NearTo l D k b) (hb:0≤b):∃ m:Nat,b=m∧m∈l∧0≤D m:=by
 rcases h with ⟨h1,h2⟩ | ⟨m,h1,h2,h3,_⟩
 ·omega
 ·exact ⟨m,h1,List.mem_of_mem_take h2,h3⟩
theorem NearTo.take {m:Nat} (h:NearTo l D k (m:Int)) {t:Nat} (ht:l[k]?=some t) (hd:0≤D t) (hb:D t<D m∨(D t=D m∧t<m)):NearTo l D (k+1) t:=by
 refine .inr ⟨t,rfl,(take_mem ht t).2 (.inr rfl),hd,fun x hx hxd=>?_⟩
 rcases (take_mem ht x).1 hx with hx | rfl
 ·rcases h with ⟨h1,h2⟩ | ⟨m',h1,h2,h3,h4⟩
  ·omega
  ·obtain rfl:m=m':=by omega
   have:=h4 x hx hxd
   omega
 ·exact .inr ⟨rfl,Nat.le_refl _⟩
end
theorem Way.ends {adj:Nat→List Nat} {x y:Nat} {w:List Nat} (h:Way adj x y w):w.dropLast++[y]=w:=by
 induction h with
 | one=>rfl
 | @cons x t y w ht h ih =>
  have hp:=h.pos
  have:w≠[]:=by intro q; subst q; simp at hp
  rw [List.dropLast_cons_of_ne_nil this,List.cons_append,ih]
open Go.RowKit
set_option maxRecDepth 100000
set_option maxHeartbeats 8000000
theorem loop_goes {G:List (List Int)} (hok:GraphOk G) {c:Nat} (hc:c<G.length) (h:OnLoop (adjOf G) c):Goes (adjOf (wideG G c)) c G.length:=by
 have claim:∀ a z,Goes (adjOf G) a z→a<G.length→Goes (adjOf (wideG G c)) a G.length∨(Goes (adjOf (wideG G c)) a z∧(z=c→a=c)):=by
  intro a z hg ha
  induction hg with
  | refl=>exact .inr ⟨.refl _,id⟩
  | @step b t hb ht ih =>
   have hbn:=goes_lt hok hb ha
   rcases ih with ih | ⟨ih,_⟩
   ·exact .inl ih
   ·by_cases e:t=c
    ·subst e
     exact .inl (.step ih ((wide_adj hok t hbn _).2 (.inr ⟨rfl,ht⟩)))
    ·exact .inr ⟨.step ih ((wide_adj hok c hbn _).2 (.inl ⟨e,ht,hok.lt _ hbn _ ht⟩)),fun q=>absurd q e⟩
 obtain ⟨t,ht,hg⟩:=h
 have htn:=hok.lt _ hc _ ht
 by_cases e:t=c
 ·subst e
  exact .one ((wide_adj hok t hc _).2 (.inr ⟨rfl,ht⟩))
 ·have h1:Goes (adjOf (wideG G c)) c t:=.one ((wide_adj hok c hc _).2 (.inl ⟨e,ht,htn⟩))
  rcases claim t c hg htn with h2 | ⟨_,h2⟩
  ·exact h1.trans h2
  ·exact absurd (h2 rfl) e
def WitIs (G:List (List Int)) (v:Nat) (L C Q:List Nat):Prop :=
 ∃ c d u1 u2 I O,NearIs (adjOf (turnG G)) (OnLoop (adjOf G)) v c∧NearIs (adjOf G) (OnLoop (adjOf G)) v d∧c<G.length∧d<G.length∧IsFirst (adjOf (wideG G c)) c G.length u1∧IsFirst (adjOf (wideG G d)) d G.length u2∧IsFirst (adjOf G) c v I∧IsFirst (adjOf G) v d O∧L=u1.dropLast∧C=I++O.drop 1∧Q=u2.dropLast.drop 1++[d]
theorem first_bound {G:List (List Int)} (hok:GraphOk G) {x y:Nat} {u:List Nat} (h:IsFirst (adjOf G) x y u) (hx:x<G.length):u.length≤G.length∧∀ z∈u,z<G.length:=by
 have hlt:∀ z∈u,z<G.length:=by
  have hw:=h.way
  clear h
  induction hw with
  | one x=>intro z hz; rw [List.mem_singleton] at hz; subst hz; exact hx
  | @cons x t y w ht hw ih =>
   intro z hz
   rcases List.mem_cons.1 hz with rfl | hz
   ·exact hx
   ·exact ih (hok.lt _ hx _ ht) z hz
 exact ⟨nodup_len _ _ h.nodup hlt,hlt⟩
theorem wide_bound {G:List (List Int)} (hok:GraphOk G) {c:Nat} (hc:c<G.length) {u:List Nat} (h:IsFirst (adjOf (wideG G c)) c G.length u):2≤u.length∧u.length≤G.length+1∧∀ z∈u.dropLast,z<G.length:=by
 obtain ⟨h1,h2⟩:=first_bound (wideG_ok hok c) h (by rw [wideG_len]; omega)
 rw [wideG_len] at h1 h2
 have hnd:=h.nodup
 have he:=h.way.ends
 have hp:=h.way.pos
 refine ⟨?_,h1,fun z hz=>?_⟩
 ·apply Classical.byContradiction
  intro q
  have hl:u.length=1:=by omega
  obtain ⟨w',rfl⟩:=h.way.ne
  have:w'=[]:=List.length_eq_zero_iff.1 (by simpa using hl)
  subst this
  simp at he
  omega
 ·have h3:=h2 z (List.dropLast_subset _ hz)
  have:z≠G.length:=fun e=>by
   subst e
   rw [← he] at hnd
   have:=(List.nodup_append.1 hnd).2.2 _ hz _ (List.mem_singleton.2 rfl)
   exact this rfl
  omega
theorem castI_app (a b:List Nat):castI (a++b)=castI a++castI b:=by simp [castI]
theorem castI_drop (a:List Nat) (k:Nat):castI (a.drop k)=(castI a).drop k:=by simp [castI]
def WitPost (w:World) (k N:Nat) (G:List (List Int)) (v:Nat) (x y e:Value) (w':World):Prop :=
 e=.nilIface∧∃ L C Q aL aC aQ bL bC bQ,WitIs G v L C Q∧x=.agg #[.int .i64 0,aL,aC,aQ]∧y=.agg #[.int .i64 0,bL,bC,bQ]∧∃ f,Rows w.heap.size w' f ∧
  f (1,0)=some (rowI aL (sideA k N L))∧f (1,1)=some (rowI bL (sideB k N L))∧f (2,0)=some (rowI aC (sideA k N C))∧f (2,1)=some (rowI bC (sideB k N C))∧f (3,0)=some (rowI aQ (sideA k N Q))∧f (3,1)=some (rowI bQ (sideB k N Q))
theorem witness_ok (r:Nat→Addr) (k N:Nat) (na:Option Addr) (nc:Nat) (G:List (List Int)) (v:Nat) (w:World) (hg:Glob r w) (h:ListsAt w (.slice na G.length nc) G) (hsz:∀ k,k<G.length→(G.getD k []).length≤17592186044416)
 (hck:checkG G=none) (hok:GraphOk G) (hN:G.length=N*N) (hN1:1≤N) (hN2:N≤81) (hk:1≤k) (hv:v<G.length) (hlive:IsLive G.length (adjOf G) v) :
 Calls Tryz.prog 55 #[.int .i64 k,.slice na G.length nc,.int .i64 v] w (Ret3 (WitPost w k N G v) w):=by
 have hn:G.length≤8200:=by rw [hN]; have:=Nat.mul_le_mul hN2 hN2; omega
 have hM6:G.length≤6561:=by rw [hN]; exact Nat.mul_le_mul hN2 hN2
 obtain ⟨_,harr,_⟩:=checkG_none hck
 obtain ⟨f0,R0,i02,o02⟩:=(Rows.void w.heap.size w).box4 (0,2) (Nat.le_refl _) 36 (.int .i64 0) (.slice none 0 0) (.slice none 0 0) (.slice none 0 0)
 obtain ⟨f1,R1,i03,o03⟩:=R0.box4 (0,3) (by simp) 36 (.int .i64 0) (.slice none 0 0) (.slice none 0 0) (.slice none 0 0)
 have b0:Below w.heap.size w ((w.alloc (.cells #[.int .i64 0,.slice none 0 0,.slice none 0 0,.slice none 0 0] 36)).alloc (.cells #[.int .i64 0,.slice none 0 0,.slice none 0 0,.slice none 0 0] 36)):=Below.step (belowAlloc w _) (belowAlloc _ _)
 replace i02:=(o03 (0,2) (by decide)).trans i02
 rw [World.size_alloc] at i03
 clear o02 o03 R0
 have hp1:=fun (w':World) (hgl:Glob r w') (hT:ListsAt w' (.slice na G.length nc) G)=>loops14_any r na nc G w' hgl hT hsz hck hok hn
 have hp2:=fun (w':World) (hT:ListsAt w' (.slice na G.length nc) G)=>turned14_any na nc G w' hT hok hn harr
 have hp3:=fun (bv:Value) (on:Nat→Bool) (w':World) (hT:ListsAt w' (.slice na G.length nc) G) (hb:ValsAt w' bv (tabB G.length on))=>near_any na nc G bv on v w' hT hok hn hb hv
 have hp4:=fun (c:Nat) (w':World) (hgl:Glob r w') (hT:ListsAt w' (.slice na G.length nc) G)=>loopG_any r na nc G (c:Int) w' hgl hT hsz
 have hp5:=fun (a b:Nat) (w':World) (hgl:Glob r w') (hT:ListsAt w' (.slice na G.length nc) G)=>path_any r na nc G (a:Int) (b:Int) w' hgl hT hsz
 have lG:=h.len 3 w
 replace hp1:=Hd hp1
 replace hp2:=Hd hp2
 replace hp3:=Hd hp3
 replace hp4:=Hd hp4
 replace hp5:=Hd hp5
 replace hg:=Hd (hg.below b0)
 replace h:=Hd (h.below b0)
 replace hsz:=Hd hsz
 replace hck:=Hd hck
 replace hok:=Hd hok
 replace hlive:=Hd hlive
 replace R1:=Hd R1
 replace i02:=Hd i02
 replace i03:=Hd i03
 replace lG:=Hd lG
 replace harr:=Hd harr
 replace hN:=Hd hN
 go_enter Tryz.func55,Tryz.ntmps55
 go_wp2_with fail
 refine (hp1.out _ hg.out h.out).mono ?_
 rintro e w2 ⟨ov,y,rfl,b1,rfl,on,hon,hOn⟩
 obtain ⟨oa,on',oc,rfl⟩:=hon.shape
 have b2:=Below.step b0 b1
 replace hon:=Hd hon
 replace hOn:=Hd hOn
 have lG2:=h.out.len 3 w2
 go_wp2_with fail
 go_loop [11] (fun nv=>∃ k:Nat,k≤N∧nv=.int .i64 k) (fun nv=>N-(intOf nv).toNat)
 case atStart=>exact ⟨1,hN1,rfl⟩
 case round =>
  obtain ⟨k1,hk1,rfl⟩:=hrel
  obtain ⟨kk,hkk⟩:∃ z,k1*k1=z:=⟨_,rfl⟩
  have hkk2:(k1:Int)*(k1:Int)=(kk:Int):=by rw [← hkk]; simp
  have hkkM:kk≤G.length:=by rw [← hkk,hN.out]; exact Nat.mul_le_mul hk1 hk1
  by_cases hlt:kk<G.length
  ·have hkN:k1<N:=Nat.lt_of_le_of_ne hk1 (fun e=>by have:=hN.out; rw [← e,hkk] at this; omega)
   replace hkk:=Hd hkk
   go_wp2
   go_round
   case measure=>simp [intOf]; omega
   case rel=>exact ⟨k1+1,by omega,by go_num⟩
  ·have hkN:k1=N:=by
    apply Classical.byContradiction
    intro e
    have h2:k1*k1<N*N:=Nat.mul_lt_mul_of_lt_of_lt (by omega) (by omega)
    rw [hkk,← hN.out] at h2
    omega
   subst hkN
   replace hkk:=Hd hkk
   clear hk1
   obtain ⟨⟨ua,ha1,ha2,ha3⟩,⟨ub,hb1,hb2,hb3⟩⟩:=hlive.out
   go_wp2_with fail
   refine (hp2.out _ (h.out.below b1)).mono ?_
   rintro e w3 ⟨tv,rfl,b3,hT,hTL⟩
   have hl3:=hT.1
   obtain ⟨ta,tc,rfl⟩:=hTL.shape
   have hval3:ValsAt w3 (.slice oa on' oc) (tabB (turnG G).length on):=by rw [hl3]; exact hon.out.at.below b3
   have hnear:=near_any ta tc (turnG G) (.slice oa on' oc) on v w3 hTL (turned_ok hT) (by omega) hval3 (by omega) ⟨ua,(hOn.out ua ha1).2 ha2,goes_turned hT hok.out ha3 ha1⟩ (OnLoop (adjOf G)) (fun x hx=>hOn.out x (by omega))
   rw [hl3] at hnear
   rw [hl3]
   replace hnear:=Hd hnear
   replace hl3:=Hd hl3
   clear hTL hval3
   replace hT:=Hd hT
   go_wp2_with fail
   refine hnear.out.mono ?_
   rintro e w4 ⟨cv,rfl,b4,c,rfl,hcn,hcon,hcg,hcN⟩
   clear hnear
   have b24:=Below.step b1 (Below.step b3 b4)
   replace hcg:=turned_goes hT.out hok.out hcg hv
   have hnear:=hp3.out (.slice oa on' oc) on w4 (h.out.below b24) (hon.out.at.below (Below.step b3 b4)) ⟨ub,(hOn.out ub hb1).2 hb2,hb3⟩ (OnLoop (adjOf G)) hOn.out
   replace hnear:=Hd hnear
   replace hcN:=Hd hcN
   replace hcg:=Hd hcg
   have hcon2:=(hOn.out c hcn).1 hcon
   replace hcon:=Hd hcon
   replace hcon2:=Hd hcon2
   go_wp2_with fail
   refine hnear.out.mono ?_
   rintro e w5 ⟨dv,rfl,b5,d,rfl,hdn,hdon,hdg,hdN⟩
   clear hnear hb1 hb2 hb3 ha1 ha2 ha3
   have b25:=Below.step b24 b5
   have hdon2:=(hOn.out d hdn).1 hdon
   replace hdon:=Hd hdon
   replace hdon2:=Hd hdon2
   replace hdN:=Hd hdN
   replace hdg:=Hd hdg
   go_wp2_with fail
   refine (hp4.out c w5 (hg.out.below b25) (h.out.below b25)).mono ?_
   rintro e w6 ⟨lv,y,rfl,b6,hE,hW,-⟩
   rw [loopE_ok hck.out hcn] at hE
   obtain rfl:=hE.none_eq
   clear hE
   have hW':=hW (loopE_ok hck.out hcn)
   rw [Int.toNat_natCast] at hW'
   obtain ⟨u1,hu1,ho1⟩:∃ u,IsFirst (adjOf (wideG G c)) c G.length u∧OwnI w5.heap.size w6 lv (castI u.dropLast):=hW'.elim id fun q=>absurd (loop_goes hok.out hcn hcon2.out) q.1
   clear hW hW'
   obtain ⟨l1,l2,l3⟩:=wide_bound hok.out hcn hu1
   have b26:=Below.step b25 b6
   obtain ⟨la,ln,lc,rfl⟩:=ho1.at.shape
   replace hu1:=Hd hu1
   replace ho1:=Hd ho1
   replace l3:=Hd l3
   go_wp2_with fail
   refine (hp4.out d w6 (hg.out.below b26) (h.out.below b26)).mono ?_
   rintro e w7 ⟨rv,y,rfl,b7,hE,hW,-⟩
   rw [loopE_ok hck.out hdn] at hE
   obtain rfl:=hE.none_eq
   clear hE
   have hW':=hW (loopE_ok hck.out hdn)
   rw [Int.toNat_natCast] at hW'
   obtain ⟨u2,hu2,ho2⟩:∃ u,IsFirst (adjOf (wideG G d)) d G.length u∧OwnI w6.heap.size w7 rv (castI u.dropLast):=hW'.elim id fun q=>absurd (loop_goes hok.out hdn hdon2.out) q.1
   clear hW hW'
   obtain ⟨m1,m2,m3⟩:=wide_bound hok.out hdn hu2
   have b27:=Below.step b26 b7
   have lr2:(castI u2.dropLast).length=u2.length-1:=by rw [castI_len,List.length_dropLast]
   obtain ⟨rg,rc,hrv,_⟩:∃ g cap,rv=.slice (some ⟨g,0,none⟩) (castI u2.dropLast).length cap∧w6.heap.size≤g:=Row.own.shape (r:=rowI rv (castI u2.dropLast)) ho2 (by show 0<(castI u2.dropLast).length; omega)
   subst hrv
   replace hu2:=Hd hu2
   replace ho2:=Hd ho2
   replace m3:=Hd m3
   replace lr2:=Hd lr2
   go_wp2_with fail
   refine (hp5.out c v w7 (hg.out.below b27) (h.out.below b27)).mono ?_
   rintro e w8 ⟨iv,y,rfl,b8,hE,hW,-⟩
   rw [pathE_ok hck.out hcn hv] at hE
   obtain rfl:=hE.none_eq
   clear hE
   have hW':=hW (pathE_ok hck.out hcn hv)
   rw [Int.toNat_natCast,Int.toNat_natCast] at hW'
   obtain ⟨I,hI,ho3⟩:∃ u,IsFirst (adjOf G) c v u∧OwnI w7.heap.size w8 iv (castI u):=hW'.elim id fun q=>absurd hcg.out q.1
   clear hW hW'
   obtain ⟨p1,p2⟩:=first_bound hok.out hI hcn
   have b28:=Below.step b27 b8
   obtain ⟨ia,in',ic,rfl⟩:=ho3.at.shape
   replace hI:=Hd hI
   replace ho3:=Hd ho3
   replace p2:=Hd p2
   go_wp2_with fail
   refine (hp5.out v d w8 (hg.out.below b28) (h.out.below b28)).mono ?_
   rintro e w9 ⟨ov,y,rfl,b9,hE,hW,-⟩
   rw [pathE_ok hck.out hv hdn] at hE
   obtain rfl:=hE.none_eq
   clear hE
   have hW':=hW (pathE_ok hck.out hv hdn)
   rw [Int.toNat_natCast,Int.toNat_natCast] at hW'
   obtain ⟨O,hO,ho4⟩:∃ u,IsFirst (adjOf G) v d u∧OwnI w8.heap.size w9 ov (castI u):=hW'.elim id fun q=>absurd hdg.out q.1
   clear hW hW'
   obtain ⟨q1,q2⟩:=first_bound hok.out hO hv
   have q3:=hO.way.pos
   have b29:=Below.step b28 b9
   replace hO:=Hd hO
   replace ho4:=Hd ho4
   replace q2:=Hd q2
   have hB9:w.heap.size≤w9.heap.size:=(Below.step b0 b29).size
   have ho2m:OwnI w.heap.size w9 (.slice (some ⟨rg,0,none⟩) (castI u2.dropLast).length rc) (castI u2.dropLast):=((ho2.out.below b8).below b9).mono (Below.step b0 b26).size
   have ho3m:OwnI w.heap.size w9 (.slice ia in' ic) (castI I):=(ho3.out.below b9).mono (Below.step b0 b27).size
   have ho1m:IntsAt w9 (.slice la ln lc) (castI u1.dropLast):=((ho1.out.at.below b7).below b8).below b9
   have ho4m:=ho4.out.at
   have n02:=i02.out
   have n03:=i03.out
   obtain ⟨fc,Rc,n42,oc'⟩:=(R1.out.below b26).addE (4,2) (r':=rowI (.slice (some ⟨rg,0,none⟩) (castI u2.dropLast).length rc) (castI u2.dropLast)) b7 (ho2.out.mono (Below.step b0 b26).size) (fun q hq=>(ho2.out.lt q hq).1)
   replace n02:=(oc' (0,2) (by decide)).trans n02
   replace n03:=(oc' (0,3) (by decide)).trans n03
   obtain ⟨fd,Rd,n40,od⟩:=Rc.addE (4,0) (r':=rowI (.slice ia in' ic) (castI I)) b8 (ho3.out.mono (Below.step b0 b27).size) (fun q hq=>(ho3.out.lt q hq).1)
   replace n02:=(od (0,2) (by decide)).trans n02
   replace n03:=(od (0,3) (by decide)).trans n03
   replace n42:=(od (4,2) (by decide)).trans n42
   obtain ⟨fe,Re,n41,oe⟩:=Rd.addE (4,1) (r':=rowI ov (castI O)) b9 (ho4.out.mono (Below.step b0 b28).size) (fun q hq=>(ho4.out.lt q hq).1)
   replace n02:=(oe (0,2) (by decide)).trans n02
   replace n03:=(oe (0,3) (by decide)).trans n03
   replace n42:=(oe (4,2) (by decide)).trans n42
   replace n40:=(oe (4,0) (by decide)).trans n40
   clear oc' od oe Rc Rd
   obtain ⟨fA,RA,n00,oA⟩:=Re.box4 (0,0) hB9 36 (.int .i64 0) (.slice none 0 0) (.slice none 0 0) (.slice none 0 0)
   replace n02:=(oA (0,2) (by decide)).trans n02
   replace n03:=(oA (0,3) (by decide)).trans n03
   replace n42:=(oA (4,2) (by decide)).trans n42
   replace n40:=(oA (4,0) (by decide)).trans n40
   replace n41:=(oA (4,1) (by decide)).trans n41
   obtain ⟨fB,RB,n01,oB⟩:=RA.box4 (0,1) (by simp; omega) 36 (.int .i64 0) (.slice none 0 0) (.slice none 0 0) (.slice none 0 0)
   replace n02:=(oB (0,2) (by decide)).trans n02
   replace n03:=(oB (0,3) (by decide)).trans n03
   replace n42:=(oB (4,2) (by decide)).trans n42
   replace n40:=(oB (4,0) (by decide)).trans n40
   replace n41:=(oB (4,1) (by decide)).trans n41
   replace n00:=(oB (0,0) (by decide)).trans n00
   rw [World.size_alloc] at n01
   clear oA oB RA
   have bAB:Below w9.heap.size w9 ((w9.alloc (.cells #[.int .i64 0,.slice none 0 0,.slice none 0 0,.slice none 0 0] 36)).alloc (.cells #[.int .i64 0,.slice none 0 0,.slice none 0 0,.slice none 0 0] 36)):=Below.step (belowAlloc w9 _) (belowAlloc _ _)
   obtain ⟨WB,hWB⟩:∃ WB:World,(w9.alloc (.cells #[.int .i64 0,.slice none 0 0,.slice none 0 0,.slice none 0 0] 36)).alloc (.cells #[.int .i64 0,.slice none 0 0,.slice none 0 0,.slice none 0 0] 36)=WB:=⟨_,rfl⟩
   rw [hWB] at RB bAB
   have e00:∀ (l:List Nat) (m:Nat),(∀ z∈l,z<m)→m≤6561→∀ z∈l,z≤1000000:=fun l m h1 h2 z hz=>by have:=h1 z hz; omega
   have hs1:=sides14_any k k1 (.slice la ln lc) u1.dropLast WB (ho1m.below bAB) hk hN1 (e00 _ _ l3.out hM6) (by rw [List.length_dropLast]; omega)
   have bB0:Below w.heap.size w WB:=Below.step b0 (Below.step b29 bAB)
   have hB10:w.heap.size≤WB.heap.size:=bB0.size
   clear ho1m ho2m ho3m ho4m
   replace hs1:=Hd hs1
   replace RB:=Hd RB
   replace hWB:=Hd hWB
   replace e00:=Hd e00
   replace n02:=Hd n02
   replace n03:=Hd n03
   replace n42:=Hd n42
   replace n40:=Hd n40
   replace n41:=Hd n41
   replace n00:=Hd n00
   replace n01:=Hd n01
   go_upto_region 13 with fail
   rw [hWB.out]
   go_wp2_with fail
   refine hs1.out.mono ?_
   rintro e w10 ⟨x1,y1,rfl,b10,oa1,ob1,hd1⟩
   replace n02:=n02.out
   replace n03:=n03.out
   replace n42:=n42.out
   replace n40:=n40.out
   replace n41:=n41.out
   replace n00:=n00.out
   replace n01:=n01.out
   obtain ⟨f10,R10,n10,n11,o10⟩:=RB.out.add2E (1,0) (1,1) (by decide) (r':=rowI x1 (sideA k k1 u1.dropLast)) (s':=rowI y1 (sideB k k1 u1.dropLast)) b10 (oa1.mono hB10) (fun q hq=>(oa1.lt q hq).1) (ob1.mono hB10) (fun q hq=>(ob1.lt q hq).1) hd1
   replace n02:=(o10 (0,2) (by decide) (by decide)).trans n02
   replace n03:=(o10 (0,3) (by decide) (by decide)).trans n03
   replace n42:=(o10 (4,2) (by decide) (by decide)).trans n42
   replace n40:=(o10 (4,0) (by decide) (by decide)).trans n40
   replace n41:=(o10 (4,1) (by decide) (by decide)).trans n41
   replace n00:=(o10 (0,0) (by decide) (by decide)).trans n00
   replace n01:=(o10 (0,1) (by decide) (by decide)).trans n01
   obtain ⟨a0,a1,a2,a3⟩:=R10.cells4 n00
   obtain ⟨d0,d1,d2,d3⟩:=R10.cells4 n01
   have fa:=R10.frz4 n00 1
   have fb:=R10.frz4 n01 1
   have la0:=(R10.low4 n00).1
   have lb0:=(R10.low4 n01).1
   obtain ⟨fx10,Rx10,m00,ox⟩:=R10.st4 n00 1 x1
   replace n02:=(ox (0,2) (by decide)).trans n02
   replace n03:=(ox (0,3) (by decide)).trans n03
   replace n42:=(ox (4,2) (by decide)).trans n42
   replace n40:=(ox (4,0) (by decide)).trans n40
   replace n41:=(ox (4,1) (by decide)).trans n41
   replace n01:=(ox (0,1) (by decide)).trans n01
   replace n10:=(ox (1,0) (by decide)).trans n10
   replace n11:=(ox (1,1) (by decide)).trans n11
   clear n00
   have n00:=m00
   obtain ⟨fy10,Ry10,m01,oy⟩:=Rx10.st4 n01 1 y1
   replace n02:=(oy (0,2) (by decide)).trans n02
   replace n03:=(oy (0,3) (by decide)).trans n03
   replace n42:=(oy (4,2) (by decide)).trans n42
   replace n40:=(oy (4,0) (by decide)).trans n40
   replace n41:=(oy (4,1) (by decide)).trans n41
   replace n00:=(oy (0,0) (by decide)).trans n00
   replace n10:=(oy (1,0) (by decide)).trans n10
   replace n11:=(oy (1,1) (by decide)).trans n11
   clear n01
   have n01:=m01
   simp only [List.set_cons_zero,List.set_cons_succ] at n00 n01
   have by10:Below w.heap.size w ((w10.setCell ⟨w9.heap.size,1,none⟩ x1).setCell ⟨w9.heap.size+1,1,none⟩ y1):=(((bB0.trans (b10.mono hB10)).setCell (show w.heap.size≤(⟨w9.heap.size,1,none⟩:Addr).block from la0) _)).setCell (show w.heap.size≤(⟨w9.heap.size+1,1,none⟩:Addr).block from lb0) _
   obtain ⟨x1a,x1b,x1c,hx1⟩:=oa1.at.shape
   obtain ⟨y1a,y1b,y1c,hy1⟩:=ob1.at.shape
   subst hx1; subst hy1
   clear oa1 ob1 hd1 R10 Rx10 o10 ox oy m00 m01 la0 lb0
   obtain ⟨V10,hV10⟩:∃ V:World,(w10.setCell ⟨w9.heap.size,1,none⟩ (.slice x1a x1b x1c)).setCell ⟨w9.heap.size+1,1,none⟩ (.slice y1a y1b y1c)=V:=⟨_,rfl⟩
   rw [hV10] at Ry10 by10
   replace Ry10:=Hd Ry10
   replace hV10:=Hd hV10
   replace n02:=Hd n02
   replace n03:=Hd n03
   replace n42:=Hd n42
   replace n40:=Hd n40
   replace n41:=Hd n41
   replace n00:=Hd n00
   replace n01:=Hd n01
   replace n10:=Hd n10
   replace n11:=Hd n11
   go_upto_region 14 with fail
   rw [hV10.out]
   clear a0 a1 a2 a3 d0 d1 d2 d3 fa fb
   have hB11:w.heap.size≤V10.heap.size:=by10.size
   clear hs1
   obtain ⟨tl,htl,hti⟩:=(Ry10.out.ownI n41.out).at.post 1 (by rw [castI_len]; omega)
   rw [← castI_drop] at hti
   have htl1:∀ w',(Instr.slice 22 ov (some (.int .i64 1)) none none).run Tryz.prog w'=.ok tl w':=htl
   clear htl
   have hio:=Ry10.out.ownI n40.out
   obtain ⟨ova,ovb,ovc,hov⟩:=(Ry10.out.ownI n41.out).at.shape
   subst hov
   obtain ⟨tla,tlb,tlc,htlv⟩:=hti.shape
   subst htlv
   replace hti:=Hd hti
   replace hio:=Hd hio
   go_wp2_with (at_builtin; refine wpl_append rfl _ _ rfl w.heap.size (.slice ia in' ic) (.slice tla tlb tlc) (castI I) (castI (O.drop 1)) hio.out hti.out rfl rfl (by rw [castI_len,castI_len,List.length_drop]; omega) hB11 ?_)
   intro cv' w11 hco b11 hcg' hcal
   replace n02:=n02.out
   replace n03:=n03.out
   replace n42:=n42.out
   replace n40:=n40.out
   replace n41:=n41.out
   replace n00:=n00.out
   replace n01:=n01.out
   replace n10:=n10.out
   replace n11:=n11.out
   have hcal2:(rowI cv' (castI (I++O.drop 1))).v.ownBlock=(rowI (.slice ia in' ic) (castI I)).v.ownBlock∨∃ k,(rowI cv' (castI (I++O.drop 1))).v.ownBlock=some k∧V10.heap.size≤k:=hcal
   replace hco:OwnI w.heap.size w11 cv' (castI (I++O.drop 1)):=by rw [castI_app,List.drop_one]; exact hco
   have R11:=Ry10.out.grown (r':=rowI cv' (castI (I++O.drop 1))) n40 hcg' hco hcal2
   have o11:∀ j,j≠(4,0)→upd fy10 (4,0) (some (rowI cv' (castI (I++O.drop 1)))) j=fy10 j:=fun j e=>upd_ne _ _ e
   clear n40
   replace n02:=(o11 (0,2) (by decide)).trans n02
   replace n03:=(o11 (0,3) (by decide)).trans n03
   replace n42:=(o11 (4,2) (by decide)).trans n42
   replace n41:=(o11 (4,1) (by decide)).trans n41
   replace n00:=(o11 (0,0) (by decide)).trans n00
   replace n01:=(o11 (0,1) (by decide)).trans n01
   replace n10:=(o11 (1,0) (by decide)).trans n10
   replace n11:=(o11 (1,1) (by decide)).trans n11
   generalize upd fy10 (4,0) (some (rowI cv' (castI (I++O.drop 1))))=f11 at *
   have bw11:Below w.heap.size w w11:=by10.trans b11
   have hB12:w.heap.size≤w11.heap.size:=bw11.size
   have hlowC:∀ z∈I++O.drop 1,z<G.length:=fun z hz=>by
    rcases List.mem_append.1 hz with hz | hz
    ·exact p2.out z hz
    ·exact q2.out z (List.mem_of_mem_drop hz)
   have hs2:=sides14_any k k1 cv' (I++O.drop 1) w11 hco.at hk hN1 (e00.out _ _ hlowC hM6) (by rw [List.length_append,List.length_drop]; omega)
   obtain ⟨cva,cvb,cvc,hcv⟩:=hco.at.shape
   subst hcv
   clear hcal hcal2 hcg' hco o11 hlowC htl1
   replace hs2:=Hd hs2
   replace R11:=Hd R11
   replace n02:=Hd n02
   replace n03:=Hd n03
   replace n42:=Hd n42
   replace n41:=Hd n41
   replace n00:=Hd n00
   replace n01:=Hd n01
   replace n10:=Hd n10
   replace n11:=Hd n11
   go_wp2_with fail
   refine hs2.out.mono ?_
   rintro e w12 ⟨x2,y2,rfl,b12,oa2,ob2,hd2⟩
   have bw12:=bw11
   replace n02:=n02.out
   replace n03:=n03.out
   replace n42:=n42.out
   replace n41:=n41.out
   replace n00:=n00.out
   replace n01:=n01.out
   replace n10:=n10.out
   replace n11:=n11.out
   obtain ⟨f12,R12,n20,n21,o12⟩:=R11.out.add2E (2,0) (2,1) (by decide) (r':=rowI x2 (sideA k k1 (I++O.drop 1))) (s':=rowI y2 (sideB k k1 (I++O.drop 1))) b12 (oa2.mono hB12) (fun q hq=>(oa2.lt q hq).1) (ob2.mono hB12) (fun q hq=>(ob2.lt q hq).1) hd2
   replace n02:=(o12 (0,2) (by decide) (by decide)).trans n02
   replace n03:=(o12 (0,3) (by decide) (by decide)).trans n03
   replace n42:=(o12 (4,2) (by decide) (by decide)).trans n42
   replace n41:=(o12 (4,1) (by decide) (by decide)).trans n41
   replace n00:=(o12 (0,0) (by decide) (by decide)).trans n00
   replace n01:=(o12 (0,1) (by decide) (by decide)).trans n01
   replace n10:=(o12 (1,0) (by decide) (by decide)).trans n10
   replace n11:=(o12 (1,1) (by decide) (by decide)).trans n11
   obtain ⟨a0,a1,a2,a3⟩:=R12.cells4 n00
   obtain ⟨d0,d1,d2,d3⟩:=R12.cells4 n01
   have fa:=R12.frz4 n00 2
   have fb:=R12.frz4 n01 2
   have la0:=(R12.low4 n00).1
   have lb0:=(R12.low4 n01).1
   obtain ⟨fx12,Rx12,m00,ox⟩:=R12.st4 n00 2 x2
   replace n02:=(ox (0,2) (by decide)).trans n02
   replace n03:=(ox (0,3) (by decide)).trans n03
   replace n42:=(ox (4,2) (by decide)).trans n42
   replace n41:=(ox (4,1) (by decide)).trans n41
   replace n01:=(ox (0,1) (by decide)).trans n01
   replace n10:=(ox (1,0) (by decide)).trans n10
   replace n11:=(ox (1,1) (by decide)).trans n11
   replace n20:=(ox (2,0) (by decide)).trans n20
   replace n21:=(ox (2,1) (by decide)).trans n21
   clear n00
   have n00:=m00
   obtain ⟨fy12,Ry12,m01,oy⟩:=Rx12.st4 n01 2 y2
   replace n02:=(oy (0,2) (by decide)).trans n02
   replace n03:=(oy (0,3) (by decide)).trans n03
   replace n42:=(oy (4,2) (by decide)).trans n42
   replace n41:=(oy (4,1) (by decide)).trans n41
   replace n00:=(oy (0,0) (by decide)).trans n00
   replace n10:=(oy (1,0) (by decide)).trans n10
   replace n11:=(oy (1,1) (by decide)).trans n11
   replace n20:=(oy (2,0) (by decide)).trans n20
   replace n21:=(oy (2,1) (by decide)).trans n21
   clear n01
   have n01:=m01
   simp only [List.set_cons_zero,List.set_cons_succ] at n00 n01
   have by12:Below w.heap.size w ((w12.setCell ⟨w9.heap.size,2,none⟩ x2).setCell ⟨w9.heap.size+1,2,none⟩ y2):=(((bw12.trans (b12.mono hB12)).setCell (show w.heap.size≤(⟨w9.heap.size,2,none⟩:Addr).block from la0) _)).setCell (show w.heap.size≤(⟨w9.heap.size+1,2,none⟩:Addr).block from lb0) _
   obtain ⟨x2a,x2b,x2c,hx2⟩:=oa2.at.shape
   obtain ⟨y2a,y2b,y2c,hy2⟩:=ob2.at.shape
   subst hx2; subst hy2
   clear oa2 ob2 hd2 R12 Rx12 o12 ox oy m00 m01 la0 lb0
   obtain ⟨V12,hV12⟩:∃ V:World,(w12.setCell ⟨w9.heap.size,2,none⟩ (.slice x2a x2b x2c)).setCell ⟨w9.heap.size+1,2,none⟩ (.slice y2a y2b y2c)=V:=⟨_,rfl⟩
   rw [hV12] at Ry12 by12
   replace Ry12:=Hd Ry12
   replace hV12:=Hd hV12
   replace n02:=Hd n02
   replace n03:=Hd n03
   replace n42:=Hd n42
   replace n41:=Hd n41
   replace n00:=Hd n00
   replace n01:=Hd n01
   replace n10:=Hd n10
   replace n11:=Hd n11
   replace n20:=Hd n20
   replace n21:=Hd n21
   go_upto_region 15 with fail
   rw [hV12.out]
   clear a0 a1 a2 a3 d0 d1 d2 d3 fa fb
   have hB13:w.heap.size≤V12.heap.size:=by12.size
   clear hs2
   have hri:=Ry12.out.ownI n42.out
   have bl:=belowAlloc V12 (.cells #[.int .i64 (d:Int)] 3)
   have hcl:(V12.alloc (.cells #[.int .i64 (d:Int)] 3)).cell? ⟨V12.heap.size,0,none⟩=some (.int .i64 d):=by simp [go_sem]
   obtain ⟨qv,w13,hqr,hqi,hqb,hqg⟩:=run_appTail w.heap.size 22 (V12.alloc (.cells #[.int .i64 (d:Int)] 3)) rg rc V12.heap.size (castI u2.dropLast) (d:Int) (hri.below bl) (by rw [lr2.out]; omega) hcl (by simp; omega) (by rw [lr2.out]; omega)
   have htl:=run_sliceTail rg (castI u2.dropLast).length rc (by rw [lr2.out]; omega)
   generalize sliced (some ⟨rg,0,none⟩) 1 (castI u2.dropLast).length rc 1=tq at *
   rw [← castI_drop,show [(d:Int)]=castI [d] from rfl,← castI_app] at hqi
   have bw13:Below w.heap.size w w13:=(by12.trans (bl.mono hB13)).trans hqb
   have hB14:w.heap.size≤w13.heap.size:=bw13.size
   replace n02:=n02.out
   replace n03:=n03.out
   replace n42:=n42.out
   replace n41:=n41.out
   replace n00:=n00.out
   replace n01:=n01.out
   replace n10:=n10.out
   replace n11:=n11.out
   replace n20:=n20.out
   replace n21:=n21.out
   obtain ⟨f13,R13,o13⟩:=(Ry12.out.below bl).lose n42 hqg
   clear n42 hqg
   replace n02:=(o13 (0,2) (by decide)).trans n02
   replace n03:=(o13 (0,3) (by decide)).trans n03
   replace n41:=(o13 (4,1) (by decide)).trans n41
   replace n00:=(o13 (0,0) (by decide)).trans n00
   replace n01:=(o13 (0,1) (by decide)).trans n01
   replace n10:=(o13 (1,0) (by decide)).trans n10
   replace n11:=(o13 (1,1) (by decide)).trans n11
   replace n20:=(o13 (2,0) (by decide)).trans n20
   replace n21:=(o13 (2,1) (by decide)).trans n21
   clear o13
   have hlowQ:∀ z∈u2.dropLast.drop 1++[d],z<G.length:=fun z hz=>by
    rcases List.mem_append.1 hz with hz | hz
    ·exact m3.out z (List.mem_of_mem_drop hz)
    ·rw [List.mem_singleton] at hz; subst hz; exact hdn
   have hs3:=sides14_any k k1 qv (u2.dropLast.drop 1++[d]) w13 hqi hk hN1 (e00.out _ _ hlowQ hM6) (by simp; omega)
   obtain ⟨qva,qvb,qvc,hqv⟩:=hqi.shape
   subst hqv
   clear hqi hlowQ hri hcl
   replace hs3:=Hd hs3
   replace R13:=Hd R13
   replace hqr:=Hd hqr
   replace htl:=Hd htl
   replace n02:=Hd n02
   replace n03:=Hd n03
   replace n41:=Hd n41
   replace n00:=Hd n00
   replace n01:=Hd n01
   replace n10:=Hd n10
   replace n11:=Hd n11
   replace n20:=Hd n20
   replace n21:=Hd n21
   have htl1:∀ w',(Instr.slice 22 (.slice (some ⟨rg,0,none⟩) (castI u2.dropLast).length rc) (some (.int .i64 1)) none none).run Tryz.prog w'=.ok tq w':=htl.out
   go_wp2_with (at_builtin; refine wpl_app_run rfl _ _ _ rfl _ _ rfl rfl hqr.out ?_)
   go_wp2_with fail
   refine hs3.out.mono ?_
   rintro e w14 ⟨x3,y3,rfl,b14,oa3,ob3,hd3⟩
   have bw14:=bw13
   replace n02:=n02.out
   replace n03:=n03.out
   replace n41:=n41.out
   replace n00:=n00.out
   replace n01:=n01.out
   replace n10:=n10.out
   replace n11:=n11.out
   replace n20:=n20.out
   replace n21:=n21.out
   obtain ⟨f14,R14,n30,n31,o14⟩:=R13.out.add2E (3,0) (3,1) (by decide) (r':=rowI x3 (sideA k k1 (u2.dropLast.drop 1++[d]))) (s':=rowI y3 (sideB k k1 (u2.dropLast.drop 1++[d]))) b14 (oa3.mono hB14) (fun q hq=>(oa3.lt q hq).1) (ob3.mono hB14) (fun q hq=>(ob3.lt q hq).1) hd3
   replace n02:=(o14 (0,2) (by decide) (by decide)).trans n02
   replace n03:=(o14 (0,3) (by decide) (by decide)).trans n03
   replace n41:=(o14 (4,1) (by decide) (by decide)).trans n41
   replace n00:=(o14 (0,0) (by decide) (by decide)).trans n00
   replace n01:=(o14 (0,1) (by decide) (by decide)).trans n01
   replace n10:=(o14 (1,0) (by decide) (by decide)).trans n10
   replace n11:=(o14 (1,1) (by decide) (by decide)).trans n11
   replace n20:=(o14 (2,0) (by decide) (by decide)).trans n20
   replace n21:=(o14 (2,1) (by decide) (by decide)).trans n21
   obtain ⟨a0,a1,a2,a3⟩:=R14.cells4 n00
   obtain ⟨d0,d1,d2,d3⟩:=R14.cells4 n01
   have fa:=R14.frz4 n00 3
   have fb:=R14.frz4 n01 3
   have la0:=(R14.low4 n00).1
   have lb0:=(R14.low4 n01).1
   obtain ⟨fx14,Rx14,m00,ox⟩:=R14.st4 n00 3 x3
   replace n02:=(ox (0,2) (by decide)).trans n02
   replace n03:=(ox (0,3) (by decide)).trans n03
   replace n41:=(ox (4,1) (by decide)).trans n41
   replace n01:=(ox (0,1) (by decide)).trans n01
   replace n10:=(ox (1,0) (by decide)).trans n10
   replace n11:=(ox (1,1) (by decide)).trans n11
   replace n20:=(ox (2,0) (by decide)).trans n20
   replace n21:=(ox (2,1) (by decide)).trans n21
   replace n30:=(ox (3,0) (by decide)).trans n30
   replace n31:=(ox (3,1) (by decide)).trans n31
   clear n00
   have n00:=m00
   obtain ⟨fy14,Ry14,m01,oy⟩:=Rx14.st4 n01 3 y3
   replace n02:=(oy (0,2) (by decide)).trans n02
   replace n03:=(oy (0,3) (by decide)).trans n03
   replace n41:=(oy (4,1) (by decide)).trans n41
   replace n00:=(oy (0,0) (by decide)).trans n00
   replace n10:=(oy (1,0) (by decide)).trans n10
   replace n11:=(oy (1,1) (by decide)).trans n11
   replace n20:=(oy (2,0) (by decide)).trans n20
   replace n21:=(oy (2,1) (by decide)).trans n21
   replace n30:=(oy (3,0) (by decide)).trans n30
   replace n31:=(oy (3,1) (by decide)).trans n31
   clear n01
   have n01:=m01
   simp only [List.set_cons_zero,List.set_cons_succ] at n00 n01
   have by14:Below w.heap.size w ((w14.setCell ⟨w9.heap.size,3,none⟩ x3).setCell ⟨w9.heap.size+1,3,none⟩ y3):=(((bw14.trans (b14.mono hB14)).setCell (show w.heap.size≤(⟨w9.heap.size,3,none⟩:Addr).block from la0) _)).setCell (show w.heap.size≤(⟨w9.heap.size+1,3,none⟩:Addr).block from lb0) _
   obtain ⟨x3a,x3b,x3c,hx3⟩:=oa3.at.shape
   obtain ⟨y3a,y3b,y3c,hy3⟩:=ob3.at.shape
   subst hx3; subst hy3
   clear oa3 ob3 hd3 R14 Rx14 o14 ox oy m00 m01 la0 lb0
   obtain ⟨V14,hV14⟩:∃ V:World,(w14.setCell ⟨w9.heap.size,3,none⟩ (.slice x3a x3b x3c)).setCell ⟨w9.heap.size+1,3,none⟩ (.slice y3a y3b y3c)=V:=⟨_,rfl⟩
   rw [hV14] at Ry14 by14
   replace Ry14:=Hd Ry14
   replace hV14:=Hd hV14
   replace n02:=Hd n02
   replace n03:=Hd n03
   replace n41:=Hd n41
   replace n00:=Hd n00
   replace n01:=Hd n01
   replace n10:=Hd n10
   replace n11:=Hd n11
   replace n20:=Hd n20
   replace n21:=Hd n21
   replace n30:=Hd n30
   replace n31:=Hd n31
   go_upto_region 16 with fail
   rw [hV14.out]
   clear a0 a1 a2 a3 d0 d1 d2 d3 fa fb
   have hB15:w.heap.size≤V14.heap.size:=by14.size
   clear hs3
   replace n02:=n02.out
   replace n03:=n03.out
   replace n41:=n41.out
   replace n00:=n00.out
   replace n01:=n01.out
   replace n10:=n10.out
   replace n11:=n11.out
   replace n20:=n20.out
   replace n21:=n21.out
   replace n30:=n30.out
   replace n31:=n31.out
   obtain ⟨V,hVd⟩:∃ V:World,V14.drew=V:=⟨_,rfl⟩
   have RV:=Ry14.out.drew
   have bV:=by14.drew
   rw [hVd] at RV bV
   clear Ry14 by14
   replace hVd:=Hd hVd
   have hS:V.cell? ⟨w9.heap.size,0,none⟩=some (.int .i64 0)∧V.cell? ⟨w9.heap.size,1,none⟩=some (.slice x1a x1b x1c)∧V.cell? ⟨w9.heap.size,2,none⟩=some (.slice x2a x2b x2c)∧V.cell? ⟨w9.heap.size,3,none⟩=some (.slice x3a x3b x3c)∧V.cell? ⟨w9.heap.size+1,0,none⟩=some (.int .i64 0)∧V.cell? ⟨w9.heap.size+1,1,none⟩=some (.slice y1a y1b y1c)∧V.cell? ⟨w9.heap.size+1,2,none⟩=some (.slice y2a y2b y2c)∧V.cell? ⟨w9.heap.size+1,3,none⟩=some (.slice y3a y3b y3c):=by
    obtain ⟨a0,a1,a2,a3⟩:=RV.cells4 n00
    obtain ⟨d0,d1,d2,d3⟩:=RV.cells4 n01
    exact ⟨a0,a1,a2,a3,d0,d1,d2,d3⟩
   obtain ⟨g0,g1,g2,g3⟩:=RV.cells4 n02
   have fg0:=RV.frz4 n02 0
   have fg1:=RV.frz4 n02 1
   have fg2:=RV.frz4 n02 2
   have fg3:=RV.frz4 n02 3
   have lg0:=(RV.low4 n02).1
   obtain ⟨f15,R15,m02,o15⟩:=RV.all4 n02 (.int .i64 0) (.slice x1a x1b x1c) (.slice x2a x2b x2c) (.slice x3a x3b x3c)
   replace n03:=(o15 (0,3) (by decide)).trans n03
   replace n41:=(o15 (4,1) (by decide)).trans n41
   replace n00:=(o15 (0,0) (by decide)).trans n00
   replace n01:=(o15 (0,1) (by decide)).trans n01
   replace n10:=(o15 (1,0) (by decide)).trans n10
   replace n11:=(o15 (1,1) (by decide)).trans n11
   replace n20:=(o15 (2,0) (by decide)).trans n20
   replace n21:=(o15 (2,1) (by decide)).trans n21
   replace n30:=(o15 (3,0) (by decide)).trans n30
   replace n31:=(o15 (3,1) (by decide)).trans n31
   have b15:=Below.all4 (g:=w.heap.size) bV lg0 (.int .i64 0) (.slice x1a x1b x1c) (.slice x2a x2b x2c) (.slice x3a x3b x3c)
   obtain ⟨V15,hV15⟩:∃ V',(((V.setCell ⟨w.heap.size,0,none⟩ (.int .i64 0)).setCell ⟨w.heap.size,1,none⟩ (.slice x1a x1b x1c)).setCell ⟨w.heap.size,2,none⟩ (.slice x2a x2b x2c)).setCell ⟨w.heap.size,3,none⟩ (.slice x3a x3b x3c)=V':=⟨_,rfl⟩
   rw [hV15] at R15 b15
   have hS15:V15.cell? ⟨w9.heap.size,0,none⟩=some (.int .i64 0)∧V15.cell? ⟨w9.heap.size,1,none⟩=some (.slice x1a x1b x1c)∧V15.cell? ⟨w9.heap.size,2,none⟩=some (.slice x2a x2b x2c)∧V15.cell? ⟨w9.heap.size,3,none⟩=some (.slice x3a x3b x3c)∧V15.cell? ⟨w9.heap.size+1,0,none⟩=some (.int .i64 0)∧V15.cell? ⟨w9.heap.size+1,1,none⟩=some (.slice y1a y1b y1c)∧V15.cell? ⟨w9.heap.size+1,2,none⟩=some (.slice y2a y2b y2c)∧V15.cell? ⟨w9.heap.size+1,3,none⟩=some (.slice y3a y3b y3c):=by
    obtain ⟨a0,a1,a2,a3⟩:=R15.cells4 n00
    obtain ⟨d0,d1,d2,d3⟩:=R15.cells4 n01
    exact ⟨a0,a1,a2,a3,d0,d1,d2,d3⟩
   replace hV15:=Hd hV15
   clear n02 o15 RV bV lg0
   have n02:=m02
   clear m02
   refine wp_region_plan (fun w'=>w'.cell? ⟨w9.heap.size,0,none⟩=some (.int .i64 0)∧w'.cell? ⟨w9.heap.size,1,none⟩=some (.slice x1a x1b x1c)∧w'.cell? ⟨w9.heap.size,2,none⟩=some (.slice x2a x2b x2c)∧w'.cell? ⟨w9.heap.size,3,none⟩=some (.slice x3a x3b x3c)∧w'.cell? ⟨w9.heap.size+1,0,none⟩=some (.int .i64 0)∧w'.cell? ⟨w9.heap.size+1,1,none⟩=some (.slice y1a y1b y1c)∧w'.cell? ⟨w9.heap.size+1,2,none⟩=some (.slice y2a y2b y2c)∧w'.cell? ⟨w9.heap.size+1,3,none⟩=some (.slice y3a y3b y3c)) 4 [(0,true),(1,true),(2,false),(3,false)] (by kernel_rfl) (by kernel_rfl) ?_
   rw [hVd.out]
   refine pqY 111 hS ?_
   refine pqY 112 hS ?_
   refine headC rfl (fun KK hK=>?_)
   go_simp
   rw [hV15.out]
   refine hK _ _ hS15 ?_
   clear hK KK hS g0 g1 g2 g3 fg0 fg1 fg2 fg3
   obtain ⟨h0,h1,h2,h3⟩:=R15.cells4 n03
   have fh0:=R15.frz4 n03 0
   have fh1:=R15.frz4 n03 1
   have fh2:=R15.frz4 n03 2
   have fh3:=R15.frz4 n03 3
   have lh0:=(R15.low4 n03).1
   obtain ⟨f16,R16,m03,o16⟩:=R15.all4 n03 (.int .i64 0) (.slice y1a y1b y1c) (.slice y2a y2b y2c) (.slice y3a y3b y3c)
   replace n02:=(o16 (0,2) (by decide)).trans n02
   replace n41:=(o16 (4,1) (by decide)).trans n41
   replace n00:=(o16 (0,0) (by decide)).trans n00
   replace n01:=(o16 (0,1) (by decide)).trans n01
   replace n10:=(o16 (1,0) (by decide)).trans n10
   replace n11:=(o16 (1,1) (by decide)).trans n11
   replace n20:=(o16 (2,0) (by decide)).trans n20
   replace n21:=(o16 (2,1) (by decide)).trans n21
   replace n30:=(o16 (3,0) (by decide)).trans n30
   replace n31:=(o16 (3,1) (by decide)).trans n31
   have b16:=Below.all4 (g:=w.heap.size+1) b15 lh0 (.int .i64 0) (.slice y1a y1b y1c) (.slice y2a y2b y2c) (.slice y3a y3b y3c)
   obtain ⟨V16,hV16⟩:∃ V',(((V15.setCell ⟨w.heap.size+1,0,none⟩ (.int .i64 0)).setCell ⟨w.heap.size+1,1,none⟩ (.slice y1a y1b y1c)).setCell ⟨w.heap.size+1,2,none⟩ (.slice y2a y2b y2c)).setCell ⟨w.heap.size+1,3,none⟩ (.slice y3a y3b y3c)=V':=⟨_,rfl⟩
   rw [hV16] at R16 b16
   have hS16:V16.cell? ⟨w9.heap.size,0,none⟩=some (.int .i64 0)∧V16.cell? ⟨w9.heap.size,1,none⟩=some (.slice x1a x1b x1c)∧V16.cell? ⟨w9.heap.size,2,none⟩=some (.slice x2a x2b x2c)∧V16.cell? ⟨w9.heap.size,3,none⟩=some (.slice x3a x3b x3c)∧V16.cell? ⟨w9.heap.size+1,0,none⟩=some (.int .i64 0)∧V16.cell? ⟨w9.heap.size+1,1,none⟩=some (.slice y1a y1b y1c)∧V16.cell? ⟨w9.heap.size+1,2,none⟩=some (.slice y2a y2b y2c)∧V16.cell? ⟨w9.heap.size+1,3,none⟩=some (.slice y3a y3b y3c):=by
    obtain ⟨a0,a1,a2,a3⟩:=R16.cells4 n00
    obtain ⟨d0,d1,d2,d3⟩:=R16.cells4 n01
    exact ⟨a0,a1,a2,a3,d0,d1,d2,d3⟩
   replace hV16:=Hd hV16
   clear n03 o16 R15 b15 lh0
   have n03:=m03
   clear m03
   refine headC rfl (fun KK hK=>?_)
   go_simp
   rw [hV16.out]
   refine hK _ _ hS16 ?_
   clear hK KK hS15 h0 h1 h2 h3 fh0 fh1 fh2 fh3
   refine head0 ?_
   simp only [List.drop_succ_cons,List.drop_zero]
   clear hS16
   obtain ⟨g0,g1,g2,g3⟩:=R16.cells4 n02
   obtain ⟨h0,h1,h2,h3⟩:=R16.cells4 n03
   replace R16:=Hd R16
   replace n00:=Hd n00
   replace n01:=Hd n01
   replace n02:=Hd n02
   replace n03:=Hd n03
   replace n41:=Hd n41
   replace n10:=Hd n10
   replace n11:=Hd n11
   replace n20:=Hd n20
   replace n21:=Hd n21
   replace n30:=Hd n30
   replace n31:=Hd n31
   go_wp2
   refine NoPanic.normal ?_
   go_wp2
   refine bodyPost_ret (v:=.tuple #[.agg #[.int .i64 0,.slice x1a x1b x1c,.slice x2a x2b x2c,.slice x3a x3b x3c],.agg #[.int .i64 0,.slice y1a y1b y1c,.slice y2a y2b y2c,.slice y3a y3b y3c],.nilIface]) (by simp [results,Tryz.results55,go_sem,g0,g1,g2,g3,h0,h1,h2,h3]) rfl ?_
   exact ⟨_,_,_,rfl,b16,rfl,u1.dropLast,I++O.drop 1,u2.dropLast.drop 1++[d],_,_,_,_,_,_,⟨c,d,u1,u2,I,O,hcN.out,hdN.out,hcn,hdn,hu1.out,hu2.out,hI.out,hO.out,rfl,rfl,rfl⟩,rfl,rfl,f16,R16.out,n10.out,n11.out,n20.out,n21.out,n30.out,n31.out⟩
end Go.Proofs.YtncpnaoabkjegaaGreatDoor
namespace Go.Proofs.YtncpnaoabkjegaaGreatDoor
open Go.RowKit Go.Shelf Go.Sort
set_option maxRecDepth 100000
def Tryz.laysDel_ren:Go.Shelf.Ren:=⟨fun | 10=>123 | 6=>168 | n=>n,fun | 22=>22 | 23=>3 | 25=>100 | 3=>3 | 4=>4 | 0=>0 | n=>n,fun | n=>n⟩
theorem Tryz.laysDel:Go.Proofs.SlLaysH.n10 Tryz.prog Tryz.laysDel_ren:={
 mixed:=by kernel_rfl
 f6:=⟨Tryz.f168.name,by decide,Tryz.func168.trans (congrArg some (by kernel_rfl))⟩
 f10:=⟨Tryz.f123.name,by decide,Tryz.func123.trans (congrArg some (by kernel_rfl))⟩
 t0:=Tryz.underlying0
 a0:=Tryz.isAgg0
 z0:=Tryz.sizeOf0
 v0:=Tryz.zeroValue0
 t3:=Tryz.underlying3
 a3:=Tryz.isAgg3
 z3:=Tryz.sizeOf3
 v3:=Tryz.zeroValue3
 t4:=Tryz.underlying4
 a4:=Tryz.isAgg4
 z4:=Tryz.sizeOf4
 v4:=Tryz.zeroValue4
 t22:=Tryz.underlying22
 a22:=Tryz.isAgg22
 z22:=Tryz.sizeOf22
 v22:=Tryz.zeroValue22
 a23:=Tryz.isAgg3
 z23:=Tryz.sizeOf3
 t25:=Tryz.underlying100
 a25:=Tryz.isAgg100
 z25:=Tryz.sizeOf100
 v25:=Tryz.zeroValue100 }
def dgI (N:Nat) (x:Int):Bool:=IntKind.i64.wrap (x.tdiv N)==x.tmod N
theorem dgI_aux (a c:Nat) (ha:a≤100000):(IntKind.i64.wrap (a:Int)==(c:Int))=decide (a=c):=by
 rw [wrapK (x:=(a:Int)) (by omega) (by omega)]
 by_cases e:a=c
 ·simp [e]
 ·rw [decide_eq_false e,beq_eq_false_iff_ne]; omega
theorem dgI_nat {N p:Nat} (hp:p≤100000):dgI N p=decide (Diag N p):=by
 unfold dgI
 have h1:p/N≤100000:=Nat.le_trans (Nat.div_le_self _ _) hp
 have e1:(p:Int).tdiv (N:Int)=((p/N:Nat):Int):=by rw [Int.tdiv_eq_ediv_of_nonneg (by omega)]; simp
 have e2:(p:Int).tmod (N:Int)=((p%N:Nat):Int):=by rw [Int.tmod_eq_emod_of_nonneg (by omega)]; simp
 rw [e1,e2,dgI_aux _ _ h1,decide_eq_decide]
 exact Iff.rfl
theorem apart1_any (x:Int) (b N:Nat) (w:World) (hN:1≤N) (hb:w.cell? ⟨b,0,none⟩=some (.int .i64 N)) :
 Calls Tryz.prog 124 #[.int .i64 x,.pointer (some ⟨b,0,none⟩)] w (RetB (dgI N x) w):=by
 have h1:¬ (N:Int)=0:=by omega
 have h2:((N:Int)==0)=false:=by rw [beq_eq_false_iff_ne]; omega
 have h3:¬ N=0:=by omega
 go_enter Tryz.func124,Tryz.ntmps124
 go_upto_region 1 with fail
 refine wp_region_plan (fun w'=>w'.cell? ⟨b,0,none⟩=some (.int .i64 N)) 7 [(0,true),(1,true),(2,true),(3,true),(4,true),(5,true),(6,true)] (by kernel_rfl) (by kernel_rfl) ?_
 have hS:w.drew.cell? ⟨b,0,none⟩=some (.int .i64 N):=hb
 refine pqY 4 hS ?_
 refine pqY 5 hS ?_
 refine pqY 6 hS ?_
 refine pqY 7 hS ?_
 refine pqY 8 hS ?_
 refine pqY 9 hS ?_
 refine pqY 10 hS ?_
 refine head0 ?_
 simp only [List.drop_succ_cons,List.drop_zero]
 clear hS
 go_wp2
 refine NoPanic.normal ?_
 go_wp2
 go_ret
 exact ⟨1,rfl,rfl⟩
theorem eg_apart1 (args:Array Value) (w:World):(callFunc 124 args).run Tryz.prog w=.ok (.enter 124 args) w:=by kernel_rfl
theorem gives1 (x:Int) (b N:Nat) (w:World) (hN:1≤N) (hb:w.cell? ⟨b,0,none⟩=some (.int .i64 N)):FnGives Tryz.prog 124 #[.pointer (some ⟨b,0,none⟩)] #[.int .i64 x] (.bool (dgI N x)) w:=by
 refine (apart1_any x b N w hN hb).mono ?_
 rintro e w' ⟨n,rfl,rfl⟩
 exact ⟨rfl,n,rfl⟩
theorem delete_own (B:Nat) (v:Value) (xs:List Int) (b N:Nat) (w:World) (h:OwnI B w v xs) (hx:xs≠[]) (hN:1≤N) (hb:w.cell? ⟨b,0,none⟩=some (.int .i64 N)) (hne:v.ownBlock≠some b) :
 Calls Tryz.prog 123 #[v,.func (.func 124) #[] #[.pointer (some ⟨b,0,none⟩)]] w fun e w'=>∃ x,e=.returned x∧x.ownBlock=v.ownBlock∧OwnI B w' x (xs.filter fun x=>!dgI N x)∧Below B w w':=by
 have hbl:=World.block_lt_of_cell? _ _ hb
 rcases h.2 with ⟨rfl,hn⟩ | ⟨g,cap,cur,rfl,hB,hg,hn,hm,hs,ht⟩
 ·exact absurd (List.length_eq_zero_iff.1 hn) hx
 ·have hne':b≠g:=fun e=>hne (by rw [e]; rfl)
  have hcon:=AnyE.slices_DeleteFunc Tryz.laysDel (Value.int .i64) (fun _=>rfl) (dgI N) 124 #[.pointer (some ⟨b,0,none⟩)] (fun args w'=>eg_apart1 args w') 0 (fun w=>by kernel_rfl) g 0 cap xs.toArray w
   (fun W x hb'=>gives1 x b N W hN ((hb'.cell (p:=⟨b,0,none⟩) hbl).trans hb))
   (fun n os dk x _=>gives1 x b N _ hN (by
     unfold sortWorld
     rw [cell?_grow _ _ _ (by show b<(putRow _ _ _ _ _).heap.size; rw [size_putRow]; exact hbl),cell?_putRow_other _ _ g 0 _ _ (Or.inl hne')]
     exact hb))
   (holds_of_block_i hg (by simpa using ht)) (by have:=h.at.len_le; simpa using this) (by simpa using hn)
  refine Calls.mono hcon ?_
  rintro e w' ⟨rfl,q,rfl⟩
  have hfl:(xs.toArray.toList.filter fun x=>!dgI N x)=xs.filter fun x=>!dgI N x:=rfl
  rw [hfl]
  have hle:=List.length_filter_le (fun x=>!dgI N x) xs
  generalize hF:(xs.filter fun x=>!dgI N x)=F at *
  have hL:(F++List.replicate (xs.toArray.size-F.length) 0).length=xs.length:=by simp; omega
  have ho:=ownsRow_sorted_i (w:=w) (n:=q) (os:=#[]) (ss:=xs) (ts:=F++List.replicate (xs.toArray.size-F.length) 0) hL hB hg hn hm hs
  have hgr:=grownBy_sorted_i (w:=w) (g:=g) (n:=q) (os:=#[]) (F++List.replicate (xs.toArray.size-F.length) 0).toArray
  rw [grow_empty] at ho hgr
  have hO:OwnI B (putRow (Value.int .i64) (Sort.ahead w q) g 0 (F++List.replicate (xs.toArray.size-F.length) 0).toArray) (.slice (some ⟨g,0,none⟩) xs.length cap) (F++List.replicate (xs.toArray.size-F.length) 0):=by
   unfold OwnI; rw [hL]; exact ho
  have ho2:=hO.cutTo F.length (by rw [hL]; exact hle)
  rw [List.take_left' rfl] at ho2
  exact ⟨_,rfl,rfl,ho2,(Below.refl _ _).grown hgr (by have:=(Array.getElem?_eq_some_iff.1 hg).1; omega) (fun k hk=>by cases hk; exact hB)⟩
end Go.Proofs.YtncpnaoabkjegaaGreatDoor
