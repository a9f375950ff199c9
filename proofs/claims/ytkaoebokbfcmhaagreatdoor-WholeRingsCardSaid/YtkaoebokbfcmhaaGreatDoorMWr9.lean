/-
  Texts that the proof leans on.
-/
import Derived.Test.YtkaoebokbfcmhaaGreatDoorMWr8
namespace Go.Proofs.YtkaoebokbfcmhaaGreatDoor
open Go.RowKit
set_option maxRecDepth 100000
set_option maxHeartbeats 8000000
theorem tnodes_any (N:Nat) (w:World) (hN1:1≤N) (hN:N≤81) :
 Calls Tryz.prog 149 #[.int .i64 ((N*N:Nat):Int)] w fun e w'=>e=.returned (.int .i64 N)∧w=w':=by
 have hM6:N*N≤6561:=Nat.mul_le_mul hN hN
 obtain ⟨M,hM⟩:∃ M,N*N=M:=⟨_,rfl⟩
 rw [hM] at hM6 ⊢
 replace hM:=Hd hM
 go_enter Tryz.func149,Tryz.ntmps149
 go_wp2_with fail
 go_loop [3] (fun nv=>∃ k:Nat,k≤N∧nv=.int .i64 k) (fun nv=>N-(intOf nv).toNat)
 case atStart=>exact ⟨1,hN1,rfl⟩
 case round =>
  obtain ⟨k,hk,rfl⟩:=hrel
  obtain ⟨kk,hkk⟩:∃ z,k*k=z:=⟨_,rfl⟩
  have hkk2:(k:Int)*(k:Int)=(kk:Int):=by rw [← hkk]; simp
  have hkkM:kk≤M:=by rw [← hkk,← hM.out]; exact Nat.mul_le_mul hk hk
  by_cases hlt:kk<M
  ·have hkN:k<N:=Nat.lt_of_le_of_ne hk (fun e=>by have:=hM.out; rw [e] at hkk; omega)
   replace hkk:=Hd hkk
   go_wp2
   go_round
   case measure=>simp [intOf]; omega
   case rel=>exact ⟨k+1,by omega,by go_num⟩
  ·have hkN:k=N:=by
    apply Classical.byContradiction
    intro e
    have h2:k*k<N*N:=Nat.mul_lt_mul_of_lt_of_lt (by omega) (by omega)
    rw [hkk,hM.out] at h2
    omega
   subst hkN
   replace hkk:=Hd hkk
   go_wp2
   go_ret
   exact ⟨rfl,rfl⟩
def sliceN:Value→Nat
 | .slice _ n _=>n
 | _=>0
theorem sliceN_of {w:World} {v:Value} {xs:List Int} (h:IntsAt w v xs):sliceN v=xs.length:=by
 obtain ⟨a,cap,rfl,_⟩:=h; rfl
def MeetPost (w:World) (N:Nat) (adj:Nat→List Nat) (x:Value) (w':World):Prop :=
 (∃ ws,MeetIs N adj ws∧ApartWay N adj ws∧(∀ u,ApartWay N adj u→ws.length≤u.length)∧ws.length≤20000∧OwnI w.heap.size w' x (castI ws))∨(x=.slice none 0 0∧∀ u,¬ ApartWay N adj u)
def diagsTo (N i:Nat):List Nat:=(List.range i).map fun u=>u*N+u
theorem diagsTo_succ (N i:Nat):diagsTo N (i+1)=diagsTo N i++[i*N+i]:=by simp [diagsTo,List.range_succ]
theorem meet_any (K N:Nat) (T:List Int) (ga:Option Addr) (gc:Nat) (w:World) (hk4:K≤4) (hN1:1≤N) (hN81:N≤81) (h:ListsAt w (.slice ga (pairG K N T).length gc) (pairG K N T)) :
 Calls Tryz.prog 118 #[.slice ga (pairG K N T).length gc] w (Ret1 (MeetPost w N (pairL K N T)) w):=by
 have hM6:N*N≤6561:=Nat.mul_le_mul hN81 hN81
 have hnodes:=tnodes_any N w hN1 hN81
 have lg:=h.len 3
 have hrow:=fun (p:Nat) (hp:p<N*N)=>h.row p (by rw [pairG_len]; exact hp)
 have hrow2:∀ p,p<N*N→(pairG K N T).getD p []=castI (pairL K N T p):=fun p hp=>pairG_row hp
 rw [pairG_len] at lg h ⊢
 obtain ⟨M,hM⟩:∃ M,N*N=M:=⟨_,rfl⟩
 have hMe:=hM
 rw [pairG_len] at hrow
 rw [hM] at hnodes hM6 lg h hrow hrow2 ⊢
 have b0:=belowAlloc w (.cells #[.int .i64 (-1)] 3)
 have hI:=(OwnI.lit w.heap.size w (Nat.le_refl _) [-1] (by simp [maxLen]) #[.int .i64 (-1)] rfl 1 rfl).at
 have hRep:=repeat_any _ (-1) M _ hI (by omega)
 replace hRep:=Hd hRep
 replace hI:=Hd hI
 replace hnodes:=Hd hnodes
 replace hM:=Hd hM
 replace hMe:=Hd hMe
 replace h:=Hd h
 replace hrow:=Hd hrow
 replace hrow2:=Hd hrow2
 go_enter Tryz.func118,Tryz.ntmps118
 go_wp2_with fail
 refine hnodes.out.mono ?_
 rintro e w' ⟨rfl,rfl⟩
 go_wp2_with fail
 refine hRep.out.mono ?_
 rintro e w1 ⟨cv,rfl,b1,hcv⟩
 obtain ⟨w0,hw0⟩:∃ w0:World,w0=w.alloc (.cells #[.int .i64 (-1)] 3):=⟨_,rfl⟩
 rw [← hw0] at b0 b1 hcv
 rw [← tabI_neg1] at hcv
 clear hRep hI hw0
 have b01:=Below.step b0 b1
 have R1:=(rowsE w.heap.size w0).add (i:=(1,0)) (r':=rowI cv (tabI M fun _=>-1)) b1 (hcv.mono b0.size) (fun k hk=>(hcv.lt k hk).1)
 have R2:=R1.add (i:=(2,0)) (r':=rowI (.slice none 0 0) []) (Below.refl _ _) (OwnI.nil _ _) (fun k hk=>by cases hk)
 obtain ⟨f0,hf0⟩:∃ f0,f0=upd (upd (fun _=>none) (1,0) (some (rowI cv (tabI M fun _=>-1)))) (2,0) (some (rowI (.slice none 0 0) [])):=⟨_,rfl⟩
 rw [← hf0] at R2
 have hF0:FN f0 cv (.slice none 0 0) M (fun _=>-1) (diagsTo N 0):=⟨by rw [hf0,upd_ne _ _ (by simp),upd_same],by rw [hf0,upd_same]; rfl⟩
 obtain ⟨ca,cn,cc,rfl⟩:=hcv.at.shape
 replace R2:=Hd R2
 replace hF0:=Hd hF0
 replace hcv:=Hd hcv
 clear R1 hf0
 go_wp2_with fail
 go_loopw [5,22] (fun qv iv wr=>∃ (i:Nat) (f:Names) (qw:Value),i≤N∧iv=.int .i64 i∧qw=qv∧Rows w.heap.size wr f∧Below w.heap.size w wr∧FN f (.slice ca cn cc) qw M (fun _=>-1) (diagsTo N i)) (fun _ iv _=>N-(intOf iv).toNat)
 case atStart=>exact ⟨0,f0,_,by omega,rfl,rfl,R2.out,b01,hF0.out⟩
 case round =>
  clear R2 hF0 hcv
  obtain ⟨i,f1,qv,hi,rfl,rfl,hr1,bI,hF⟩:=hrel
  obtain ⟨wo,rfl⟩:∃ wo:World,wo=wr:=⟨_,rfl⟩
  by_cases hil:i<N
  ·obtain ⟨m,hm⟩:∃ z,i*N=z:=⟨_,rfl⟩
   have hm2:(i:Int)*(N:Int)=(m:Int):=by rw [← hm]; simp
   have hml:m≤6561:=by rw [← hm]; exact Nat.le_trans (Nat.mul_le_mul (show i≤81 by omega) hN81) (by decide)
   obtain ⟨z,hz⟩:∃ z,m+i=z:=⟨_,rfl⟩
   have hz2:(m:Int)+(i:Int)=(z:Int):=by omega
   have hwm:IntKind.i64.wrap (m:Int)=m:=wrapK (by omega) (by omega)
   have hwz:IntKind.i64.wrap (z:Int)=z:=wrapK (by omega) (by omega)
   have hds:diagsTo N (i+1)=diagsTo N i++[z]:=by rw [diagsTo_succ,hm,hz]
   have hoQ:=hr1.ownI hF.queue
   have hB:=bI.size
   have hil2:=Hd hil
   have hlq:(castI (diagsTo N i)).length≤81:=by rw [castI_len]; simp [diagsTo]; omega
   replace hr1:=Hd hr1
   replace hF:=Hd hF
   replace hm:=Hd hm
   replace hz:=Hd hz
   replace hds:=Hd hds
   go_wp2_with (at_builtin; refine wpl_app1 rfl _ _ rfl w.heap.size qv _ z hoQ rfl rfl (by omega) hB ?_)
   intro qv' w7 ho7 b7 hal7
   obtain ⟨f8,hr8,h8,_⟩:=hF.out.push hr1.out z ho7 hal7
   obtain ⟨q1,q2,q3,rfl⟩:=ho7.at.shape
   replace hr8:=Hd hr8
   replace ho7:=Hd ho7
   clear hal7 hoQ
   go_wp2
   go_roundw
   case measure=>have:=hil2.out; simp [intOf]; omega
   case rel=>exact ⟨i+1,f8,_,by have:=hil2.out; omega,by go_num,rfl,hr8.out,bI.trans b7,by rw [hds.out]; exact h8⟩
  ·obtain rfl:i=N:=by omega
   have hO0:=MOut.init i (pairL K i T)
   have hC0:=CameOf.init i (pairL K i T)
   have hNz1:¬ (i:Int)=0:=by omega
   have hNz2:((i:Int)==0)=false:=by rw [beq_eq_false_iff_ne]; omega
   have hNz3:¬ i=0:=by omega
   replace hr1:=Hd hr1
   replace hF:=Hd hF
   replace hO0:=Hd hO0
   replace hC0:=Hd hC0
   go_wp2_with fail
   go_loopw [5,7] (fun qv iv wr=>∃ (j:Nat) (f:Names) (qw:Value) (came:Nat→Int) (q:List Nat) (D:Nat→Nat),j≤q.length∧iv=.int .i64 j∧qw=qv∧Rows w.heap.size wr f∧Below w.heap.size w wr∧FN f (.slice ca cn cc) qw M came q∧MOut i (pairL K i T) D q j∧CameOf i (pairL K i T) D q came∧stM i (pairL K i T) j=(came,q)∧∀ z,z<j→NoHit i (pairL K i T) z) (fun _ iv _=>M+1-(intOf iv).toNat)
   case atStart=>exact ⟨0,f1,_,_,_,_,by omega,rfl,rfl,hr1.out,bI,hF.out,hO0.out,hC0.out,rfl,fun z hz=>absurd hz (Nat.not_lt_zero _)⟩
   case round =>
    clear hr1 hF hO0 hC0 bI
    obtain ⟨j,f2,qv,came,q,D,hj,rfl,rfl,hr2,b2,hF2,hO,hC,hst,hnh⟩:=hrel
    obtain ⟨wo,rfl⟩:∃ wo:World,wo=wr:=⟨_,rfl⟩
    have hqlen:q.length≤M:=nodup_len M q hO.nodup (fun x hx=>by rw [← hM.out]; exact hO.low x hx)
    have hOQ:=hr2.ownI hF2.queue
    have lQ:=hOQ.at.len
    rw [castI_len] at lQ
    by_cases hjl:j<q.length
    ·obtain ⟨v,hv⟩:∃ v,q[j]?=some v:=⟨_,List.getElem?_eq_getElem hjl⟩
     have hvM:v<M:=by rw [← hM.out]; exact hO.low v (List.mem_of_getElem? hv)
     have iV:=fun w'=>hOQ.at.idx j (by rw [castI_len]; exact hjl) w'
     have cV:=hOQ.at.cellD j (by rw [castI_len]; exact hjl)
     rw [castI_get hv] at cV
     obtain ⟨mv,iR,cR,hMv⟩:=hrow.out v hvM
     rw [hrow2.out v hvM] at hMv
     have cR2:=(b2.cell (World.block_lt_of_cell? _ _ cR)).trans cR
     have lM:=hMv.len
     rw [castI_len] at lM
     have hadjl:(pairL K i T v).length≤16:=Nat.le_trans (pairL_len K i T v) (Nat.le_trans (Nat.mul_le_mul hk4 hk4) (by decide))
     obtain ⟨d1,d2,d3,d4,d5,d6⟩:=dm v i (by omega)
     obtain ⟨u1,hu1⟩:∃ z,v/i=z:=⟨_,rfl⟩
     obtain ⟨v1,hv1⟩:∃ z,v%i=z:=⟨_,rfl⟩
     rw [hu1] at d1 d3 d5
     rw [hv1] at d2 d4 d6
     have hvd:Diag i v↔u1=v1:=by unfold Diag; rw [hu1,hv1]
     have hin:=hO.enter hv
     have hjl2:=Hd hjl
     obtain ⟨L,hL⟩:∃ L,pairL K i T v=L:=⟨_,rfl⟩
     rw [hL] at hMv lM hadjl
     have hLlow:∀ t∈L,t<M:=fun t ht=>by
      rw [← hL] at ht
      rw [← hM.out]; exact ((mem_pairL (by omega)).1 ht).lt (by omega)
     generalize valAt qv j=qa at *
     generalize valAt (.slice ga M gc) v=ra at *
     obtain ⟨ap,hap⟩:∃ ap:Bool,ap=((u1:Int) != (v1:Int)):=⟨_,rfl⟩
     have hapd:ap=true↔¬ Diag i v:=by rw [hap,bne_iff_ne,hvd]; omega
     have hap2:((u1:Int) != (v1:Int))=ap:=hap.symm
     have hap3:(u1 != v1)=ap:=by rw [hap]; rw [Bool.eq_iff_iff,bne_iff_ne,bne_iff_ne]; omega
     replace hap:=Hd hap
     replace hu1:=Hd hu1
     replace hv1:=Hd hv1
     replace hvd:=Hd hvd
     replace hL:=Hd hL
     replace hMv:=Hd hMv
     replace hin:=Hd hin
     replace hr2:=Hd hr2
     replace hF2:=Hd hF2
     replace hO:=Hd hO
     replace hC:=Hd hC
     replace hOQ:=Hd hOQ
     replace hv:=Hd hv
     have hstv:(stM i (pairL K i T) j).2[j]?=some v:=by rw [hst]; exact hv.out
     replace hstv:=Hd hstv
     replace hst:=Hd hst
     replace hnh:=Hd hnh
     go_upto_region 13 with fail
     refine wp_region_plan (fun _=>True) 7 [(0,true),(1,true),(2,true),(3,true),(4,true),(5,true),(6,true)] (by kernel_rfl) (by kernel_rfl) ?_
     have hS:True:=trivial
     refine pqY 44 hS ?_
     refine pqY 45 hS ?_
     refine pqY 46 hS ?_
     refine pqY 47 hS ?_
     refine pqY 48 hS ?_
     refine pqY 49 hS ?_
     refine pqY 50 hS ?_
     refine head0 ?_
     simp only [List.drop_succ_cons,List.drop_zero]
     clear hS
     go_wp2
     refine NoPanic.normal ?_
     go_wp2_with fail
     clear cV iV cR2 lQ hap2 hap3
     go_loopw [5,56] (fun qv tv wr=>∃ (k:Nat) (f:Names) (qw:Value) (came:Nat→Int) (q:List Nat) (D:Nat→Nat),k≤L.length∧tv=.int .i64 k∧qw=qv∧Rows w.heap.size wr f∧Below w.heap.size w wr∧FN f (.slice ca cn cc) qw M came q∧j<q.length∧MIn i (pairL K i T) D q j v (L.take k)∧CameOf i (pairL K i T) D q came∧rowM i (pairL K i T) v (stM i (pairL K i T) j) k=(came,q)) (fun _ tv _=>L.length-(intOf tv).toNat)
     case atStart=>exact ⟨0,f2,_,came,q,D,by omega,rfl,rfl,hr2.out,by first | exact b2 | exact b2.drew,hF2.out,hjl2.out,hin.out,hC.out,hst.out⟩
     case round =>
      clear hr2 hF2 hO hC hOQ hin b2 hqlen hst
      obtain ⟨k,f3,qv,came,q,D,hk,rfl,rfl,hr3,b3,hF3,hjq,hIn,hC,hrm⟩:=hrel
      obtain ⟨wp',rfl⟩:∃ wo:World,wo=wr:=⟨_,rfl⟩
      have hqlen:q.length≤M:=nodup_len M q hIn.nodup (fun x hx=>by rw [← hM.out]; exact hIn.low x hx)
      by_cases hkl:k<L.length
      ·obtain ⟨t,ht⟩:∃ t,L[k]?=some t:=⟨_,List.getElem?_eq_getElem hkl⟩
       have htm:t∈pairL K i T v:=by rw [hL.out]; exact List.mem_of_getElem? ht
       have htM:t<M:=hLlow t (List.mem_of_getElem? ht)
       have hM3:=hMv.out.below b3
       have iT:=fun w'=>hM3.idx k (by rw [castI_len]; exact hkl) w'
       have cT:=hM3.cellD k (by rw [castI_len]; exact hkl)
       rw [castI_get ht] at cT
       have htk:L.take (k+1)=L.take k++[t]:=by rw [List.take_add_one,ht]; rfl
       have hrs:rowM i (pairL K i T) v (stM i (pairL K i T) j) (k+1)=stepM i v (came,q) t:=by rw [rowM_succ (t:=t) (by rw [hL.out]; exact ht),hrm]
       have hskip:(Diag i t∨¬ came t<0)→stepM i v (came,q) t=(came,q):=fun e=>by
        unfold stepM; rw [if_neg]; rintro ⟨e1,e2⟩; rcases e with e | e
        ·exact e1 e
        ·exact e e2
       have hpush:¬ Diag i t→came t<0→stepM i v (came,q) t=(updN came t (v:Int),q++[t]):=fun e1 e2=>by
        unfold stepM; rw [if_pos ⟨e1,e2⟩]
       replace hrs:=Hd hrs
       replace hskip:=Hd hskip
       replace hpush:=Hd hpush
       replace hrm:=Hd hrm
       obtain ⟨e1,e2,e3,e4,e5,e6⟩:=dm t i (by omega)
       obtain ⟨a,ha⟩:∃ z,t/i=z:=⟨_,rfl⟩
       obtain ⟨b,hb⟩:∃ z,t%i=z:=⟨_,rfl⟩
       have htd:Diag i t↔a=b:=by unfold Diag; rw [ha,hb]
       rw [ha] at e1 e3 e5
       rw [hb] at e2 e4 e6
       have hOC:=hr3.ownI hF3.came
       have iC:=fun w'=>hOC.at.idx t (by rw [tabI_len]; exact htM) w'
       have cC:=hOC.at.cellD t (by rw [tabI_len]; exact htM)
       rw [tabI_get _ _ _ htM] at cC
       have fC:=hOC.frz t (by rw [tabI_len]; exact htM)
       have kC:=(hOC.toV.blkB t (by rw [List.length_map,tabI_len]; exact htM)).2
       obtain ⟨f8,hr8,h8,hf8⟩:=hF3.set hr3 t htM (v:Int)
       obtain ⟨ct,hct⟩:∃ ct,came t=ct:=⟨_,rfl⟩
       rw [hct] at cC
       have hC1:=hC.1 t (by rw [hM.out]; exact htM)
       rw [hct] at hC1
       have hkl2:=Hd hkl
       have hBs:=b3.size
       generalize valAt mv k=ta at *
       generalize valAt (.slice ca cn cc) t=tc at *
       replace ha:=Hd ha
       replace hb:=Hd hb
       replace ht:=Hd ht
       replace hM3:=Hd hM3
       replace hOC:=Hd hOC
       replace hr3:=Hd hr3
       replace hF3:=Hd hF3
       replace hIn:=Hd hIn
       replace hC:=Hd hC
       replace hr8:=Hd hr8
       replace h8:=Hd h8
       replace htk:=Hd htk
       replace htm:=Hd htm
       replace hct:=Hd hct
       replace hC1:=Hd hC1
       by_cases hab:a=b
       ·have hq:((a:Int) != (b:Int))=false:=by rw [bne_eq_false_iff_eq]; omega
        have hq2:((a:Int)==(b:Int))=true:=by rw [beq_iff_eq]; omega
        have htD:=htd.2 hab
        replace htd:=Hd htd
        go_upto_region 17 with fail
        refine wp_region_plan (fun _=>True) 14 [(0,true),(1,true),(2,true),(3,true),(4,true),(5,true),(6,true),(7,true),(8,true),(9,true),(10,true),(11,true),(12,true),(13,true)] (by kernel_rfl) (by kernel_rfl) ?_
        have hS:True:=trivial
        refine pqY 61 hS ?_
        refine pqY 62 hS ?_
        refine pqY 63 hS ?_
        refine pqY 64 hS ?_
        refine pqY 65 hS ?_
        refine pqY 66 hS ?_
        refine pqY 67 hS ?_
        refine pqY 68 hS ?_
        refine pqN 69 hS ?_
        refine pqN 70 hS ?_
        refine pqN 71 hS ?_
        refine pqN 72 hS ?_
        refine pqN 73 hS ?_
        refine pqY 74 hS ?_
        refine head0 ?_
        simp only [List.drop_succ_cons,List.drop_zero]
        clear hS
        go_wp2
        refine NoPanic.normal ?_
        go_upto_region 20 with fail
        refine wp_region_plan (fun _=>True) 10 [(0,true),(1,true),(2,true),(3,true),(4,true),(5,true),(6,true),(7,true),(8,true),(9,true)] (by kernel_rfl) (by kernel_rfl) ?_
        have hS:True:=trivial
        refine pqY 84 hS ?_
        refine pqY 85 hS ?_
        refine pqY 86 hS ?_
        refine pqY 87 hS ?_
        refine pqY 88 hS ?_
        refine pqY 89 hS ?_
        refine pqY 90 hS ?_
        refine pqY 91 hS ?_
        refine pqY 92 hS ?_
        refine pqY 93 hS ?_
        refine head0 ?_
        simp only [List.drop_succ_cons,List.drop_zero]
        clear hS
        cases ap with
        | false =>
         have hvD:Diag i v:=by
          apply Classical.byContradiction
          intro e
          have:=hapd.2 e
          cases this
         have hsk:=hIn.out.skip (.inl ⟨htD,hvD⟩)
         rw [← htk.out] at hsk
         replace hsk:=Hd hsk
         clear hapd
         go_wp2
         refine NoPanic.normal ?_
         go_wp2
         go_roundw
         case measure=>have:=hkl2.out; simp [intOf]; omega
         case rel=>exact ⟨k+1,f3,_,came,q,D,by have:=hkl2.out; omega,by go_num,rfl,hr3.out.drew.drew,b3.drew.drew,hF3.out,hjq,hsk.out,hC.out,by rw [hrs.out,hskip.out (.inl htD)]⟩
        | true =>
         have hvD:¬ Diag i v:=hapd.1 rfl
         obtain ⟨c,hbw,hap1,hap2,hap3⟩:=hIn.out.met hC.out hvD htD (by rw [hM.out]; exact htM) htm.out
         have hmi:MeetIs i (pairL K i T) (c.reverse++[t]):=⟨j,v,k,t,c,hstv.out,by rw [hL.out]; exact ht.out,htD,hvD,by rw [hrm.out]; exact hbw,rfl,hnh.out,fun z x hz hx hd=>(hIn.out.now x (by rw [hL.out] at hx; exact List.mem_of_getElem? (by rw [List.getElem?_take,if_pos hz]; exact hx))).2 hd⟩
         have hDv:D v≤q.length:=hIn.out.bnd v (List.mem_of_getElem? hIn.out.at_)
         have hcl:c.length≤7000:=by
          have:(c.reverse++[t]).length=c.length+1:=by simp
          omega
         have hnx:=hbw.next (by rw [hM.out]; exact hvM)
         have hrc:castI (c.reverse++[t])=(castI (t::c)).reverse:=by rw [← castI_reverse,List.reverse_cons]
         obtain ⟨c',hc'⟩:=hbw.ne
         have hc0:c[0]?=some v:=by rw [hc']; rfl
         have hc1:0<c.length:=by rw [hc']; simp
         obtain ⟨W,hW⟩:∃ W:World,W=wp'.drew.drew:=⟨_,rfl⟩
         have bWp:Below wp'.heap.size wp' W:=by rw [hW]; exact (Below.refl _ _).drew.drew
         have hrW:Rows w.heap.size W f3:=by rw [hW]; exact hr3.out
         have bW:=b3.trans (bWp.mono b3.size)
         have bl:=belowAlloc W (.cells #[.int .i64 t] 3)
         have hlit:=OwnI.lit W.heap.size W (Nat.le_refl _) [(t:Int)] (by simp [maxLen]) #[.int .i64 (t:Int)] rfl 1 rfl
         replace hnx:=Hd hnx
         replace hbw:=Hd hbw
         replace hrc:=Hd hrc
         replace hap1:=Hd hap1
         replace hmi:=Hd hmi
         replace hap2:=Hd hap2
         replace hap3:=Hd hap3
         replace hc':=Hd hc'
         replace hc0:=Hd hc0
         replace hlit:=Hd hlit
         replace hrW:=Hd hrW
         clear hapd iT cT iC cC fC
         go_wp2
         refine NoPanic.normal ?_
         go_upto_region 21 with fail
         rw [← hW]
         replace hW:=Hd hW
         go_wp2_with fail
         go_loopw [12,13] (fun wv uv wr=>∃ (m:Nat) (ww:Value),m≤c.length∧ww=wv∧((m<c.length∧∃ y,c[m]?=some y∧uv=.int .i64 (y:Nat))∨(m=c.length∧uv=.int .i64 (-1)))∧OwnI W.heap.size wr ww (castI (t::c.take m))∧Below W.heap.size W wr) (fun wv _ _=>c.length+1-sliceN wv)
         case atStart=>exact ⟨0,_,by omega,rfl,.inl ⟨hc1,v,hc0.out,rfl⟩,hlit.out,bl⟩
         case round =>
          obtain ⟨m,ww,hm,rfl,hcase,hoW,bWr⟩:=hrel
          obtain ⟨wz,rfl⟩:∃ wo:World,wo=wr:=⟨_,rfl⟩
          have hwl:(castI (t::c.take m)).length=m+1:=by rw [castI_len,List.length_cons,List.length_take]; omega
          have hsn:sliceN ww=m+1:=by rw [sliceN_of hoW.at,hwl]
          rcases hcase with ⟨hmc,y,hy,rfl⟩ | ⟨hmc,rfl⟩
          ·obtain ⟨hyM,hnext⟩:=hnx.out m y hy
           rw [hM.out] at hyM
           have htk2:castI (t::c.take m)++[(y:Int)]=castI (t::c.take (m+1)):=by
            rw [← castI_snoc,List.take_add_one,hy]; rfl
           have hBW:=bWr.size
           replace hnext:=Hd hnext
           replace hy:=Hd hy
           replace hsn:=Hd hsn
           replace htk2:=Hd htk2
           go_wp2_with (at_builtin; go_loud (refine wpl_append1 rfl _ _ rfl W.heap.size ww _ y hoW rfl rfl (by omega) hBW ?_))
           intro v' w7 ho7 b7 _ _
           have bW7:=bWr.trans b7
           have hOC7:=(hrW.out.below bW7).ownI hF3.out.came
           have iY:=fun w'=>hOC7.at.idx y (by rw [tabI_len]; exact hyM) w'
           have cY:=hOC7.at.cellD y (by rw [tabI_len]; exact hyM)
           rw [tabI_get _ _ _ hyM] at cY
           rw [htk2.out] at ho7
           have hl7:(castI (t::c.take (m+1))).length=m+2:=by rw [castI_len,List.length_cons,List.length_take]; omega
           have hs7:sliceN v'=m+2:=by rw [sliceN_of ho7.at,hl7]
           obtain ⟨va,vn,vc,rfl⟩:=ho7.at.shape
           generalize valAt (.slice ca cn cc) y=ya at *
           obtain ⟨z,hz⟩:∃ z,came y=z:=⟨_,rfl⟩
           rw [hz] at cY
           have hnext2:(m+1<c.length∧∃ x,c[m+1]?=some x∧z=(x:Nat))∨(m+1=c.length∧z=-1):=by rw [← hz]; exact hnext.out
           replace ho7:=Hd ho7
           replace hOC7:=Hd hOC7
           replace hz:=Hd hz
           replace hs7:=Hd hs7
           replace hnext2:=Hd hnext2
           clear hoW
           go_wp2
           go_roundw
           case measure=>have:=hs7.out; have:=hsn.out; omega
           case rel =>
            refine ⟨m+1,_,by omega,rfl,?_,ho7.out,bW7⟩
            rcases hnext2.out with ⟨h1,x,h2,h3⟩ | ⟨h1,h2⟩
            ·exact .inl ⟨h1,x,h2,by rw [h3]⟩
            ·exact .inr ⟨h1,by rw [h2]⟩
          ·subst hmc
           rw [List.take_length] at hoW
           replace hoW:=Hd hoW
           replace hsn:=Hd hsn
           go_wp2_with fail
           refine (reverse_own W.heap.size ww _ wz hoW.out (by rw [castI_len,List.length_cons]; omega)).mono ?_
           rintro e w8 ⟨rfl,ho8,b8⟩
           rw [← hrc.out] at ho8
           have bE:=bW.trans ((bWr.trans b8).mono bW.size)
           have ho9:=ho8.mono (B':=w.heap.size) bW.size
           have hlen9:(c.reverse++[t]).length≤20000:=by simp; omega
           obtain ⟨va,vn,vc,rfl⟩:=ho8.at.shape
           replace ho8:=Hd ho8
           replace ho9:=Hd ho9
           go_wp2
           go_ret
           exact ⟨_,rfl,bE,.inl ⟨_,hmi.out,hap1.out,hap3.out,hlen9,ho9.out⟩⟩
       ·have hq:((a:Int) != (b:Int))=true:=by rw [bne_iff_ne]; omega
        have hq2:((a:Int)==(b:Int))=false:=by rw [beq_eq_false_iff_ne]; omega
        have htD:¬ Diag i t:=fun e=>hab (htd.1 e)
        replace htd:=Hd htd
        by_cases hneg:ct<0
        ·obtain rfl:=hC1.out.2 hneg
         have htq:t∉q:=(hC1.out.1.1 (by decide)).resolve_left htD
         have hadd:=hIn.out.add (by rw [hM.out]; exact htM) htD htq
         have hcadd:=hC.out.add hIn.out htD htq htm.out
         rw [← htk.out] at hadd
         replace hadd:=Hd hadd
         replace hcadd:=Hd hcadd
         replace htq:=Hd htq
         go_upto_region 17 with fail
         refine wp_region_plan (fun w'=>w'.cell? tc=some (.int .i64 (-1))) 14 [(0,true),(1,true),(2,true),(3,true),(4,true),(5,true),(6,true),(7,true),(8,true),(9,true),(10,true),(11,true),(12,true),(13,true)] (by kernel_rfl) (by kernel_rfl) ?_
         have hS:wp'.drew.cell? tc=some (.int .i64 (-1)):=cC
         refine pqY 61 hS ?_
         refine pqY 62 hS ?_
         refine pqY 63 hS ?_
         refine pqY 64 hS ?_
         refine pqY 65 hS ?_
         refine pqY 66 hS ?_
         refine pqY 67 hS ?_
         refine pqY 68 hS ?_
         refine pqY 69 hS ?_
         refine pqY 70 hS ?_
         refine pqY 71 hS ?_
         refine pqY 72 hS ?_
         refine pqY 73 hS ?_
         refine pqY 74 hS ?_
         refine head0 ?_
         simp only [List.drop_succ_cons,List.drop_zero]
         clear hS
         have hr8':Rows w.heap.size ((wp'.setCell tc (.int .i64 (v:Int))).drew) f8:=hr8.out
         have b8:Below w.heap.size w ((wp'.setCell tc (.int .i64 (v:Int))).drew):=(b3.setCell kC _).drew
         obtain ⟨W8,hW8⟩:∃ W:World,W=(wp'.setCell tc (.int .i64 (v:Int))).drew:=⟨_,rfl⟩
         rw [← hW8] at hr8' b8
         have hoQ8:=hr8'.ownI h8.out.queue
         have hB8:=b8.size
         have hlq:(castI q).length≤7000:=by rw [castI_len]; omega
         replace hr8':=Hd hr8'
         go_wp2
         refine NoPanic.normal ?_
         go_upto_region 19 with fail
         rw [← hW8]
         replace hW8:=Hd hW8
         go_wp2_with (at_builtin; go_loud (refine wpl_app1 rfl _ _ rfl w.heap.size qv _ t hoQ8 rfl rfl (by omega) hB8 ?_))
         intro qv' w9 ho9 b9 hal9
         obtain ⟨f9,hr9,h9,_⟩:=h8.out.push hr8'.out t ho9 hal9
         obtain ⟨q1,q2,q3,rfl⟩:=ho9.at.shape
         replace hr9:=Hd hr9
         replace ho9:=Hd ho9
         clear hal9 hoQ8
         go_wp2
         go_roundw
         case measure=>have:=hkl2.out; simp [intOf]; omega
         case rel=>exact ⟨k+1,f9,_,_,_,_,by have:=hkl2.out; omega,by go_num,rfl,hr9.out,b8.trans b9,h9,by simp; omega,hadd.out,hcadd.out,by rw [hrs.out,hpush.out htD (by rw [hct.out]; decide)]⟩
        ·obtain ⟨pc,rfl⟩:=Int.eq_ofNat_of_zero_le (show 0≤ct by omega)
         have htq:t∈q:=by
          apply Classical.byContradiction
          intro e
          exact hneg (hC1.out.1.2 (.inr e))
         have hsk:=hIn.out.skip (.inr ⟨htD,htq⟩)
         rw [← htk.out] at hsk
         replace hsk:=Hd hsk
         replace htq:=Hd htq
         go_upto_region 17 with fail
         refine wp_region_plan (fun w'=>w'.cell? tc=some (.int .i64 (pc:Nat))) 14 [(0,true),(1,true),(2,true),(3,true),(4,true),(5,true),(6,true),(7,true),(8,true),(9,true),(10,true),(11,true),(12,true),(13,true)] (by kernel_rfl) (by kernel_rfl) ?_
         have hS:wp'.drew.cell? tc=some (.int .i64 (pc:Nat)):=cC
         refine pqY 61 hS ?_
         refine pqY 62 hS ?_
         refine pqY 63 hS ?_
         refine pqY 64 hS ?_
         refine pqY 65 hS ?_
         refine pqY 66 hS ?_
         refine pqY 67 hS ?_
         refine pqY 68 hS ?_
         refine pqY 69 hS ?_
         refine pqY 70 hS ?_
         refine pqY 71 hS ?_
         refine pqY 72 hS ?_
         refine pqY 73 hS ?_
         refine pqY 74 hS ?_
         refine head0 ?_
         simp only [List.drop_succ_cons,List.drop_zero]
         clear hS
         go_wp2
         refine NoPanic.normal ?_
         go_upto_region 20 with fail
         refine wp_region_plan (fun _=>True) 10 [(0,true),(1,true),(2,true),(3,true),(4,true),(5,true),(6,true),(7,true),(8,true),(9,true)] (by kernel_rfl) (by kernel_rfl) ?_
         have hS:True:=trivial
         refine pqY 84 hS ?_
         refine pqY 85 hS ?_
         refine pqY 86 hS ?_
         refine pqY 87 hS ?_
         refine pqY 88 hS ?_
         refine pqY 89 hS ?_
         refine pqY 90 hS ?_
         refine pqY 91 hS ?_
         refine pqN 92 hS ?_
         refine pqY 93 hS ?_
         refine head0 ?_
         simp only [List.drop_succ_cons,List.drop_zero]
         clear hS
         go_wp2
         refine NoPanic.normal ?_
         go_wp2
         go_roundw
         case measure=>have:=hkl2.out; simp [intOf]; omega
         case rel=>exact ⟨k+1,f3,_,came,q,D,by have:=hkl2.out; omega,by go_num,rfl,hr3.out.drew.drew,b3.drew.drew,hF3.out,hjq,hsk.out,hC.out,by rw [hrs.out,hskip.out (.inr (by rw [hct.out]; omega))]⟩
      ·obtain rfl:k=L.length:=by omega
       rw [List.take_length] at hIn
       have hout:=hIn.leave hL.out.symm
       have hst2:stM i (pairL K i T) (j+1)=(came,q):=by rw [stM_succ hstv.out,hL.out,hrm]
       have hnh2:∀ z,z<j+1→NoHit i (pairL K i T) z:=fun z hz=>by
        by_cases e:z=j
        ·subst e
         intro v' hv' t ht htD
         rw [hstv.out] at hv'
         obtain rfl:=Option.some.inj hv'
         rw [hL.out] at ht
         exact (hIn.now t ht).2 htD
        ·exact hnh.out z (by omega)
       replace hst2:=Hd hst2
       replace hnh2:=Hd hnh2
       replace hout:=Hd hout
       replace hIn:=Hd hIn
       replace hr3:=Hd hr3
       replace hF3:=Hd hF3
       replace hC:=Hd hC
       go_wp2
       go_roundw
       case measure=>simp [intOf]; omega
       case rel=>exact ⟨j+1,f3,_,came,q,D,by omega,by go_num,rfl,hr3.out,b3,hF3.out,hout.out,hC.out,hst2.out,hnh2.out⟩
    ·obtain rfl:j=q.length:=by omega
     have hno:=hO.none (Nat.le_refl _)
     replace hno:=Hd hno
     replace hr2:=Hd hr2
     replace hF2:=Hd hF2
     replace hO:=Hd hO
     replace hC:=Hd hC
     replace hOQ:=Hd hOQ
     go_wp2
     go_ret
     exact ⟨_,rfl,b2,.inr ⟨rfl,hno.out⟩⟩
end Go.Proofs.YtkaoebokbfcmhaaGreatDoor
namespace Go.Proofs.YtkaoebokbfcmhaaGreatDoor
open Go.RowKit
set_option maxRecDepth 100000
theorem Rows.push {B:Nat} {w w1:World} {f:Names} {i:Nat×Nat} {v v':Value} {xs:List Int} (h:Rows B w f) (hi:f i=some (rowI v xs)) (x:Int) (ho:OwnI B w1 v' (xs++[x]))
 (hg:w.grownBy w1 v.ownBlock) (hal:v'.ownBlock=v.ownBlock∨∃ k,v'.ownBlock=some k∧w.heap.size≤k):Rows B w1 (upd f i (some (rowI v' (xs++[x])))) :=
 h.grown (r':=rowI v' (xs++[x])) hi hg ho hal
theorem alongW_snoc (K m:Nat) (F:Nat→Nat) (l:List Nat) (p:Nat) (hl:l≠[]):alongW K m F (l++[p])=alongW K m F l++[((F p%K:Nat):Int)]:=by
 cases l with
 | nil=>exact absurd rfl hl
 | cons a l=>simp [alongW,List.getD]
theorem alongW_one (K m:Nat) (F:Nat→Nat) (p:Nat):alongW K m F [p]=digs K m (F p):=by simp [alongW,List.getD]
theorem pairs_wrong (r:Nat→Addr) (at_ n:Int) (w:World) (hg:Glob r w) (h1:1≤n) (h2:n≤11) :
 Calls Tryz.prog 152 #[.int .i64 at_,.int .i64 n] w (Ret1 (fun v w'=>ErrIs r w' (fresh sPairs at_ n) v) w):=by
 go_enter Tryz.func152,Tryz.ntmps152
 go_wp2_with fail
 refine (new_any r _ at_ n w hg h1 h2).mono ?_
 rintro e w' ⟨v,rfl,hb,he⟩
 go_wp2
 go_ret
 exact ⟨_,rfl,hb,he⟩
def AllFit (K N:Nat) (T:List Int) (ns:List Nat):Prop:=∀ i,i+1<ns.length→StepFits K N T (ns.getD i 0) (ns.getD (i+1) 0)
set_option maxHeartbeats 8000000
def WordsPost (r:Nat→Addr) (w:World) (K R:Nat) (T:List Int) (ns:List Nat) (x y z:Value) (w':World):Prop :=
 (AllFit K (pw K (2*R)) T ns∧z=.nilIface∧OwnI w.heap.size w' x (alongW K (2*R) (·/pw K (2*R)) ns)∧OwnI w.heap.size w' y (alongW K (2*R) (·%pw K (2*R)) ns)∧(x.ownBlock=none∨x.ownBlock≠y.ownBlock)) ∨
 (¬ AllFit K (pw K (2*R)) T ns∧x=.slice none 0 0∧y=.slice none 0 0∧ErrIs r w' (fresh sPairs 1 3) z)
theorem pwords_way (r:Nat→Addr) (K R:Nat) (va:Option Addr) (vn vc:Nat) (T:List Int) (u:Value) (ns:List Nat) (w:World) (hg:Glob r w) (h:IntsAt w (.slice va vn vc) T) (hr:RuleOk K R T) (hl:T.length≤256) (hu:IntsAt w u (castI ns)) (hne:ns≠[]) (hlow:∀ p∈ns,p<pw K (2*wkR R)*pw K (2*wkR R)) (hnl:ns.length≤17592186044000) :
 Calls Tryz.prog 119 #[.agg #[.int .i64 K,.int .i64 R,.slice va vn vc],u] w (Ret3 (WordsPost r w K (wkR R) (wkT K R T) ns) w):=by
 have b0:=belowAlloc w (.cells #[.int .i64 K,.int .i64 R,.slice va vn vc] 24)
 have hk1:=hr.k1
 have hk4:=hr.k4
 have hokW:=wk_ok hr
 have hlW:=wk_small hr hl
 have hRW:=wk_pos R
 have hN81:=nodes_le hokW hRW hlW
 obtain ⟨hdiv,hlen⟩:=hokW.half
 have hR3:=hokW.r3
 have hN1:=pw_pos (K:=K) (2*wkR R) hk1
 have hwork:=fun (w':World) (hgl:Glob r w') (hT:IntsAt w' (.slice va vn vc) T)=>working_ok r K R va vn vc T w' hgl hT hr hl
 have hNodes:=fun (a:Option Addr) (n c:Nat) (w':World) (hgl:Glob r w') (hT:IntsAt w' (.slice a n c) (wkT K R T))=>over_Nodes r K (wkR R) a n c (wkT K R T) w' hgl hT hokW hlW
 have hEdge:=fun (a:Option Addr) (n c u s:Nat) (w':World) (hgl:Glob r w') (hT:IntsAt w' (.slice a n c) (wkT K R T)) (hu:u<pw K (2*wkR R)) (hs:s<K)=>over_Edge r K (wkR R) a n c (wkT K R T) u s w' hgl hT hokW hlW (by rw [hdiv]; exact hu) hs
 rw [hdiv] at hNodes hEdge
 have hpost:=fun (x y z:Value) (w':World)=>@WordsPost r w K (wkR R) (wkT K R T) ns x y z w'
 obtain ⟨m,hm⟩:∃ m,2*wkR R=m:=⟨_,rfl⟩
 unfold WordsPost
 rw [hm] at hNodes hEdge hlow hN81 hN1 hdiv hlen ⊢
 obtain ⟨N,hN⟩:∃ N,pw K m=N:=⟨_,rfl⟩
 rw [hN] at hNodes hEdge hlow hN81 hN1 hdiv hlen ⊢
 generalize wkT K R T=T' at *
 generalize wkR R=R' at *
 clear hpost
 have lu:=hu.len
 obtain ⟨up,hup,hupI⟩:=hu.post 1 (by rw [castI_len]; exact List.length_pos_iff.2 hne)
 have lup:=hupI.len
 have hcl:(castI ns).length=ns.length:=castI_len ns
 have hdl:((castI ns).drop 1).length=ns.length-1:=by rw [List.length_drop,castI_len]
 rw [hdl] at lup
 rw [hcl] at lu
 have hnp:0<ns.length:=List.length_pos_iff.2 hne
 have iU:=fun (i:Nat) (hi:i<ns.length) w'=>hu.idx i (by rw [castI_len]; exact hi) w'
 have cU:=fun (i:Nat) (hi:i<ns.length)=>hu.cellD i (by rw [castI_len]; exact hi)
 have iP:=fun (i:Nat) (hi:i+1<ns.length) w'=>hupI.idx i (by rw [hdl]; omega) w'
 have cP:=fun (i:Nat) (hi:i+1<ns.length)=>hupI.cellD i (by rw [hdl]; omega)
 have gU:∀ i,i<ns.length→(castI ns).getD i 0=((ns.getD i 0:Nat):Int):=fun i hi=>by simp [castI,List.getD,hi]
 have gP:∀ i,i+1<ns.length→((castI ns).drop 1).getD i 0=((ns.getD (i+1) 0:Nat):Int):=fun i hi=>by
  rw [List.getD_eq_getElem?_getD,List.getElem?_drop,Nat.add_comm 1 i,← List.getD_eq_getElem?_getD]; exact gU _ hi
 have cU2:=fun (i:Nat) (hi:i<ns.length)=>(cU i hi).trans (by rw [gU i hi])
 have cP2:=fun (i:Nat) (hi:i+1<ns.length)=>(cP i hi).trans (by rw [gP i hi])
 have hlow2:∀ i,i<ns.length→ns.getD i 0<N*N:=fun i hi=>by
  simp only [List.getD_eq_getElem?_getD,List.getElem?_eq_getElem hi,Option.getD_some]
  exact hlow _ (List.getElem_mem hi)
 have hM6:N*N≤6561:=Nat.mul_le_mul hN81 hN81
 have hokway:decide (0≤idxOf (odd1 ((N*N:Nat):Int)) (castI ns))=false:=by
  rw [decide_eq_false_iff_not,idxOf_neg]
  ·omega
  ·intro x hx
   obtain ⟨p,hp,rfl⟩:=List.mem_map.1 hx
   have:=hlow p hp
   rw [odd1_false]; omega
 have hl0:¬ ns.length=0:=by omega
 have hl1:((ns.length:Int)==0)=false:=by rw [beq_eq_false_iff_ne]; omega
 obtain ⟨ua,un,uc,rfl⟩:=hu.shape
 obtain ⟨pa,pn,pc,rfl⟩:=hupI.shape
 replace hwork:=Hd hwork
 replace hNodes:=Hd hNodes
 replace hEdge:=Hd hEdge
 replace hg:=Hd (hg.below b0)
 replace h:=Hd (h.below b0)
 replace hu:=Hd (hu.below b0)
 replace hokW:=Hd hokW
 replace hr:=Hd hr
 replace hdiv:=Hd hdiv
 replace hlen:=Hd hlen
 replace hm:=Hd hm
 replace hN:=Hd hN
 replace iU:=Hd iU
 replace iP:=Hd iP
 replace cU2:=Hd cU2
 replace cP2:=Hd cP2
 replace hlow2:=Hd hlow2
 replace hlow:=Hd hlow
 replace hokway:=Hd hokway
 replace hne:=Hd hne
 replace hupI:=Hd hupI
 clear cU cP gU gP hdl hcl
 go_enter Tryz.func119,Tryz.ntmps119
 go_wp2_with fail
 refine (hwork.out _ hg.out h.out).mono ?_
 rintro e w1 ⟨x,y,rfl,b1,rfl,a,n,c,rfl,hT1⟩
 have ba:=belowAlloc w1 (.cells #[.int .i64 K,.int .i64 R',.slice a n c] 24)
 have qw:Box3 (w1.alloc (.cells #[.int .i64 K,.int .i64 R',.slice a n c] 24)) w1.heap.size (.int .i64 K) (.int .i64 R') (.slice a n c):=by simp [Box3,go_sem]
 have b12:=Below.step b1 ba
 have hT2:=hT1.below ba
 replace hT1:=Hd hT1
 replace hT2:=Hd hT2
 replace qw:=Hd qw
 go_wp2_with fail
 refine (hNodes.out a n c _ (hg.out.below b12) hT2.out).mono ?_
 rintro e w3 ⟨x,y,rfl,b3,rfl,rfl⟩
 have bb:=belowAlloc w3 (.cells #[.int .i64 N] 3)
 have b34:=Below.step b3 bb
 have b14:=Below.step b12 b34
 have cN:(w3.alloc (.cells #[.int .i64 N] 3)).cell? ⟨w3.heap.size,0,none⟩=some (.int .i64 N):=by simp [go_sem]
 have hcf:=containsFunc_any (.slice ua un uc) (.pointer (some ⟨w3.heap.size,0,none⟩)) 151 (castI ns) (odd1 ((N*N:Nat):Int)) _ (hu.out.below b14) eg_words1 (fun x _=>words1_any x w3.heap.size N _ (by omega) cN)
 replace hcf:=Hd hcf
 replace cN:=Hd cN
 go_wp2_with fail
 refine hcf.out.mono ?_
 rintro e w5 ⟨rfl,hw5⟩
 rw [hokway.out]
 have cN5:=cN.out
 have qw5:=qw.out.below b34
 have hT5:=hT2.out.below b34
 rw [hw5] at b14 cN5 qw5 hT5
 clear hcf cN hw5 bb b34 b3 b12
 have b05:=Below.step b0 b14
 have hg5:=hg.out.below b14
 clear b14
 -- region 8
 obtain ⟨L1,hL1⟩:∃ L1,ns.length=L1+1:=⟨ns.length-1,by omega⟩
 rw [hL1,Nat.add_sub_cancel] at lup
 have hLbig:L1≤17592186044000:=by omega
 have hup1:∀ w',(Instr.slice 22 (.slice ua un uc) (some (.int .i64 1)) none none).run Tryz.prog w'=.ok (.slice pa pn pc) w':=hup
 obtain ⟨p0,hp0⟩:∃ p,ns.getD 0 0=p:=⟨_,rfl⟩
 have hp0l:p0<N*N:=by rw [← hp0]; exact hlow2.out 0 hnp
 have i0:∀ w',(Instr.indexAt 22 (.slice ua un uc) (.int .i64 0)).run Tryz.prog w'=.ok (.pointer (some (valAt (.slice ua un uc) 0))) w':=fun w'=>iU.out 0 hnp w'
 have c0:=cU2.out 0 hnp
 rw [hp0] at c0
 have c05:=(b05.cell (World.block_lt_of_cell? _ _ c0)).trans c0
 have hN0:((N:Int)==0)=false:=by rw [beq_eq_false_iff_ne]; omega
 have hN2:¬ (N:Int)=0:=by omega
 have hN3:¬ N=0:=by omega
 have hK0:((K:Int)==0)=false:=by rw [beq_eq_false_iff_ne]; omega
 have hK1:¬ (K:Int)=0:=by omega
 have hK3:¬ K=0:=by omega
 obtain ⟨d1,d2,d3,d4,d5,d6⟩:=dm p0 N (by omega)
 obtain ⟨u0,hu0⟩:∃ z,p0/N=z:=⟨_,rfl⟩
 obtain ⟨v0,hv0⟩:∃ z,p0%N=z:=⟨_,rfl⟩
 rw [hu0] at d1 d3 d5
 rw [hv0] at d2 d4 d6
 have hu0l:u0<N:=by rw [← hu0]; exact div_lt_of hp0l
 have hv0l:v0<N:=by rw [← hv0]; exact Nat.mod_lt _ (by omega)
 clear c0
 generalize valAt (.slice ua un uc) 0=t0 at *
 replace hL1:=Hd hL1
 replace hp0:=Hd hp0
 replace hu0:=Hd hu0
 replace hv0:=Hd hv0
 replace hT5:=Hd hT5
 replace hg5:=Hd hg5
 go_upto_region 8 with fail
 refine wp_region_plan (fun w'=>w'.cell? t0=some (.int .i64 p0)∧w'.cell? ⟨w3.heap.size,0,none⟩=some (.int .i64 N)) 15 [(0,true),(1,true),(2,true),(3,true),(4,true),(5,true),(7,true),(8,true),(9,true),(10,true),(11,true),(12,true),(6,false),(13,false),(14,true)] (by kernel_rfl) (by kernel_rfl) ?_
 have hS:w5.drew.cell? t0=some (.int .i64 p0)∧w5.drew.cell? ⟨w3.heap.size,0,none⟩=some (.int .i64 N):=⟨c05,cN5⟩
 refine pqY 47 hS ?_
 refine pqY 48 hS ?_
 refine pqY 49 hS ?_
 refine pqY 50 hS ?_
 refine pqY 51 hS ?_
 refine pqY 52 hS ?_
 refine pqY 54 hS ?_
 refine pqY 55 hS ?_
 refine pqY 56 hS ?_
 refine pqY 57 hS ?_
 refine pqY 58 hS ?_
 refine pqY 59 hS ?_
 refine headC rfl (fun KK hK=>?_)
 go_simp
 refine (words2_any K R' u0 w1.heap.size w5.drew hk1 hk4 hR3 (by omega) qw5.1.1 qw5.1.2.1).mono ?_
 rintro e w6 ⟨av,rfl,b6,ho6⟩
 have hS6:w6.cell? t0=some (.int .i64 p0)∧w6.cell? ⟨w3.heap.size,0,none⟩=some (.int .i64 N):=⟨(b6.cell (World.block_lt_of_cell? _ _ hS.1)).trans hS.1,cell_keep b6 hS.2⟩
 have qw6:=qw5.below (w':=w6) (Below.trans ((Below.refl _ _).drew) b6)
 refine hK _ _ hS6 ?_
 clear hK KK
 refine headC rfl (fun KK hK=>?_)
 go_simp
 refine (words2_any K R' v0 w1.heap.size w6 hk1 hk4 hR3 (by omega) qw6.1.1 qw6.1.2.1).mono ?_
 rintro e w7 ⟨bv,rfl,b7,ho7⟩
 have hS7:w7.cell? t0=some (.int .i64 p0)∧w7.cell? ⟨w3.heap.size,0,none⟩=some (.int .i64 N):=⟨(b7.cell (World.block_lt_of_cell? _ _ hS6.1)).trans hS6.1,cell_keep b7 hS6.2⟩
 refine hK _ _ hS7 ?_
 clear hK KK
 refine pqY 12 hS7 ?_
 refine head0 ?_
 simp only [List.drop_succ_cons,List.drop_zero]
 have b56:Below w5.heap.size w5 w6:=Below.trans ((Below.refl _ _).drew) b6
 have b57:=Below.step b56 b7
 rw [hm.out] at ho6 ho7
 have r1:=(Rows.void w5.heap.size w5).add (i:=(1,0)) (r':=rowI av (digs K m u0)) b56 ho6 (fun k hk=>(ho6.lt k hk).1)
 have r2:=r1.add (i:=(2,0)) (r':=rowI bv (digs K m v0)) b7 (ho7.mono b56.size) (fun k hk=>(ho7.lt k hk).1)
 obtain ⟨f,hf⟩:∃ f,f=upd (upd (fun _=>none) (1,0) (some (rowI av (digs K m u0)))) (2,0) (some (rowI bv (digs K m v0))):=⟨_,rfl⟩
 have hfa:f (1,0)=some (rowI av (digs K m u0)):=by rw [hf,upd_ne _ _ (by simp),upd_same]
 have hfb:f (2,0)=some (rowI bv (digs K m v0)):=by rw [hf,upd_same]
 rw [← hf] at r2
 have htk:ns.take 1=[p0]:=by
  cases hns:ns with
  | nil=>exact absurd hns hne.out
  | cons a l=>have:=hp0.out; rw [hns] at this; simp at this; simp [this]
 have ha1:alongW K m (·/N) (ns.take 1)=digs K m u0:=by rw [htk,alongW_one,hu0.out]
 have hb1:alongW K m (·%N) (ns.take 1)=digs K m v0:=by rw [htk,alongW_one,hv0.out]
 rw [← ha1] at hfa
 rw [← hb1] at hfb
 clear hS hS6 hS7 ho6 ho7 r1 hf htk ha1 hb1 qw6 i0 c05 d1 d2 d3 d4 d5 d6
 obtain ⟨aa,an,ac,rfl⟩:=(r2.ownI hfa).at.shape
 obtain ⟨ba',bn,bc,rfl⟩:=(r2.ownI hfb).at.shape
 replace r2:=Hd r2
 replace hfa:=Hd hfa
 replace hfb:=Hd hfb
 replace qw5:=Hd qw5
 replace cN5:=Hd cN5
 go_wp2
 refine NoPanic.normal ?_
 go_wp2_with fail
 clear hup hup1
 go_loopw [12,13,64] (fun xa xb jv wr=>∃ (j:Nat) (f:Names) (va' vb':Value),j≤L1∧jv=.int .i64 j∧va'=xa∧vb'=xb∧Rows w5.heap.size wr f∧Below w5.heap.size w5 wr∧f (1,0)=some (rowI va' (alongW K m (·/N) (ns.take (j+1))))∧f (2,0)=some (rowI vb' (alongW K m (·%N) (ns.take (j+1))))∧(∀ i,i<j→StepFits K N T' (ns.getD i 0) (ns.getD (i+1) 0))) (fun _ _ jv _=>L1-(intOf jv).toNat)
 case atStart=>exact ⟨0,f,_,_,by omega,rfl,rfl,rfl,r2.out,b57,hfa.out,hfb.out,fun i hi=>by omega⟩
 case round =>
  clear hfa hfb r2 b57 b56 b6 b7
  obtain ⟨j,f2,av,bv,hj,rfl,rfl,rfl,hr,bI,hfa,hfb,hfit⟩:=hrel
  obtain ⟨wo,rfl⟩:∃ wo:World,wo=wr:=⟨_,rfl⟩
  have b0o:=b05.trans (bI.mono b05.size)
  by_cases hjl:j<L1
  ·obtain ⟨p,hp⟩:∃ p,ns.getD (j+1) 0=p:=⟨_,rfl⟩
   obtain ⟨pj,hpj⟩:∃ p,ns.getD j 0=p:=⟨_,rfl⟩
   have hll:=hL1.out
   have hjl2:=Hd hjl
   have hpl:p<N*N:=by rw [← hp]; exact hlow2.out (j+1) (by omega)
   have hpjl:pj<N*N:=by rw [← hpj]; exact hlow2.out j (by omega)
   have iJ:=fun w'=>iP.out j (by omega) w'
   have cJ:=cP2.out j (by omega)
   have iI:=fun w'=>iU.out j (by omega) w'
   have cI:=cU2.out j (by omega)
   rw [hp] at cJ
   rw [hpj] at cI
   have cJo:=(b0o.cell (World.block_lt_of_cell? _ _ cJ)).trans cJ
   have cIo:=(b0o.cell (World.block_lt_of_cell? _ _ cI)).trans cI
   have htk:ns.take (j+1+1)=ns.take (j+1)++[p]:=by
    rw [List.take_add_one,List.getElem?_eq_getElem (show j+1<ns.length by omega)]
    have:ns[j+1]'(by omega)=p:=by rw [← hp]; simp [List.getD,show j+1<ns.length by omega]
    rw [this]; rfl
   have htn:ns.take (j+1)≠[]:=by
    intro e
    have:=congrArg List.length e
    rw [List.length_take,List.length_nil] at this; omega
   have haS:=alongW_snoc K m (·/N) (ns.take (j+1)) p htn
   have hbS:=alongW_snoc K m (·%N) (ns.take (j+1)) p htn
   rw [← htk] at haS hbS
   obtain ⟨d1,d2,d3,d4,d5,d6⟩:=dm p N (by omega)
   obtain ⟨u1,hu1⟩:∃ z,p/N=z:=⟨_,rfl⟩
   obtain ⟨v1,hv1⟩:∃ z,p%N=z:=⟨_,rfl⟩
   rw [hu1] at d1 d3 d5 haS
   rw [hv1] at d2 d4 d6 hbS
   have hu1l:u1<N:=by rw [← hu1]; exact div_lt_of hpl
   have hv1l:v1<N:=by rw [← hv1]; exact Nat.mod_lt _ (by omega)
   obtain ⟨g1,g2,g3,g4,g5,g6⟩:=dm pj N (by omega)
   obtain ⟨uj,huj⟩:∃ z,pj/N=z:=⟨_,rfl⟩
   obtain ⟨vj,hvj⟩:∃ z,pj%N=z:=⟨_,rfl⟩
   rw [huj] at g1 g3 g5
   rw [hvj] at g2 g4 g6
   have hujl:uj<N:=by rw [← huj]; exact div_lt_of hpjl
   have hvjl:vj<N:=by rw [← hvj]; exact Nat.mod_lt _ (by omega)
   obtain ⟨_,x2,_,x4,_,x6⟩:=dm u1 K (by omega)
   obtain ⟨_,z2,_,z4,_,z6⟩:=dm v1 K (by omega)
   obtain ⟨s,hs⟩:∃ z,u1%K=z:=⟨_,rfl⟩
   obtain ⟨t,ht⟩:∃ z,v1%K=z:=⟨_,rfl⟩
   rw [hs] at x2 x4 x6 haS
   rw [ht] at z2 z4 z6 hbS
   have hsl:s<K:=by rw [← hs]; exact Nat.mod_lt _ (by omega)
   have htl:t<K:=by rw [← ht]; exact Nat.mod_lt _ (by omega)
   have hstep:StepFits K N T' pj p↔toN K N uj s=u1∧toN K N vj t=v1∧labN K T' uj s=labN K T' vj t:=by
    unfold StepFits; rw [hu1,hv1,huj,hvj,hs,ht]
   have qwo:=qw5.out.below bI
   have cNo:=cell_keep bI cN5.out
   clear cJ cI
   generalize valAt (.slice pa pn pc) j=tj at *
   generalize valAt (.slice ua un uc) j=ti at *
   have hoa:=hr.ownI hfa
   have hob:=hr.ownI hfb
   have hm6:m≤6:=by have:=hm.out; omega
   have hLa:(alongW K m (·/N) (ns.take (j+1))).length≤17592186044100:=by rw [alongW_len,List.length_take]; omega
   have hLb:(alongW K m (·%N) (ns.take (j+1))).length≤17592186044100:=by rw [alongW_len,List.length_take]; omega
   replace hp:=Hd hp
   replace hpj:=Hd hpj
   replace hll:=Hd hll
   replace htk:=Hd htk
   replace htn:=Hd htn
   replace haS:=Hd haS
   replace hbS:=Hd hbS
   replace hu1:=Hd hu1
   replace hv1:=Hd hv1
   replace huj:=Hd huj
   replace hvj:=Hd hvj
   replace hs:=Hd hs
   replace ht:=Hd ht
   replace hstep:=Hd hstep
   replace hfit:=Hd hfit
   replace hr:=Hd hr
   replace hfa:=Hd hfa
   replace hfb:=Hd hfb
   replace hoa:=Hd hoa
   replace hob:=Hd hob
   go_upto_region 12 with fail
   refine wp_region_plan (fun w'=>w'.cell? ⟨w1.heap.size,0,none⟩=some (.int .i64 K)∧w'.cell? ⟨w3.heap.size,0,none⟩=some (.int .i64 N)) 13 [(0,true),(1,true),(2,true),(3,true),(4,true),(5,true),(6,true),(7,true),(8,true),(9,true),(10,true),(11,true),(12,true)] (by kernel_rfl) (by kernel_rfl) ?_
   have hS:wo.drew.cell? ⟨w1.heap.size,0,none⟩=some (.int .i64 K)∧wo.drew.cell? ⟨w3.heap.size,0,none⟩=some (.int .i64 N):=⟨qwo.1.1,cNo⟩
   refine pqY 69 hS ?_
   refine pqY 70 hS ?_
   refine pqY 71 hS ?_
   refine pqY 72 hS ?_
   refine pqY 73 hS ?_
   refine pqY 74 hS ?_
   refine pqY 75 hS ?_
   refine pqY 76 hS ?_
   refine pqY 77 hS ?_
   refine pqY 78 hS ?_
   refine pqY 79 hS ?_
   refine pqY 80 hS ?_
   refine pqY 16 hS ?_
   refine head0 ?_
   simp only [List.drop_succ_cons,List.drop_zero]
   clear hS
   go_wp2
   refine NoPanic.normal ?_
   go_upto_region 13 with fail
   refine wp_region_plan (fun w'=>w'.cell? ⟨w1.heap.size,0,none⟩=some (.int .i64 K)∧w'.cell? ⟨w1.heap.size,1,none⟩=some (.int .i64 R')∧w'.cell? ⟨w1.heap.size,2,none⟩=some (.slice a n c)∧w'.cell? ⟨w3.heap.size,0,none⟩=some (.int .i64 N)∧w'.cell? ti=some (.int .i64 pj)) 15 [(0,true),(1,true),(2,true),(3,true),(4,true),(5,true),(6,true),(7,true),(8,false),(9,true),(10,true),(11,true),(12,true),(13,true),(14,true)] (by kernel_rfl) (by kernel_rfl) ?_
   have hS:wo.drew.drew.cell? ⟨w1.heap.size,0,none⟩=some (.int .i64 K)∧wo.drew.drew.cell? ⟨w1.heap.size,1,none⟩=some (.int .i64 R')∧wo.drew.drew.cell? ⟨w1.heap.size,2,none⟩=some (.slice a n c)∧wo.drew.drew.cell? ⟨w3.heap.size,0,none⟩=some (.int .i64 N)∧wo.drew.drew.cell? ti=some (.int .i64 pj):=⟨qwo.1.1,qwo.1.2.1,qwo.1.2.2,cNo,cIo⟩
   refine pqY 82 hS ?_
   refine pqY 83 hS ?_
   refine pqY 84 hS ?_
   refine pqY 85 hS ?_
   refine pqY 86 hS ?_
   refine pqY 87 hS ?_
   refine pqY 88 hS ?_
   refine pqY 89 hS ?_
   refine headC rfl (fun KK hK=>?_)
   go_simp
   refine (hEdge.out a n c uj s wo.drew.drew (hg5.out.below bI.drew.drew) (hT5.out.below bI.drew.drew) hujl hsl).mono ?_
   rintro e w6 ⟨x,y,z,rfl,b6,rfl,rfl,rfl⟩
   obtain ⟨X1,hX1⟩:∃ X,toN K N uj s=X:=⟨_,rfl⟩
   obtain ⟨O1,hO1⟩:∃ X,labN K T' uj s=X:=⟨_,rfl⟩
   rw [hX1,hO1]
   have bo6:Below wo.heap.size wo w6:=Below.trans ((Below.refl _ _).drew.drew) b6
   have hS6:w6.cell? ⟨w1.heap.size,0,none⟩=some (.int .i64 K)∧w6.cell? ⟨w1.heap.size,1,none⟩=some (.int .i64 R')∧w6.cell? ⟨w1.heap.size,2,none⟩=some (.slice a n c)∧w6.cell? ⟨w3.heap.size,0,none⟩=some (.int .i64 N)∧w6.cell? ti=some (.int .i64 pj):=⟨cell_keep b6 hS.1,cell_keep b6 hS.2.1,cell_keep b6 hS.2.2.1,cell_keep b6 hS.2.2.2.1,(b6.cell (World.block_lt_of_cell? _ _ hS.2.2.2.2)).trans hS.2.2.2.2⟩
   refine hK _ _ hS6 ?_
   clear hK KK
   refine pqY 81 hS6 ?_
   refine pqY 91 hS6 ?_
   refine pqY 92 hS6 ?_
   refine pqY 93 hS6 ?_
   refine pqY 18 hS6 ?_
   refine pqY 19 hS6 ?_
   refine head0 ?_
   simp only [List.drop_succ_cons,List.drop_zero]
   have bI6:=bI.trans (bo6.mono bI.size)
   have hS6':=Hd hS6
   clear hS hS6
   go_wp2
   refine NoPanic.normal ?_
   go_upto_region 14 with fail
   refine wp_region_plan (fun w'=>w'.cell? ⟨w1.heap.size,0,none⟩=some (.int .i64 K)∧w'.cell? ⟨w1.heap.size,1,none⟩=some (.int .i64 R')∧w'.cell? ⟨w1.heap.size,2,none⟩=some (.slice a n c)∧w'.cell? ⟨w3.heap.size,0,none⟩=some (.int .i64 N)∧w'.cell? ti=some (.int .i64 pj)) 15 [(0,true),(1,true),(2,true),(3,true),(4,true),(5,true),(6,true),(7,true),(8,false),(9,true),(10,true),(11,true),(12,true),(13,true),(14,true)] (by kernel_rfl) (by kernel_rfl) ?_
   have hS:w6.drew.cell? ⟨w1.heap.size,0,none⟩=some (.int .i64 K)∧w6.drew.cell? ⟨w1.heap.size,1,none⟩=some (.int .i64 R')∧w6.drew.cell? ⟨w1.heap.size,2,none⟩=some (.slice a n c)∧w6.drew.cell? ⟨w3.heap.size,0,none⟩=some (.int .i64 N)∧w6.drew.cell? ti=some (.int .i64 pj):=hS6'.out
   refine pqY 95 hS ?_
   refine pqY 96 hS ?_
   refine pqY 97 hS ?_
   refine pqY 98 hS ?_
   refine pqY 99 hS ?_
   refine pqY 100 hS ?_
   refine pqY 101 hS ?_
   refine pqY 102 hS ?_
   refine headC rfl (fun KK hK=>?_)
   go_simp
   refine (hEdge.out a n c vj t w6.drew (hg5.out.below bI6.drew) (hT5.out.below bI6.drew) hvjl htl).mono ?_
   rintro e w7 ⟨x,y,z,rfl,b7,rfl,rfl,rfl⟩
   obtain ⟨X2,hX2⟩:∃ X,toN K N vj t=X:=⟨_,rfl⟩
   obtain ⟨O2,hO2⟩:∃ X,labN K T' vj t=X:=⟨_,rfl⟩
   rw [hX2,hO2]
   have b67:Below w6.heap.size w6 w7:=Below.trans ((Below.refl _ _).drew) b7
   have bo7:=Below.step bo6 b67
   have bI7:=bI.trans (bo7.mono bI.size)
   have hS7:w7.cell? ⟨w1.heap.size,0,none⟩=some (.int .i64 K)∧w7.cell? ⟨w1.heap.size,1,none⟩=some (.int .i64 R')∧w7.cell? ⟨w1.heap.size,2,none⟩=some (.slice a n c)∧w7.cell? ⟨w3.heap.size,0,none⟩=some (.int .i64 N)∧w7.cell? ti=some (.int .i64 pj):=⟨cell_keep b7 hS.1,cell_keep b7 hS.2.1,cell_keep b7 hS.2.2.1,cell_keep b7 hS.2.2.2.1,(b7.cell (World.block_lt_of_cell? _ _ hS.2.2.2.2)).trans hS.2.2.2.2⟩
   refine hK _ _ hS7 ?_
   clear hK KK
   refine pqY 94 hS7 ?_
   refine pqY 104 hS7 ?_
   refine pqY 105 hS7 ?_
   refine pqY 106 hS7 ?_
   refine pqY 21 hS7 ?_
   refine pqY 22 hS7 ?_
   refine head0 ?_
   simp only [List.drop_succ_cons,List.drop_zero]
   obtain ⟨k0,k1,k2,k3,k4⟩:=hS7
   clear hS hS6' cIo cJo k0 k1 k2 k4 cNo
   rw [hX1,hO1,hX2,hO2] at hstep
   replace hX1:=Hd hX1
   replace hX2:=Hd hX2
   replace hO1:=Hd hO1
   replace hO2:=Hd hO2
   go_wp2
   refine NoPanic.normal ?_
   by_cases e1:X1=u1
   ·have q1:((X1:Int) != (u1:Int))=false:=by rw [bne_eq_false_iff_eq]; omega
    by_cases e2:X2=v1
    ·have q2:((X2:Int) != (v1:Int))=false:=by rw [bne_eq_false_iff_eq]; omega
     by_cases e3:O1=O2
     ·have q3:(O1 != O2)=false:=by rw [bne_eq_false_iff_eq]; exact e3
      have hnow:=hstep.out.2 ⟨e1,e2,e3⟩
      have hr7:=hr.out.below bo7
      have hoa7:=hoa.out.below bo7
      have hB7:=bI7.size
      replace e1:=Hd e1
      replace e2:=Hd e2
      replace e3:=Hd e3
      replace hr7:=Hd hr7
      go_wp2_with (at_builtin; go_loud (refine wpl_append1 rfl _ _ rfl w5.heap.size av _ s hoa7 rfl rfl (by omega) hB7 ?_))
      intro av2 w8 ho8 b8 hgr8 hal8
      have hr8:=hr7.out.push hfa.out (s:Int) ho8 hgr8 hal8
      have hfb8:upd f2 (1,0) (some (rowI av2 (alongW K m (·/N) (ns.take (j+1))++[(s:Int)]))) (2,0)=some (rowI bv (alongW K m (·%N) (ns.take (j+1)))):=by rw [upd_ne _ _ (by simp)]; exact hfb.out
      have hob8:=hr8.ownI hfb8
      have hB8:w5.heap.size≤w8.heap.size:=Nat.le_trans hB7 b8.size
      obtain ⟨a2a,a2n,a2c,rfl⟩:=ho8.at.shape
      replace hr8:=Hd hr8
      replace ho8:=Hd ho8
      clear hgr8 hal8 hoa7
      go_wp2_with (at_builtin; go_loud (refine wpl_append1 rfl _ _ rfl w5.heap.size bv _ t hob8 rfl rfl (by omega) hB8 ?_))
      intro bv2 w9 ho9 b9 hgr9 hal9
      have hr9:=hr8.out.push hfb8 (t:Int) ho9 hgr9 hal9
      obtain ⟨b2a,b2n,b2c,rfl⟩:=ho9.at.shape
      replace hr9:=Hd hr9
      replace ho9:=Hd ho9
      replace hfb8:=Hd hfb8
      clear hgr9 hal9 hob8
      go_wp2
      go_roundw
      case measure=>have:=hjl2.out; simp [intOf]; omega
      case rel =>
       refine ⟨j+1,_,_,_,by have:=hjl2.out; omega,by go_num,rfl,rfl,hr9.out,bI7.trans (b8.trans b9),?_,?_,fun i hi=>?_⟩
       ·rw [upd_ne _ _ (by simp),upd_same,haS.out]
       ·rw [upd_same,hbS.out]
       ·by_cases e:i=j
        ·subst e; rw [hpj.out,hp.out]; exact hnow
        ·exact hfit.out i (by omega)
     ·have q3:(O1 != O2)=true:=by rw [bne_iff_ne]; exact e3
      have hnow:¬ AllFit K N T' ns:=fun hA=>by
       have:=hA j (by have:=hll.out; have:=hjl2.out; omega)
       rw [hpj.out,hp.out,hstep.out] at this
       exact e3 this.2.2
      replace hnow:=Hd hnow
      go_wp2_with fail
      refine (pairs_wrong r _ _ w7 (hg5.out.below bI7) (by decide) (by decide)).mono ?_
      rintro e w8 ⟨x,rfl,b8,he⟩
      replace he:=Hd he
      have bE:=Below.step (b05.trans (bI7.mono b05.size)) b8
      go_wp2
      go_ret3
      exact ⟨_,_,_,rfl,bE,.inr ⟨hnow.out,rfl,rfl,he.out⟩⟩
    ·have q2:((X2:Int) != (v1:Int))=true:=by rw [bne_iff_ne]; omega
     have hnow:¬ AllFit K N T' ns:=fun hA=>by
      have:=hA j (by have:=hll.out; have:=hjl2.out; omega)
      rw [hpj.out,hp.out,hstep.out] at this
      exact e2 this.2.1
     replace hnow:=Hd hnow
     go_wp2_with fail
     refine (pairs_wrong r _ _ w7 (hg5.out.below bI7) (by decide) (by decide)).mono ?_
     rintro e w8 ⟨x,rfl,b8,he⟩
     replace he:=Hd he
     have bE:=Below.step (b05.trans (bI7.mono b05.size)) b8
     go_wp2
     go_ret3
     exact ⟨_,_,_,rfl,bE,.inr ⟨hnow.out,rfl,rfl,he.out⟩⟩
   ·have q1:((X1:Int) != (u1:Int))=true:=by rw [bne_iff_ne]; omega
    have hnow:¬ AllFit K N T' ns:=fun hA=>by
     have:=hA j (by have:=hll.out; have:=hjl2.out; omega)
     rw [hpj.out,hp.out,hstep.out] at this
     exact e1 this.1
    replace hnow:=Hd hnow
    go_wp2_with fail
    refine (pairs_wrong r _ _ w7 (hg5.out.below bI7) (by decide) (by decide)).mono ?_
    rintro e w8 ⟨x,rfl,b8,he⟩
    replace he:=Hd he
    have bE:=Below.step (b05.trans (bI7.mono b05.size)) b8
    go_wp2
    go_ret3
    exact ⟨_,_,_,rfl,bE,.inr ⟨hnow.out,rfl,rfl,he.out⟩⟩
  ·obtain rfl:j=L1:=by omega
   have hall:ns.take (j+1)=ns:=List.take_of_length_le (by have:=hL1.out; omega)
   rw [hall] at hfa hfb
   have hoa:=hr.ownI hfa
   have hob:=hr.ownI hfb
   have hdis:=hr.2 (1,0) (2,0) _ _ hfa hfb (by simp)
   have hAll:AllFit K N T' ns:=fun i hi=>hfit i (by have:=hL1.out; omega)
   have hoa':=hoa.mono (B':=w.heap.size) b05.size
   have hob':=hob.mono (B':=w.heap.size) b05.size
   obtain ⟨a2a,a2n,a2c,rfl⟩:=hoa.at.shape
   obtain ⟨b2a,b2n,b2c,rfl⟩:=hob.at.shape
   replace hr:=Hd hr
   replace hfa:=Hd hfa
   replace hfb:=Hd hfb
   replace hoa:=Hd hoa
   replace hob:=Hd hob
   replace hoa':=Hd hoa'
   replace hob':=Hd hob'
   replace hdis:=Hd hdis
   replace hAll:=Hd hAll
   replace hfit:=Hd hfit
   go_wp2
   go_ret3
   exact ⟨_,_,_,rfl,b0o,.inl ⟨hAll.out,rfl,hoa'.out,hob'.out,hdis.out⟩⟩
end Go.Proofs.YtkaoebokbfcmhaaGreatDoor
namespace Go.Proofs.YtkaoebokbfcmhaaGreatDoor
open Go.RowKit
def Ret4 (Φ:Value→Value→Value→Value→World→Prop) (w:World) (e:Ending) (w':World):Prop:=∃ x y z u,e=.returned (.tuple #[x,y,z,u])∧Below w.heap.size w w'∧Φ x y z u w'
theorem results_tmp4 {fn:Func} {t u v x:Tmp} (h:fn.results=#[.tmp t,.tmp u,.tmp v,.tmp x]) (tmps:Array Value) (P:Program) (w:World) :
 (results fn tmps).run P w=.ok (.tuple #[tmps.getD t undef,tmps.getD u undef,tmps.getD v undef,tmps.getD x undef]) w:=by
 simp [results,h]
set_option maxRecDepth 100000
set_option maxHeartbeats 8000000
def FinPost (w:World) (K R:Nat) (T:List Int) (yes a b e:Value) (w':World):Prop :=
 e=.nilIface∧((yes=.bool true∧a=.slice none 0 0∧b=.slice none 0 0∧∀ x y,¬ IsTwins K R T x y) ∨
 (yes=.bool false∧∃ x y,FinIs K R T x y∧IsTwins K R T x y∧TwinLen K R T x.length∧x.length≤20010∧OwnI w.heap.size w' a x∧OwnI w.heap.size w' b y∧(a.ownBlock=none∨a.ownBlock≠b.ownBlock)))
theorem finite_zero (r:Nat→Addr) (K:Nat) (va:Option Addr) (vn vc:Nat) (T:List Int) (w:World) (hg:Glob r w) (h:IntsAt w (.slice va vn vc) T) (hr:RuleOk K 0 T) (hl:T.length≤256) :
 Calls Tryz.prog 67 #[.agg #[.int .i64 K,.int .i64 ((0:Nat):Int),.slice va vn vc]] w (Ret4 (FinPost w K 0 T) w):=by
 have b0:=belowAlloc w (.cells #[.int .i64 K,.int .i64 ((0:Nat):Int),.slice va vn vc] 24)
 have q:Box3 (w.alloc (.cells #[.int .i64 K,.int .i64 ((0:Nat):Int),.slice va vn vc] 24)) w.heap.size (.int .i64 K) (.int .i64 ((0:Nat):Int)) (.slice va vn vc):=by simp [Box3,go_sem]
 have hTK:T.length=K:=by rw [hr.len]; simp [pw]
 have hgraph:=fun (w':World) (hgl:Glob r w') (hT:IntsAt w' (.slice va vn vc) T)=>pgraph_ok r K 0 va vn vc T w' hgl hT hr hl
 replace hgraph:=Hd hgraph
 replace hTK:=Hd hTK
 replace hg:=Hd (hg.below b0)
 replace h:=Hd (h.below b0)
 replace hr:=Hd hr
 go_enter Tryz.func67,Tryz.ntmps67
 go_wp2_with fail
 refine (hgraph.out _ hg.out h.out).mono ?_
 rintro e w1 ⟨gv,y,rfl,b1,rfl,-⟩
 obtain ⟨⟨z0,z1,z2⟩,-,-,-⟩:=q.below b1
 have b01:=Below.step b0 b1
 have hs:=b01.size
 go_wp2_with fail
 refine (single_any K ((0:Nat):Int) va vn vc T w1 (h.out.below b1)).mono ?_
 rintro e w2 ⟨x,y,rfl,b2,hp⟩
 have b02:=Below.step b01 b2
 rcases hp with ⟨a,b,hsi,hoa,hob,hd⟩ | ⟨rfl,rfl,hno⟩
 ·have lx:=hoa.at.len
  obtain ⟨x1,x2,x3,rfl⟩:=hoa.at.shape
  obtain ⟨y1,y2,y3,rfl⟩:=hob.at.shape
  have htw:=hsi.twins hTK.out
  have htl:TwinLen K 0 T [(a:Int)].length:=⟨⟨_,_,htw,rfl⟩,fun c d hcd=>twins_pos hcd⟩
  replace hsi:=Hd hsi
  replace hoa:=Hd hoa
  replace hob:=Hd hob
  replace hd:=Hd hd
  replace htw:=Hd htw
  replace htl:=Hd htl
  clear z0 z1 z2
  go_wp2
  (try simp only [Exit.inBlock,Exit.then])
  refine bodyPost_ret (results_tmp4 rfl _ _ _) rfl ?_
  exact ⟨_,_,_,_,rfl,b02,rfl,.inr ⟨rfl,_,_,.inl ⟨rfl,a,b,hsi.out,rfl,rfl⟩,htw.out,htl.out,by simp,hoa.out.mono hs,hob.out.mono hs,hd.out⟩⟩
 ·have hn:=no_single (K:=K) hTK.out hno
  replace hn:=Hd hn
  clear hno z0 z1 z2
  go_wp2
  (try simp only [Exit.inBlock,Exit.then])
  refine bodyPost_ret (results_tmp4 rfl _ _ _) rfl ?_
  exact ⟨_,_,_,_,rfl,b02,rfl,.inl ⟨rfl,rfl,rfl,hn.out⟩⟩
theorem finite_pos (r:Nat→Addr) (K R:Nat) (va:Option Addr) (vn vc:Nat) (T:List Int) (w:World) (hg:Glob r w) (h:IntsAt w (.slice va vn vc) T) (hr:RuleOk K R T) (hl:T.length≤256) (hR:1≤R) :
 Calls Tryz.prog 67 #[.agg #[.int .i64 K,.int .i64 R,.slice va vn vc]] w (Ret4 (FinPost w K R T) w):=by
 have b0:=belowAlloc w (.cells #[.int .i64 K,.int .i64 R,.slice va vn vc] 24)
 have q:Box3 (w.alloc (.cells #[.int .i64 K,.int .i64 R,.slice va vn vc] 24)) w.heap.size (.int .i64 K) (.int .i64 R) (.slice va vn vc):=by simp [Box3,go_sem]
 have hk1:=hr.k1
 have hk4:=hr.k4
 have hR3:=hr.r3
 have hN81:=nodes_le hr hR hl
 have hN1:=pw_pos (K:=K) (2*R) hk1
 have hwR:wkR R=R:=if_neg (by omega)
 have hwT:wkT K R T=T:=if_neg (by omega)
 have hgraph:=fun (w':World) (hgl:Glob r w') (hT:IntsAt w' (.slice va vn vc) T)=>pgraph_ok r K R va vn vc T w' hgl hT hr hl
 have hwords:=fun (u:Value) (ns:List Nat) (w':World) (hgl:Glob r w') (hT:IntsAt w' (.slice va vn vc) T)=>pwords_way r K R va vn vc T u ns w' hgl hT hr hl
 rw [hwR,hwT] at hgraph hwords
 have hmeet:=fun (ga:Option Addr) (gc:Nat) (w':World)=>meet_any K (pw K (2*R)) T ga gc w' hk4 hN1 hN81
 have hR0:((R:Int)==0)=false:=by rw [beq_eq_false_iff_ne]; omega
 have hR1:¬ (R:Int)=0:=by omega
 have hR2:¬ R=0:=by omega
 have hR22:=Hd hR2
 have hRR:=Hd hR
 replace hgraph:=Hd hgraph
 replace hwords:=Hd hwords
 replace hmeet:=Hd hmeet
 replace hg:=Hd (hg.below b0)
 replace h:=Hd (h.below b0)
 replace hr:=Hd hr
 clear hwR hwT
 go_enter Tryz.func67,Tryz.ntmps67
 go_wp2_with fail
 refine (hgraph.out _ hg.out h.out).mono ?_
 rintro e w1 ⟨gv,y,rfl,b1,rfl,f,vals,hrows,hwn⟩
 have hL:ListsAt w1 gv (pairG K (pw K (2*R)) T):=hwn.lists hrows
 obtain ⟨ga,gc,rfl⟩:=hL.shape
 obtain ⟨⟨z0,z1,z2⟩,-,-,-⟩:=q.below b1
 have b01:=Below.step b0 b1
 replace hL:=Hd hL
 clear hrows hwn
 go_wp2_with fail
 refine (hmeet.out ga gc w1 hL.out).mono ?_
 rintro e w2 ⟨mv,rfl,b2,hp⟩
 have b12:=Below.step b1 b2
 have b02:=Below.step b01 b2
 clear z0 z1 z2
 obtain ⟨⟨z0,z1,z2⟩,-,-,-⟩:=q.below b12
 rcases hp with ⟨ws,hmi,haw,hmin,hws,how⟩ | ⟨rfl,hno⟩
 ·have hw3:=haw.len
  have hlow:∀ p∈ws,p<pw K (2*R)*pw K (2*R):=fun p hp=>by
   obtain ⟨i,hi,rfl⟩:=List.mem_iff_getElem.1 hp
   have:=haw.low i hi
   simpa [List.getD,hi] using this
  have hne:ws≠[]:=by intro e; rw [e] at hw3; simp at hw3
  have hfit:AllFit K (pw K (2*R)) T ws:=fun i hi=>(fits_iff hk1 hR (haw.low _ hi)).2 ((mem_pairL (by omega)).1 (haw.arr i hi))
  have htw:=haw.twins hk1 hR
  have htl:=way_twinLen hk1 hR haw hmin
  have lm:=how.at.len
  rw [castI_len] at lm
  have hln:(((ws.length:Nat):Int)==0)=false:=by rw [beq_eq_false_iff_ne]; omega
  have hln2:¬ ((ws.length:Nat):Int)=0:=by omega
  have hln3:¬ ws.length=0:=by omega
  obtain ⟨m1,m2,m3,rfl⟩:=how.at.shape
  replace hmi:=Hd hmi
  replace haw:=Hd haw
  replace hlow:=Hd hlow
  replace hne:=Hd hne
  replace hfit:=Hd hfit
  replace htw:=Hd htw
  replace htl:=Hd htl
  replace how:=Hd how
  have hws2:=Hd hws
  clear hmin
  go_wp2_with fail
  refine (hwords.out _ ws w2 (hg.out.below b12) (h.out.below b12) how.out.at hne.out hlow.out (by have:=hws2.out; omega)).mono ?_
  rintro e w3 ⟨x,y,z,rfl,b3,hpo⟩
  rcases hpo with ⟨_,rfl,hox,hoy,hd⟩ | ⟨hnf,_⟩
  ·obtain ⟨x1,x2,x3,rfl⟩:=hox.at.shape
   obtain ⟨y1,y2,y3,rfl⟩:=hoy.at.shape
   have hs:=b02.size
   replace hox:=Hd hox
   replace hoy:=Hd hoy
   replace hd:=Hd hd
   clear z0 z1 z2
   go_wp2
   (try simp only [Exit.inBlock,Exit.then])
   refine bodyPost_ret (results_tmp4 rfl _ _ _) rfl ?_
   refine ⟨_,_,_,_,rfl,Below.step b02 b3,rfl,.inr ⟨rfl,_,_,.inr ⟨hR22.out,ws,hmi.out,rfl,rfl⟩,htw.out,?_,?_,hox.out.mono hs,hoy.out.mono hs,hd.out⟩⟩
   ·rw [alongW_len]; exact htl.out
   ·rw [alongW_len]; have:=hws2.out; omega
  ·exact absurd hfit.out hnf
 ·have hn:=no_twins (K:=K) (R:=R) (T:=T) hk1 hR hno
  replace hn:=Hd hn
  clear hno z0 z1 z2
  go_wp2
  (try simp only [Exit.inBlock,Exit.then])
  refine bodyPost_ret (results_tmp4 rfl _ _ _) rfl ?_
  exact ⟨_,_,_,_,rfl,b02,rfl,.inl ⟨rfl,rfl,rfl,hn.out⟩⟩
theorem finite_ok (r:Nat→Addr) (K R:Nat) (va:Option Addr) (vn vc:Nat) (T:List Int) (w:World) (hg:Glob r w) (h:IntsAt w (.slice va vn vc) T) (hr:RuleOk K R T) (hl:T.length≤256) :
 Calls Tryz.prog 67 #[.agg #[.int .i64 K,.int .i64 R,.slice va vn vc]] w (Ret4 (FinPost w K R T) w):=by
 by_cases e:R=0
 ·subst e; exact finite_zero r K va vn vc T w hg h hr hl
 ·exact finite_pos r K R va vn vc T w hg h hr hl (by omega)
end Go.Proofs.YtkaoebokbfcmhaaGreatDoor
namespace Go.Proofs.YtkaoebokbfcmhaaGreatDoor
open Go.RowKit
set_option maxRecDepth 100000
theorem eca_ok (n:Nat):RuleOk 2 1 (ecaT n):=by
 refine ⟨by decide,by decide,by decide,?_,?_⟩
 ·simp [ecaT,pw]
 ·intro x hx
  simp only [ecaT,List.mem_map] at hx
  obtain ⟨i,_,rfl⟩:=hx
  have:=Nat.and_le_right (n:=n >>> i) (m:=1)
  constructor<;>omega
theorem eca_len (n:Nat):(ecaT n).length=8:=by simp [ecaT]
theorem on90:∃ a b,subR 2 (pw 2 (2*1)) (ecaT 90)=.on a b:=by
 have h:(match subR 2 (pw 2 (2*1)) (ecaT 90) with | .on _ _=>true | _=>false)=true:=by decide +kernel
 cases hh:subR 2 (pw 2 (2*1)) (ecaT 90) with
 | on a b=>exact ⟨a,b,rfl⟩
 | orphan w=>rw [hh] at h; cases h
 | big=>rw [hh] at h; cases h
theorem on110:∃ w,subR 2 (pw 2 (2*1)) (ecaT 110)=.orphan w∧w.length=5:=by
 have h:(match subR 2 (pw 2 (2*1)) (ecaT 110) with | .orphan w=>decide (w.length=5) | _=>false)=true:=by decide +kernel
 cases hh:subR 2 (pw 2 (2*1)) (ecaT 110) with
 | on a b=>rw [hh] at h; cases h
 | orphan w=>rw [hh] at h; exact ⟨w,rfl,of_decide_eq_true h⟩
 | big=>rw [hh] at h; cases h
theorem no_twins90:∀ x y,¬ IsTwins 2 1 (ecaT 90) x y:=by
 obtain ⟨a,b,h⟩:=on90
 exact sub_on_twins (eca_ok 90) h
theorem twins0:TwinLen 2 1 (ecaT 0) 5:=by
 refine ⟨⟨[0,0,0,0,0],[0,0,1,0,0],⟨?_,?_,rfl,by decide,by decide,rfl,rfl,by decide +kernel⟩,rfl⟩,fun a b h=>h.long⟩ <;>
 ·intro x hx
  simp at hx
  omega
theorem fin90 {w w':World} {y a b e:Value} (h:FinPost w 2 1 (ecaT 90) y a b e w'):e=.nilIface∧y=.bool true∧a=.slice none 0 0∧b=.slice none 0 0:=by
 obtain ⟨rfl,⟨rfl,rfl,rfl,_⟩ | ⟨_,x,z,_,t,_⟩⟩:=h
 ·exact ⟨rfl,rfl,rfl,rfl⟩
 ·exact absurd t (no_twins90 x z)
theorem fin0 {w w':World} {y a b e:Value} (h:FinPost w 2 1 (ecaT 0) y a b e w'):e=.nilIface∧y=.bool false∧(∃ x,IntsAt w' a x∧x.length=5)∧∃ u m c,b=.slice u m c:=by
 obtain ⟨rfl,⟨_,_,_,hn⟩ | ⟨rfl,x,z,_,t,hl,_,ha,hb,_⟩⟩:=h
 ·obtain ⟨⟨c,d,t,_⟩,_⟩:=twins0
  exact absurd t (hn c d)
 ·exact ⟨rfl,rfl,⟨x,ha.at,hl.unique twins0⟩,hb.at.shape⟩
theorem pre110a:preN 2 1 (ecaT 110) [0]=3:=by decide +kernel
theorem pre110b:preN 2 1 (ecaT 110) [0,1,0,1,0]=0:=by decide +kernel
theorem nats_len (v u:Value) (xs ys:List Nat) (w:World) (h:LimbsAt w v xs) (k:LimbsAt w u ys) (hne:xs.length≠ys.length) :
 Calls Tryz.prog 13 #[v,u] w (RetB false w):=by
 have h1:=fun w=>h.len w
 have h2:=fun w=>k.len w
 have hd:((xs.length:Int) != (ys.length:Int))=true:=by simp; omega
 clear h k hne
 go_enter Tryz.func13,Tryz.ntmps13
 go_wp2
 go_ret
 exact ⟨0,rfl,rfl⟩
theorem nats_any (v u:Value) (xs ys:List Nat) (w:World) (h:LimbsAt w v xs) (k:LimbsAt w u ys) :
 Calls Tryz.prog 13 #[v,u] w (RetB (decide (xs=ys)) w):=by
 by_cases hl:xs.length=ys.length
 case neg =>
  rw [show decide (xs=ys)=false by simp; intro e; exact hl (by rw [e])]
  exact nats_len v u xs ys w h k hl
 have h1:=fun w=>h.len w
 have h2:=fun w=>k.len w
 have hm:=h.len_le
 have hd:((xs.length:Int) != (ys.length:Int))=false:=by simp; omega
 have hl':=Hd hl
 have hlt':xs.length≤ys.length:=by omega
 clear hl
 go_enter Tryz.func13,Tryz.ntmps13
 go_wp2
 go_loopw [5] (fun i wr=>(∃ j:Nat,j≤xs.length∧i=.int .i64 j∧∀ t (h1:t<xs.length) (h2:t<ys.length),t<j→xs[t]=ys[t])∧∃ n,wr=w.drewN n) (fun i _=>xs.length-(intOf i).toNat)
 case atStart=>exact ⟨⟨0,by omega,rfl,by intro t _ _ h; omega⟩,0,rfl⟩
 case round =>
  obtain ⟨⟨j,hj,rfl,hp⟩,n,rfl⟩:=hrel
  replace hp:=Hd hp
  by_cases hlt:j<xs.length
  ·have i1:=h.idx j hlt
   have i2:=k.idx j (by omega)
   have c1:w.cell? (valAt v j)=some (.int .u32 ((xs[j]:Nat):Int)):=by have:=h.cell j hlt; rwa [show xs.getD j 0=xs[j] by simp [List.getD,hlt]] at this
   have hlt2:j<ys.length:=by omega
   have c2:w.cell? (valAt u j)=some (.int .u32 ((ys[j]:Nat):Int)):=by have:=k.cell j hlt2; rwa [show ys.getD j 0=ys[j] by simp [List.getD,hlt2]] at this
   clear h k
   by_cases he:xs[j]=ys[j]
   ·have hq:(((xs[j]:Nat):Int) != ((ys[j]:Nat):Int))=false:=by simp [he]
    have hE:=Hd he
    clear he
    generalize hx:xs[j]=x at c1 hq
    generalize hy:ys[j]=y at c2 hq
    clear hx hy
    go_wp2
    go_quiet (fail)
    go_wp2
    go_roundw
    case rel =>
     refine ⟨⟨j+1,by omega,by go_num,?_⟩,_,rfl⟩
     intro t h1 h2 ht
     by_cases e:t=j
     ·subst e; exact hE.out
     ·exact hp.out t h1 h2 (by omega)
    case measure=>simp [intOf]; omega
   ·have hq:(((xs[j]:Nat):Int) != ((ys[j]:Nat):Int))=true:=by simp; omega
    have hE:=Hd he
    clear he
    generalize hx:xs[j]=x at c1 hq
    generalize hy:ys[j]=y at c2 hq
    clear hx hy
    go_wp2
    go_quiet (fail)
    go_wp2
    go_ret
    refine ⟨_,ret_bool ?_,World.drewN_drewN ..⟩
    symm
    rw [decide_eq_false_iff_not]
    intro e
    exact hE.out (by subst e; rfl)
  ·go_wp2
   go_ret
   refine ⟨_,ret_bool ?_,rfl⟩
   symm
   rw [decide_eq_true_iff]
   exact List.ext_getElem hl'.out fun t h1 h2=>hp.out t h1 h2 (by omega)
theorem nats_num (v u:Value) (a b:Nat) (w:World) (h:NumAt w v a) (k:NumAt w u b) :
 Calls Tryz.prog 13 #[v,u] w (RetB (decide (a=b)) w):=by
 obtain ⟨l,h1,h2,h3,h4⟩:=h
 obtain ⟨m,k1,k2,k3,k4⟩:=k
 have e:decide (a=b)=decide (l=m):=by
  by_cases hh:l=m
  ·rw [decide_eq_true hh,decide_eq_true (by rw [← h4,← k4,hh])]
  ·rw [decide_eq_false hh,decide_eq_false (fun q=>hh (norm_unique h2 k2 h3 k3 (by rw [h4,k4,q])))]
 rw [e]
 exact nats_any v u l m w h1 k1
theorem decides_any (r:Nat→Addr) (w:World) (hg:Glob r w) (hG:GlobE w) :
 Calls Tryz.prog 33 #[] w (Ret1 (fun x _=>x=.bool true) w):=by
 replace hg:=Hd hg
 replace hG:=Hd hG
 go_enter Tryz.func33,Tryz.ntmps33
 go_upto_region 1 with fail
 go_wp2_with fail
 refine (eca_any 90 (by decide) w).mono ?_
 rintro e w1 ⟨_,rfl,b1,a1,c1,rfl,h1⟩
 have h1':=h1.at
 replace h1':=Hd h1'
 clear h1
 have B1:=b1
 go_wp2_with fail
 refine (sub_onto r 2 1 a1 8 c1 (ecaT 90) w1 (hg.out.below B1) (hG.out.below B1) h1'.out (eca_ok 90) (by rw [eca_len]; decide)).mono ?_
 rintro e w2 ⟨x2,y2,z2,rfl,b2,hp⟩
 obtain ⟨sa,sb,hs⟩:=on90
 rw [hs] at hp
 obtain ⟨rfl,rfl,rfl⟩:=hp
 clear hs
 replace B1:=Hd (Below.step B1 b2)
 clear b1 b2
 go_wp2_with fail
 refine (eca_any 110 (by decide) w2).mono ?_
 rintro e w3 ⟨_,rfl,b3,a3,c3,rfl,h3⟩
 have h3':=h3.at
 replace h3':=Hd h3'
 clear h3
 replace B1:=Hd (Below.step B1.out b3)
 clear b3
 go_wp2_with fail
 refine (sub_onto r 2 1 a3 8 c3 (ecaT 110) w3 (hg.out.below B1.out) (hG.out.below B1.out) h3'.out (eca_ok 110) (by rw [eca_len]; decide)).mono ?_
 rintro e w4 ⟨x4,y4,z4,rfl,b4,hp⟩
 obtain ⟨ow,hs,ho⟩:=on110
 rw [hs] at hp
 obtain ⟨rfl,rfl,hO⟩:=hp
 obtain ⟨oa,on,oc,rfl⟩:=hO.at.shape
 have lo:=hO.at.len
 rw [ho] at lo
 replace B1:=Hd (Below.step B1.out b4)
 clear hs b4 hO
 go_wp2_with fail
 refine (eca_any 90 (by decide) w4).mono ?_
 rintro e w5 ⟨_,rfl,b5,a5,c5,rfl,h5⟩
 have h5':=h5.at
 replace h5':=Hd h5'
 clear h5
 replace B1:=Hd (Below.step B1.out b5)
 clear b5
 go_wp2_with fail
 refine (finite_ok r 2 1 a5 8 c5 (ecaT 90) w5 (hg.out.below B1.out) h5'.out (eca_ok 90) (by rw [eca_len]; decide)).mono ?_
 rintro e w6 ⟨x6,y6,z6,u6,rfl,b6,hp⟩
 obtain ⟨rfl,rfl,rfl,rfl⟩:=fin90 hp
 replace B1:=Hd (Below.step B1.out b6)
 clear b6 hp
 go_wp2_with fail
 refine (eca_any 0 (by decide) w6).mono ?_
 rintro e w7 ⟨_,rfl,b7,a7,c7,rfl,h7⟩
 have h7':=h7.at
 replace h7':=Hd h7'
 clear h7
 replace B1:=Hd (Below.step B1.out b7)
 clear b7
 go_wp2_with fail
 refine (finite_ok r 2 1 a7 8 c7 (ecaT 0) w7 (hg.out.below B1.out) h7'.out (eca_ok 0) (by rw [eca_len]; decide)).mono ?_
 rintro e w8 ⟨x8,y8,z8,u8,rfl,b8,hp⟩
 obtain ⟨rfl,rfl,⟨xs,hx,lx⟩,pu,pm,pc,rfl⟩:=fin0 hp
 obtain ⟨qa,qn,qc,rfl⟩:=hx.shape
 have lq:=hx.len
 rw [lx] at lq
 have BE:=Hd (Below.step B1.out b8)
 clear b8 hp hx B1
 go_wp2
 go_ret
 exact ⟨_,rfl,BE.out,rfl⟩
theorem counts_any (r:Nat→Addr) (w:World) (hg:Glob r w) (hG:GlobE w) :
 Calls Tryz.prog 7 #[] w (Ret1 (fun x _=>x=.bool true) w):=by
 replace hg:=Hd hg
 replace hG:=Hd hG
 go_enter Tryz.func7,Tryz.ntmps7
 go_upto_region 1 with fail
 go_wp2_with fail
 refine (eca_any 110 (by decide) w).mono ?_
 rintro e w1 ⟨_,rfl,b1,a1,c1,rfl,h1⟩
 have h1':=h1.at
 have bl:=belowAlloc w1 (.cells #[.int .i64 0] 3)
 have hl:=(OwnI.lit w1.heap.size w1 (Nat.le_refl _) [0] (by simp [maxLen]) #[.int .i64 0] rfl 1 rfl).at
 replace h1':=Hd (h1'.below bl)
 replace hl:=Hd hl
 replace b1:=Hd (Below.step b1 bl)
 clear h1 bl
 go_wp2_with fail
 refine (count_Words_any r 2 1 a1 8 c1 (ecaT 110) _ [0] _ (hg.out.below b1.out) h1'.out hl.out (eca_ok 110) (by rw [eca_len]; decide)).mono ?_
 rintro e w2 ⟨x2,y2,rfl,b2,hy,hx,-⟩
 have hs1:symP ((2:Nat):Int) [0] 256=none:=by decide +kernel
 rw [hs1] at hy
 obtain rfl:=hy.none_eq
 have hn2:=hx hs1
 rw [pre110a] at hn2
 obtain ⟨a2,m2,c2,rfl⟩:=hn2.shape
 replace b1:=Hd (Below.step b1.out b2)
 replace hn2:=Hd hn2
 clear b2 hx hy hs1 hl
 go_wp2_with fail
 refine (eca_any 110 (by decide) w2).mono ?_
 rintro e w3 ⟨_,rfl,b3,a3,c3,rfl,h3⟩
 have h3':=h3.at
 have bl:=belowAlloc w3 (.cells #[.int .i64 0,.int .i64 1,.int .i64 0,.int .i64 1,.int .i64 0] 3)
 have hl:=(OwnI.lit w3.heap.size w3 (Nat.le_refl _) [0,1,0,1,0] (by simp [maxLen]) #[.int .i64 0,.int .i64 1,.int .i64 0,.int .i64 1,.int .i64 0] rfl 5 rfl).at
 have B3:=Below.step b3 bl
 replace h3':=Hd (h3'.below bl)
 replace hl:=Hd hl
 replace hn2:=Hd (hn2.out.below B3)
 replace b1:=Hd (Below.step b1.out B3)
 clear h3 bl b3 B3
 go_wp2_with fail
 refine (count_Words_any r 2 1 a3 8 c3 (ecaT 110) _ [0,1,0,1,0] _ (hg.out.below b1.out) h3'.out hl.out (eca_ok 110) (by rw [eca_len]; decide)).mono ?_
 rintro e w4 ⟨x4,y4,rfl,b4,hy,hx,-⟩
 have hs1:symP ((2:Nat):Int) [0,1,0,1,0] 256=none:=by decide +kernel
 rw [hs1] at hy
 obtain rfl:=hy.none_eq
 have hn4:=hx hs1
 rw [pre110b] at hn4
 obtain ⟨l4,k1,k2,k3,k4⟩:=hn4
 obtain rfl:l4=[]:=by
  apply Classical.byContradiction
  intro hne
  have h1:=limbs_low k3 hne
  have h2:0<4294967296 ^ (l4.length-1):=Nat.pow_pos (by decide)
  omega
 obtain ⟨a4,m4,c4,rfl⟩:=k1.shape
 have l4:=fun w=>k1.len w
 replace hn2:=Hd (hn2.out.below b4)
 replace b1:=Hd (Below.step b1.out b4)
 clear b4 hx hy hs1 hl k1 k2 k3 k4
 go_wp2_with fail
 refine (decides_any r w4 (hg.out.below b1.out) (hG.out.below b1.out)).mono ?_
 rintro e w5 ⟨_,rfl,b5,rfl⟩
 have bl:=belowAlloc w5 (.cells #[.int .u32 3] 82)
 have hl:NumAt (w5.alloc (.cells #[.int .u32 3] 82)) (.slice (some ⟨w5.heap.size,0,none⟩) 1 1) 3:=⟨[3],OwnV.at (OwnV.lit (E:=82) w5.heap.size w5 (Nat.le_refl _) (.int .u32 3)),by intro x hx; simp at hx; omega,by intro h; simp,by decide⟩
 replace hl:=Hd hl
 have B5:=Below.step b5 bl
 replace hn2:=Hd (hn2.out.below B5)
 replace b1:=Hd (Below.step b1.out B5)
 clear b5 bl B5
 go_wp2_with fail
 refine (nats_num _ _ 3 3 _ hn2.out hl.out).mono ?_
 rintro e w6 ⟨nq,rfl,rfl⟩
 have BE:=Hd (below_drewN b1.out nq)
 clear b1
 go_wp2
 go_ret
 exact ⟨_,rfl,BE.out,rfl⟩
theorem sum_allLe {M:Nat}:∀ {l:List Nat},(∀ x∈l,x≤M)→l.sum≤l.length*M
 | [],_=>by simp
 | x::l,h=>by
  have h1:=h x (List.mem_cons_self ..)
  have h2:=sum_allLe (l:=l) fun y hy=>h y (List.mem_cons_of_mem _ hy)
  rw [List.sum_cons,List.length_cons,Nat.add_mul]; omega
theorem AllLe.mem {l:List Nat} {M:Nat} (h:AllLe l M):∀ x∈l,x≤M:=fun x hx=>by
 obtain ⟨i,hi,rfl⟩:=List.getElem_of_mem hx
 have:=h i
 rwa [List.getD_eq_getElem?_getD,List.getElem?_eq_getElem hi] at this
theorem four_mul {a b e:Nat} (h:a+b≤e):4 ^ a*4 ^ b≤4 ^ e:=by
 rw [← Nat.pow_add]; exact Nat.pow_le_pow_right (by decide) h
set_option maxHeartbeats 8000000
theorem unit_le (N u:Nat):AllLe (unitL N u) 1:=fun i=>by
 unfold unitL
 by_cases h:u=i
 ·subst h
  by_cases h2:u<N
  ·simp [List.getD,h2]
  ·rw [List.getD_eq_getElem?_getD,List.getElem?_eq_none (by simp; omega)]; simp
 ·rw [List.getD_eq_getElem?_getD,List.getElem?_set_ne h]
  by_cases h2:i<N<;>simp [h2]
def ringS (K N:Nat) (T ws:List Int) (i:Nat):Nat:=((List.range i).map fun u=>(wayE K N T (unitL N u) ws).getD u 0).sum
theorem ringS_succ (K N:Nat) (T ws:List Int) (i:Nat):ringS K N T ws (i+1)=ringS K N T ws i+(wayE K N T (unitL N i) ws).getD i 0:=by simp [ringS,List.range_succ]
theorem ring_le {K N:Nat} {T ws:List Int} (hk1:1≤K) (hk4:K≤4) (hw:ws.length≤256) (i:Nat):(wayE K N T (unitL N i) ws).getD i 0≤4 ^ eW :=
 Nat.le_trans (way_le hk1 (unit_le N i) ws i) (four_le hk4 (by unfold eW; omega))
theorem ringS_le {K N:Nat} {T ws:List Int} (hk1:1≤K) (hk4:K≤4) (hw:ws.length≤256) (i:Nat) (hi:i≤256):ringS K N T ws i≤4 ^ eB:=by
 have h1:=sum_allLe (l:=(List.range i).map fun u=>(wayE K N T (unitL N u) ws).getD u 0) (M:=4 ^ eW) fun x hx=>by
  obtain ⟨v,_,rfl⟩:=List.mem_map.1 hx
  exact ring_le hk1 hk4 hw v
 have h2:((List.range i).map fun u=>(wayE K N T (unitL N u) ws).getD u 0).length≤4 ^ 4:=by
  rw [List.length_map,List.length_range]
  have:(4:Nat) ^ 4=256:=by decide
  omega
 exact Nat.le_trans h1 (Nat.le_trans (Nat.mul_le_mul_right _ h2) (four_mul (by unfold eW eB; omega)))
theorem count_rings {Fn:Nat} (K R:Nat) (va:Option Addr) (vn vc:Nat) (T:List Int) (ws:List Int) (b c:Value) (w:World) (h:IntsAt w (.slice va vn vc) T) (hr:RuleOk K R T) (hl:T.length≤256) (hws:ws.length≤256) (hw1:1≤ws.length)
 (eg:∀ args w,(callFunc Fn args).run Tryz.prog w=.ok (.enter Fn args) w)
 (hF:∀ W,Below w.heap.size w W→∀ p j:Nat,p<ws.length→j<T.length→Calls Tryz.prog Fn #[.int .i64 p,.int .i64 j,b,c] W (RetB (decide (T.getD j 0=ws.getD p 0)) W)) :
 Calls Tryz.prog 49 #[.agg #[.int .i64 K,.int .i64 R,.slice va vn vc],.int .i64 ws.length,.func (.func Fn) #[] #[b,c]] w (Ret1 (fun x w'=>NumAt w' x (ringN K R T ws)) w):=by
 have b0:=belowAlloc w (.cells #[.int .i64 K,.int .i64 R,.slice va vn vc] 24)
 have q:Box3 (w.alloc (.cells #[.int .i64 K,.int .i64 R,.slice va vn vc] 24)) w.heap.size (.int .i64 K) (.int .i64 R) (.slice va vn vc):=by simp [Box3,go_sem]
 have hk1:=hr.k1
 have hk4:=hr.k4
 have hpre:=rings_count (K:=K) (R:=R) (T:=T) hk1 hw1
 obtain ⟨N,hN⟩:∃ N,pw K (2*R)=N:=⟨_,rfl⟩
 have hT:T.length=N*K:=by rw [hr.len,pw_succ,hN]
 have h1:1≤N:=by rw [← hN]; exact pw_pos (K:=K) (2*R) hk1
 have hN256:N≤256:=by
  have:=Nat.le_mul_of_pos_right N (show 0<K by omega)
  omega
 rw [hN] at hpre
 have hpre':ringS K N T ws N=ringN K R T ws:=hpre
 rw [← hpre']
 clear hpre'
 have vt:vn=T.length:=by
  obtain ⟨a',c',e,_⟩:=h
  injection e with _ e
 subst vt
 obtain ⟨w0,hw0⟩:∃ W:World,w.alloc (.cells #[.int .i64 K,.int .i64 R,.slice va T.length vc] 24)=W:=⟨_,rfl⟩
 rw [hw0] at b0 q
 have hdiv:T.length/K=N:=by rw [hT]; exact Nat.mul_div_cancel _ (by omega)
 replace h:=Hd (h.below b0)
 have hF0:=Hd (fun W (hb:Below w0.heap.size w0 W)=>hF W (Below.step b0 hb))
 have hq:((T.length:Nat):Int)/(K:Int)=(N:Int):=by rw [← hdiv]; rfl
 have hq2:((T.length:Nat):Int).tdiv (K:Int)=(N:Int):=by rw [Int.tdiv_eq_ediv_of_nonneg (Int.natCast_nonneg _),hq]
 have hK0:((K:Int)==0)=false:=by rw [beq_eq_false_iff_ne]; omega
 have hK2:¬ (K:Int)=0:=by omega
 have hK3:¬ K=0:=by omega
 replace hT:=Hd hT
 replace hdiv:=Hd hdiv
 replace hN:=Hd hN
 replace hpre:=Hd hpre
 replace hr:=Hd hr
 replace hw0:=Hd hw0
 replace eg:=Hd eg
 clear hF
 obtain ⟨⟨z0,z1,z2⟩,-,-,-⟩:=id q
 go_enter Tryz.func49,Tryz.ntmps49
 go_upto_region 2 with fail
 rw [hw0.out]
 go_wp2_with fail
 go_loopw [7,18] (fun sv iv wr=>∃ (i:Nat) (x:Value),x=sv∧iv=.int .i64 i∧i≤N∧NumAt wr x (ringS K N T ws i)∧Below w0.heap.size w0 wr) (fun _ iv _=>N-(intOf iv).toNat)
 case atStart=>exact ⟨0,_,rfl,rfl,Nat.zero_le _,NumAt.nil _,Below.refl _ _⟩
 case round =>
  clear z0 z1 z2
  obtain ⟨i,x,rfl,rfl,hi,hS,hB⟩:=hrel
  obtain ⟨wo,rfl⟩:∃ wo:World,wo=wr:=⟨_,rfl⟩
  obtain ⟨sa,sn,sc,rfl⟩:=hS.shape
  by_cases hil:i<N
  ·have di:decide ((i:Int)<(N:Int))=true:=decide_eq_true (by omega)
   have hsb:=ringS_le (K:=K) (N:=N) (T:=T) hk1 hk4 hws i (by omega)
   have hwb:=ring_le (K:=K) (N:=N) (T:=T) hk1 hk4 hws i
   have hss:=ringS_succ K N T ws i
   have hwl:=wayE_len (K:=K) (T:=T) (ws:=ws) (unitL_len N i)
   obtain ⟨A,hA⟩:∃ A,wayE K N T (unitL N i) ws=A:=⟨_,rfl⟩
   rw [hA] at hwb hss hwl
   replace hS:=Hd hS
   replace hB:=Hd hB
   replace hsb:=Hd hsb
   replace hwb:=Hd hwb
   replace hss:=Hd hss
   replace hwl:=Hd hwl
   replace hA:=Hd hA
   go_wp2_with (at_make; refine wpl_makeV oneNats rfl _ _ rfl (N:Int) rfl rfl (by omega) (by omega) ?_)
   intro ev w1 ho1 g1'
   have b1:Below wo.heap.size wo w1:=(Below.refl _ _).grown g1' (Nat.le_refl _) (by intro k hk; cases hk)
   obtain ⟨ea,en,ec,rfl⟩:=ho1.shape
   replace ho1:OwnV 35 wo.heap.size w1 (.slice ea en ec) (List.replicate N (.slice none 0 0)):=by simpa using ho1
   have een:en=N:=by
    obtain ⟨a',c',e,_⟩:=ho1.at
    injection e with _ e
    rw [e]; simp
   subst een
   replace ho1:=Hd ho1
   replace b1:=Hd b1
   clear g1'
   have hk:i<(List.replicate en (Value.slice none 0 0)).length:=by simpa using hil
   go_wp2_with fail
   refine (nat_from 1 w1 (by decide)).mono ?_
   rintro e w2 ⟨x,rfl,b2,hx⟩
   obtain ⟨xa,xn,xc,rfl⟩:=hx.num.shape
   have hO2:=ho1.out.below b2
   have hS2:=(NumsIn.zeros w1 en).below b2
   have iX:=fun w'=>hO2.at.idx oneNats i hk w'
   have cX:=hO2.at.cell i hk
   have fX:=hO2.frz i hk
   rw [List.getElem_replicate] at cX
   have hO3:=hO2.set i hk (.slice xa xn xc)
   have hS3:=(hS2.set cX (by intro x h; cases h) (.slice xa xn xc)).upd i (hx.num.set cX (by intro x h; cases h) (.slice xa xn xc))
   have hB3:=(Below.step b1.out b2).setCell (hO2.blkB i hk).2 (.slice xa xn xc)
   obtain ⟨ad,had⟩:∃ a,valAt (.slice ea en ec) i=a:=⟨_,rfl⟩
   rw [had] at iX cX fX hO3 hS3 hB3
   obtain ⟨w3,hw3⟩:∃ W:World,w2.setCell ad (.slice xa xn xc)=W:=⟨_,rfl⟩
   rw [hw3] at hO3 hS3 hB3
   have hways:=count_ways K R en va T.length vc T (.slice ea en ec) _ (unitL en i) ws b c w3 (h.out.below (Below.step hB.out hB3)) hO3.at hS3 (unitL_len _ _) hT.out h1 hk1 hk4 hl hws (unit_le _ _) eg.out (fun W hb p j hp hj=>hF0.out W (Below.step (Below.step hB.out hB3) hb) p j hp hj)
   obtain ⟨⟨z0,z1,z2⟩,-,-,-⟩:=q.below (Below.step hB.out hB3)
   replace hO2:=Hd hO2
   replace hS2:=Hd hS2
   replace hO3:=Hd hO3
   replace hS3:=Hd hS3
   replace hB3:=Hd hB3
   replace had:=Hd had
   replace hx:=Hd hx
   replace hways:=Hd hways
   replace hw3:=Hd hw3
   go_upto_region 8 with fail
   rw [hw3.out]
   clear cX fX iX
   go_wp2_with fail
   refine hways.out.mono ?_
   rintro e w4 ⟨_,rfl,b4,xs,hx1,hx2⟩
   rw [hA.out] at hx2
   obtain ⟨ya,yn,yc,rfl⟩:=hx1.shape
   have hxi:i<xs.length:=by rw [hx2.len,hwl.out]; exact hil
   have iY:=fun w'=>hx1.idx oneNats i hxi w'
   have cY:=hx1.cell i hxi
   have nY:=hx2.each i (by rw [hwl.out]; exact hil)
   rw [getD_at hxi] at nY
   obtain ⟨yv,hyv⟩:∃ y,xs[i]'hxi=y:=⟨_,rfl⟩
   rw [hyv] at cY nY
   obtain ⟨y1,y2,y3,rfl⟩:=nY.shape
   obtain ⟨ay,hay⟩:∃ a,valAt (.slice ya yn yc) i=a:=⟨_,rfl⟩
   rw [hay] at iY cY
   have bb:=Below.step hB3.out b4
   have hadd:=nat_addN _ _ _ _ w4 (hS.out.below bb) nY hsb.out (Nat.le_trans hwb.out (Nat.pow_le_pow_right (by decide) (by unfold eW eB; omega)))
   rw [← hss.out] at hadd
   have hB4:=Hd (Below.step hB.out bb)
   replace hadd:=Hd hadd
   replace hay:=Hd hay
   replace hyv:=Hd hyv
   clear hx1 hx2 nY bb b4 z0 z1 z2
   go_wp2_with fail
   refine hadd.out.mono ?_
   rintro e w5 ⟨x5,rfl,b5,hn5⟩
   have hn5':=hn5.num
   obtain ⟨t1,t2,t3,rfl⟩:=hn5'.shape
   have hB5:=Hd (Below.step hB4.out b5)
   replace hn5':=Hd hn5'
   clear hn5 b5 iY cY
   go_wp2
   go_roundw
   case measure=>simp [intOf]; omega
   case rel=>exact ⟨i+1,_,rfl,by go_num,by omega,hn5'.out,hB5.out⟩
  ·have di:decide ((i:Int)<(N:Int))=false:=decide_eq_false (by omega)
   obtain rfl:i=N:=by omega
   have bE:=Hd (Below.step b0 hB)
   replace hS:=Hd hS
   replace hB:=Hd hB
   go_wp2
   go_ret
   exact ⟨_,rfl,bE.out,hS.out⟩
theorem ring_fits (g h:Nat) (va:Option Addr) (vn vc:Nat) (T:List Int) (ua:Option Addr) (un uc:Nat) (ws:List Int) (w:World) (c2:w.cell? ⟨g,2,none⟩=some (.slice va vn vc)) (c0:w.cell? ⟨h,0,none⟩=some (.slice ua un uc)) (hT:IntsAt w (.slice va vn vc) T) (hW:IntsAt w (.slice ua un uc) ws) (p j:Nat) (hp:p<ws.length) (hj:j<T.length) :
 Calls Tryz.prog 50 #[.int .i64 p,.int .i64 j,.pointer (some ⟨g,0,none⟩),.pointer (some ⟨h,0,none⟩)] w (RetB (decide (T.getD j 0=ws.getD p 0)) w):=by
 have i1:=fun w'=>hT.idx j hj w'
 have x1:=hT.cellD j hj
 have i2:=fun w'=>hW.idx p hp w'
 have x2:=hW.cellD p hp
 obtain ⟨y1,h1⟩:∃ y,T.getD j 0=y:=⟨_,rfl⟩
 obtain ⟨y2,h2⟩:∃ y,ws.getD p 0=y:=⟨_,rfl⟩
 rw [h1] at x1 ⊢
 rw [h2] at x2 ⊢
 obtain ⟨a1,e1⟩:∃ a,valAt (.slice va vn vc) j=a:=⟨_,rfl⟩
 obtain ⟨a2,e2⟩:∃ a,valAt (.slice ua un uc) p=a:=⟨_,rfl⟩
 rw [e1] at i1 x1
 rw [e2] at i2 x2
 clear h1 h2 e1 e2 hT hW
 go_enter Tryz.func50,Tryz.ntmps50
 go_wp2
 go_quiet (fail)
 go_wp2
 go_ret
 exact ⟨_,rfl,rfl⟩
theorem eg_ring_fits (args:Array Value) (w:World):(callFunc 50 args).run Tryz.prog w=.ok (.enter 50 args) w:=by kernel_rfl
def ringP (k:Int) (ws:List Int):PErr:=if ws.length=0 then fresh sCount 1 3 else symP k ws 64
theorem ringP_ok {K:Nat} {ws:List Int} (h:Syms K ws) (h1:1≤ws.length) (hl:ws.length≤64):ringP K ws=none:=by
 unfold ringP symP
 rw [if_neg (by omega),if_neg (by omega),if_neg]
 intro h0
 rcases idxOf_cases (odd1 K) ws with ⟨e,_⟩ | ⟨k,_,hk,hp,_⟩
 ·omega
 ·have:=h ws[k] (List.getElem_mem hk)
  simp [odd1] at hp
  omega
theorem ringP_none {K:Nat} {ws:List Int} (h:ringP K ws=none):1≤ws.length∧ws.length≤64∧Syms K ws:=by
 unfold ringP at h
 by_cases h1:ws.length=0
 ·rw [if_pos h1] at h; unfold fresh at h; cases h
 rw [if_neg h1] at h
 unfold symP at h
 by_cases h2:64<ws.length
 ·rw [if_pos h2] at h; unfold fresh at h; cases h
 rw [if_neg h2] at h
 by_cases h3:0≤idxOf (odd1 K) ws
 ·rw [if_pos h3] at h; unfold fresh at h; cases h
 refine ⟨by omega,by omega,fun x hx=>?_⟩
 rcases idxOf_cases (odd1 K) ws with ⟨_,e⟩ | ⟨k,e,_⟩
 ·have:=e x hx
  simp [odd1] at this
  omega
 ·omega
theorem count_Rings_bad (r:Nat→Addr) (k R:Int) (va:Option Addr) (vn vc:Nat) (T:List Int) (ua:Option Addr) (un uc:Nat) (w:World) (hg:Glob r w) (h:IntsAt w (.slice va vn vc) T) (t:Int×List (ByteArray×Int)) (hc:smallP k R T=some t) :
 Calls Tryz.prog 14 #[.agg #[.int .i64 k,.int .i64 R,.slice va vn vc],.slice ua un uc] w (Ret2 (fun x y w'=>x=.slice none 0 0∧ErrIs r w' (under sCount 0 (some t)) y) w):=by
 have b0:=Below.step (belowAlloc w (.cells #[.int .i64 k,.int .i64 R,.slice va vn vc] 24)) (belowAlloc _ (.cells #[.slice ua un uc] 22))
 have q:Box3 ((w.alloc (.cells #[.int .i64 k,.int .i64 R,.slice va vn vc] 24)).alloc (.cells #[.slice ua un uc] 22)) w.heap.size (.int .i64 k) (.int .i64 R) (.slice va vn vc):=by simp [Box3,go_sem]
 have hs:=count_small r k R va vn vc T _ (hg.below b0) (h.below b0)
 rw [hc] at hs
 replace hs:=Hd hs
 obtain ⟨⟨z0,z1,z2⟩,-,-,-⟩:=q
 go_enter Tryz.func14,Tryz.ntmps14
 go_wp2_with fail
 refine hs.out.mono ?_
 rintro e w1 ⟨x,rfl,b1,he⟩
 obtain ⟨T1,p1,rfl⟩:∃ T a,x=.iface T (.pointer (some a)):=by
  unfold under at he
  exact he.some_shape
 have bE:=Below.step b0 b1
 replace he:=Hd he
 clear z0 z1 z2 hs
 go_wp2
 go_ret2
 exact ⟨_,_,rfl,bE,rfl,he.out⟩
theorem count_Rings_any (r:Nat→Addr) (K R:Nat) (va:Option Addr) (vn vc:Nat) (T:List Int) (u:Value) (ws:List Int) (w:World) (hg:Glob r w) (h:IntsAt w (.slice va vn vc) T) (hu:IntsAt w u ws) (hr:RuleOk K R T) (hl:T.length≤256) :
 Calls Tryz.prog 14 #[.agg #[.int .i64 K,.int .i64 R,.slice va vn vc],u] w (Ret2 (fun x y w'=>ErrIs r w' (ringP K ws) y∧(ringP K ws=none→NumAt w' x (ringN K R T ws))∧(ringP K ws≠none→x=.slice none 0 0)) w):=by
 obtain ⟨ua,uc,rfl⟩:∃ a c,u=.slice a ws.length c:=by
  obtain ⟨a,c,e,-⟩:=hu
  exact ⟨a,c,e⟩
 have b0:=Below.step (belowAlloc w (.cells #[.int .i64 K,.int .i64 R,.slice va vn vc] 24)) (belowAlloc _ (.cells #[.slice ua ws.length uc] 22))
 have q:Box3 ((w.alloc (.cells #[.int .i64 K,.int .i64 R,.slice va vn vc] 24)).alloc (.cells #[.slice ua ws.length uc] 22)) w.heap.size (.int .i64 K) (.int .i64 R) (.slice va vn vc):=by simp [Box3,go_sem]
 have q1:((w.alloc (.cells #[.int .i64 K,.int .i64 R,.slice va vn vc] 24)).alloc (.cells #[.slice ua ws.length uc] 22)).cell? ⟨w.heap.size+1,0,none⟩=some (.slice ua ws.length uc):=by simp [go_sem]
 have hs:=count_small r K R va vn vc T _ (hg.below b0) (h.below b0)
 rw [show smallP K R T=none by rw [smallP_ok hr,if_neg (by omega)]] at hs
 replace hs:=Hd hs
 replace hg:=Hd (hg.below b0)
 replace h:=Hd (h.below b0)
 replace hu:=Hd (hu.below b0)
 replace hr:=Hd hr
 obtain ⟨w0,hw0⟩:∃ W:World,(w.alloc (.cells #[.int .i64 K,.int .i64 R,.slice va vn vc] 24)).alloc (.cells #[.slice ua ws.length uc] 22)=W:=⟨_,rfl⟩
 rw [hw0] at b0 q q1 hg h hu hs
 replace hw0:=Hd hw0
 obtain ⟨⟨z0,z1,z2⟩,-,-,-⟩:=id q
 go_enter Tryz.func14,Tryz.ntmps14
 go_upto_region 1 with fail
 rw [hw0.out]
 go_wp2_with fail
 refine hs.out.mono ?_
 rintro e w1 ⟨x,rfl,b1,he⟩
 obtain rfl:=he.none_eq
 clear z0 z1 z2 hs he
 obtain ⟨⟨z0,z1,z2⟩,-,-,-⟩:=q.below b1
 have q2:=cell_keep b1 q1
 replace q1:=Hd q1
 by_cases hz:ws.length=0
 ·have hP:ringP K ws=fresh sCount 1 3:=if_pos hz
  replace hP:=Hd hP
  have d0:decide ((ws.length:Int)=0)=true:=decide_eq_true (by omega)
  have d1:((ws.length:Int)==0)=true:=beq_iff_eq.2 (by omega)
  go_wp2_with fail
  refine (count_wrong r 1 3 _ (hg.out.below b1) (by decide) (by decide)).mono ?_
  rintro e w2 ⟨y,rfl,b2,hy⟩
  have bE:=Hd (Below.step b0 (Below.step b1 b2))
  replace hy:=Hd hy
  clear z0 z1 z2 q2 b1 b2
  go_wp2
  go_ret2
  exact ⟨_,_,rfl,bE.out,by rw [hP.out]; exact hy.out,(fun q=>by rw [hP.out] at q; unfold fresh at q; cases q),fun _=>rfl⟩
 ·have hP:ringP K ws=symP K ws 64:=if_neg hz
  have d0:decide ((ws.length:Int)=0)=false:=decide_eq_false (by omega)
  have d1:((ws.length:Int)==0)=false:=beq_eq_false_iff_ne.2 (by omega)
  have hw1:1≤ws.length:=by omega
  replace hP:=Hd hP
  go_wp2_with fail
  refine (count_symbols r K (.slice ua ws.length uc) ws 64 w1 (hg.out.below b1) (hu.out.below b1)).mono ?_
  rintro e w2 ⟨y,rfl,b2,hy⟩
  have c2:=Below.step b1 b2
  clear z0 z1 z2 q2
  obtain ⟨⟨z0,z1,z2⟩,-,-,-⟩:=q.below c2
  have q2:=cell_keep c2 q1.out
  cases hsy:symP K ws 64 with
  | some t =>
   rw [hsy] at hy
   obtain ⟨T1,p1,rfl⟩:=hy.some_shape
   have bE:=Hd (Below.step b0 c2)
   replace hy:=Hd hy
   have e2:=Hd (hP.out.trans hsy)
   replace hsy:=Hd hsy
   clear z0 z1 z2 q2 b1 b2 c2
   go_wp2
   go_ret2
   exact ⟨_,_,rfl,bE.out,by rw [e2.out]; exact hy.out,(fun q=>by rw [e2.out] at q; cases q),fun _=>rfl⟩
  | none =>
   rw [hsy] at hy
   obtain rfl:=hy.none_eq
   obtain ⟨-,hw64,-⟩:=ringP_none (hP.out.trans hsy)
   have e2:=Hd (hP.out.trans hsy)
   replace hsy:=Hd hsy
   have hTo:=h.out.below c2
   have hUo:=hu.out.below c2
   have hri:=count_rings (Fn:=50) K R va vn vc T ws (.pointer (some ⟨w.heap.size,0,none⟩)) (.pointer (some ⟨w.heap.size+1,0,none⟩)) w2 hTo hr.out hl (by omega) hw1 eg_ring_fits (fun W hb p j hp hj=>ring_fits w.heap.size (w.heap.size+1) va vn vc T ua ws.length uc ws W (cell_keep hb z2) (cell_keep hb q2) (hTo.below hb) (hUo.below hb) p j hp hj)
   replace hri:=Hd hri
   clear hy hTo hUo
   go_wp2_with fail
   refine hri.out.mono ?_
   rintro e w3 ⟨x,rfl,b3,hx⟩
   have bE:=Hd (Below.step b0 (Below.step c2 b3))
   replace hx:=Hd hx
   clear z0 z1 z2 q2 b1 b2 c2 b3
   go_wp2
   go_ret2
   exact ⟨_,_,rfl,bE.out,by rw [e2.out]; rfl,(fun _=>hx.out),fun q=>absurd e2.out q⟩
theorem tmod_cases (t:Int) {n:Int} (hn:0<n):-n<t.tmod n∧t.tmod n<n∧t.tmod n%n=t%n:=by
 by_cases h:0≤t
 ·rw [Int.tmod_eq_emod_of_nonneg h]
  have m0:=Int.emod_nonneg t (Int.ne_of_gt hn)
  have m1:=Int.emod_lt_of_pos t hn
  exact ⟨by omega,m1,Int.emod_emod_of_dvd _ (Int.dvd_refl _)⟩
 ·have e:t.tmod n=-((-t)%n):=by
   have:=Int.neg_tmod (-t) n
   rw [Int.neg_neg] at this
   rw [this,Int.tmod_eq_emod_of_nonneg (by omega)]
  have m0:=Int.emod_nonneg (-t) (Int.ne_of_gt hn)
  have m1:=Int.emod_lt_of_pos (-t) hn
  have m2:=Int.mul_ediv_add_emod (-t) n
  rw [e]
  refine ⟨by omega,by omega,?_⟩
  rw [show -((-t)%n)=t+n*(-t/n) by omega,Int.add_mul_emod_self_left]
theorem rot_cut {ws:List Int} (h1:1≤ws.length) (t:Int):rotL ws t=ws.drop (t%(ws.length:Int)).toNat++ws.take (t%(ws.length:Int)).toNat:=by
 have hn:(0:Int)<ws.length:=by omega
 have m0:=Int.emod_nonneg t (Int.ne_of_gt hn)
 have m1:=Int.emod_lt_of_pos t hn
 obtain ⟨a,ha⟩:∃ a:Nat,t%(ws.length:Int)=a:=⟨(t%(ws.length:Int)).toNat,by omega⟩
 rw [ha] at m0 m1 ⊢
 rw [Int.toNat_natCast]
 refine List.ext_getElem (by rw [rotL_len]; simp; omega) fun i g1 g2=>?_
 rw [rotL_len] at g1
 have e1:(rotL ws t)[i]'(by rw [rotL_len]; exact g1)=perA ws (t+i):=by simp [rotL,pieceF]
 rw [e1]
 unfold perA
 have e2:(t+(i:Int))%(ws.length:Int)=((a:Int)+i)%(ws.length:Int):=by rw [Int.add_emod t i,Int.add_emod (a:Int) i,ha,Int.emod_eq_of_lt m0 m1]
 rw [e2]
 by_cases hi:i<ws.length-a
 ·rw [Int.emod_eq_of_lt (by omega) (by omega),List.getElem_append_left (by simp; omega),List.getElem_drop,show ((a:Int)+i).toNat=a+i by omega]
  simp [List.getD,show a+i<ws.length by omega]
 ·rw [show (a:Int)+i=((a+i-ws.length:Nat):Int)+ws.length by omega,Int.add_emod_right,Int.emod_eq_of_lt (by omega) (by omega),List.getElem_append_right (by simp; omega),List.getElem_take,Int.toNat_natCast]
  simp only [List.length_drop]
  have:a+i-ws.length=i-(ws.length-a):=by omega
  have h3:a+i-ws.length<ws.length:=by omega
  rw [List.getD_eq_getElem?_getD,List.getElem?_eq_getElem h3,Option.getD_some]
  congr 1
theorem turn_any (v:Value) (ws:List Int) (t:Int) (w:World) (h:IntsAt w v ws) (h1:1≤ws.length) (hl:ws.length≤64) :
 Calls Tryz.prog 16 #[v,.int .i64 t] w (Ret1 (fun x w'=>OwnI w.heap.size w' x (rotL ws t)) w):=by
 have hlen:=h.len
 have hrot:=rot_cut h1 t
 have hn:(0:Int)<ws.length:=by omega
 have m0:=Int.emod_nonneg t (Int.ne_of_gt hn)
 have m1:=Int.emod_lt_of_pos t hn
 obtain ⟨a,ha⟩:∃ a:Nat,t%(ws.length:Int)=a:=⟨(t%(ws.length:Int)).toNat,by omega⟩
 rw [ha,Int.toNat_natCast] at hrot
 rw [ha] at m0 m1
 obtain ⟨r,hr⟩:∃ r:Int,t.tmod (ws.length:Int)=r:=⟨_,rfl⟩
 have hr1:r<ws.length:=by rw [← hr]; exact (tmod_cases t hn).2.1
 have hr2:-(ws.length:Int)<r:=by rw [← hr]; exact (tmod_cases t hn).1
 have hr3:(r+(ws.length:Int)).tmod (ws.length:Int)=a:=by
  rw [Int.tmod_eq_emod_of_nonneg (by omega),Int.add_emod_right,← ha,← hr]
  exact (tmod_cases t hn).2.2
 obtain ⟨L,hL⟩:∃ L:Nat,ws.length=L:=⟨_,rfl⟩
 obtain ⟨pu,hpu,hP⟩:=h.post a (by omega)
 obtain ⟨fu,hfu,hF⟩:=h.front a (by omega)
 rw [hL] at hlen hn m1 hr hr1 hr2 hr3 h1 hl
 obtain ⟨pa,pn,pc,rfl⟩:=hP.shape
 obtain ⟨fa,fn,fc,rfl⟩:=hF.shape
 have e0:((L:Int)==0)=false:=beq_eq_false_iff_ne.2 (by omega)
 have e1:decide ((L:Int)=0)=false:=decide_eq_false (by omega)
 have e2:¬ (L:Int)=0:=by omega
 have e3:¬ L=0:=by omega
 have hdl:(ws.drop a).length≤8192:=by simp; omega
 have htl:(ws.take a).length≤8192:=by simp; omega
 obtain ⟨va,vn,vc,rfl⟩:=h.shape
 replace h:=Hd h
 replace hP:=Hd hP
 replace hF:=Hd hF
 replace hdl:=Hd hdl
 replace htl:=Hd htl
 replace hrot:=Hd hrot
 replace ha:=Hd ha
 replace hL:=Hd hL
 go_enter Tryz.func16,Tryz.ntmps16
 go_upto_region 4 with fail
 obtain ⟨W,hW⟩:∃ W:World,w.drew=W:=⟨_,rfl⟩
 have hbW:Below w.heap.size w W:=by rw [← hW]; exact (Below.refl _ _).drew
 have hc:=concat2 _ _ _ _ W (hP.out.below hbW) (hF.out.below hbW) hdl.out htl.out W.heap.size rfl
 have bl:=belowAlloc W (.cells #[.slice pa pn pc,.slice fa fn fc] 22)
 have bW1:=Hd (Below.step hbW bl)
 replace hc:=Hd hc
 replace hW:=Hd hW
 clear hbW bl
 have hS:=trivial
 refine wp_region_plan (fun _=>True) 8 [(0,true),(1,true),(2,true),(3,true),(4,true),(5,true),(6,false),(7,false)] (by kernel_rfl) (by kernel_rfl) ?_
 rw [hW.out]
 refine pqY 19 hS ?_
 refine pqY 20 hS ?_
 refine pqY 21 hS ?_
 refine pqY 22 hS ?_
 refine pqY 23 hS ?_
 refine pqY 24 hS ?_
 refine headC rfl (fun KK hK=>?_)
 go_simp
 refine hK _ _ hS ?_
 clear hK KK
 refine headC rfl (fun KK hK=>?_)
 go_simp
 refine hc.out.mono ?_
 rintro e w2 ⟨x,rfl,b2,ho⟩
 rw [← hrot.out] at ho
 have bE:=Hd (Below.step bW1.out b2)
 have hsz:w.heap.size≤W.heap.size+1:=by
  have:=bW1.out.size
  simp at this; omega
 replace ho:=Hd (ho.mono hsz)
 refine hK _ _ hS ?_
 clear hK KK
 refine head0 ?_
 simp only [List.drop_succ_cons,List.drop_zero]
 go_wp2
 refine NoPanic.normal ?_
 go_wp2
 go_ret
 exact ⟨_,rfl,bE.out,ho.out⟩
end Go.Proofs.YtkaoebokbfcmhaaGreatDoor
namespace Go.Proofs.YtkaoebokbfcmhaaGreatDoor
open Go.RowKit Go.Shelf
set_option maxRecDepth 100000
set_option maxHeartbeats 8000000
theorem twice_any (v:Value) (xs:List Int) (w:World) (h:IntsAt w v xs) (h1:1≤xs.length) (hl5:xs.length≤5000) :
 Calls Tryz.prog 57 #[v,.int .i64 2] w (Ret1 (fun u w'=>OwnI w.heap.size w' u (xs++xs)) w):=by
 have hl:=h.len
 obtain ⟨L,hL⟩:∃ L,xs.length=L:=⟨_,rfl⟩
 obtain ⟨n,hn⟩:∃ n,L*2=n:=⟨_,rfl⟩
 rw [hL] at hl h1 hl5
 obtain ⟨u,w1,hmk,hu,hb1⟩:=run_makeI (n:Int) n w rfl (by omega)
 have hM:=mul_any L 2 (by omega) (by omega) w
 rw [hn] at hM
 replace hM:=Hd hM
 obtain ⟨ua,un,uc,rfl⟩:=hu.at.shape
 have hun:un=n:=by
  obtain ⟨a,c,e,_⟩:=hu.at
  injection e with _ e _
  rw [e]; simp
 subst hun
 have hcp:∃ w2,(Builtin.copy_ #[22,22] 3 #[.slice ua un uc,v]).run Tryz.prog w1=.ok (.int .i64 (L:Int)) w2∧OwnI w.heap.size w2 (.slice ua un uc) (xs++List.replicate L 0)∧Below w.heap.size w1 w2:=by
  have hv:=h.below hb1
  have hva:ua=some (valAt (.slice ua un uc) 0):=by
   rcases hu.2 with ⟨e,hn0⟩ | ⟨g,cap,cur,e,_⟩
   ·rw [List.length_replicate] at hn0; omega
   ·injection e with e1 e2 e3
    subst e1; rfl
  obtain ⟨w2,q1,q2,q3⟩:=run_copyMin (ys:=xs) 0 3 ua un uc hu hv rfl (by rw [List.length_replicate]; omega) (by omega) (by omega) hva
  have ht:xs.take un=xs:=List.take_of_length_le (by omega)
  rw [ht] at q1 q2
  rw [hL] at q1 q2
  refine ⟨w2,q1,?_,q3⟩
  rw [List.take_zero,List.nil_append,List.drop_replicate,show un-(0+L)=L by omega] at q2
  exact q2
 obtain ⟨w2,hcp,ho2,hb2⟩:=hcp
 have hub:un≤10000:=by omega
 replace hu:=Hd hu
 replace ho2:=Hd ho2
 replace hn:=Hd hn
 have hb:=Hd (hb1.trans hb2)
 go_enter Tryz.func57,Tryz.ntmps57
 go_wp2_with fail
 refine hM.out.mono ?_
 rintro e w' ⟨rfl,rfl⟩
 go_wp2_with fail
 go_loopw [8] (fun mv wr=>∃ m:Nat,mv=.int .i64 m∧((m=L∧OwnI w.heap.size wr (.slice ua un uc) (xs++List.replicate L 0))∨(m=un∧OwnI w.heap.size wr (.slice ua un uc) (xs++xs)))∧Below w.heap.size w wr) (fun mv _=>un-(intOf mv).toNat)
 case atStart=>exact ⟨L,rfl,.inl ⟨rfl,ho2.out⟩,hb.out⟩
 case round =>
  have hnn:=hn.out
  obtain ⟨m,rfl,hcase,hbr⟩:=hrel
  obtain ⟨wo,rfl⟩:∃ wo:World,wo=wr:=⟨_,rfl⟩
  obtain ⟨rfl,ho⟩ | ⟨rfl,ho⟩:=hcase
  ·have hl2:=ho.at.len
   have hll:(xs++List.replicate m 0).length=un:=by rw [List.length_append,List.length_replicate,hL]; omega
   rw [hll] at hl2
   obtain ⟨g,cap,cur,e,hgB,_,hnc,_⟩:∃ g cap cur,Value.slice ua un uc=.slice (some ⟨g,0,none⟩) (xs++List.replicate m 0).length cap∧w.heap.size≤g∧wo.heap[g]?=some (.cells cur 3 (0,0))∧(xs++List.replicate m 0).length≤cap∧True:=by
    rcases ho.2 with ⟨_,hn0⟩ | ⟨g,cap,cur,e,q1,q2,q3,_⟩
    ·rw [hll] at hn0; omega
    ·exact ⟨g,cap,cur,e,q1,q2,q3,trivial⟩
   rw [hll] at e hnc
   injection e with e1 e2 e3
   subst e1; subst e3
   clear hu ho2 hcp hmk e2
   have hu2:=ho.at.pre m (by rw [hll]; omega)
   have htk:(xs++List.replicate m 0).take m=xs:=List.take_left' hL
   rw [htk] at hu2
   obtain ⟨k,hk⟩:∃ k,k=m:=⟨_,rfl⟩
   have hcp:∀ W:World,OwnI w.heap.size W (.slice (some ⟨g,0,none⟩) un uc) (xs++List.replicate m 0)→IntsAt W (.slice (some ⟨g,0,none⟩) m uc) xs→∃ w2,(Builtin.copy_ #[22,22] 3 #[.slice (some ⟨g,m,none⟩) (un-m) (uc-m),.slice (some ⟨g,0,none⟩) m uc]).run Tryz.prog W=.ok (.int .i64 (k:Int)) w2∧OwnI w.heap.size w2 (.slice (some ⟨g,0,none⟩) un uc) (xs++xs)∧Below w.heap.size W w2:=by
    intro W hW hW2
    obtain ⟨w2,a,b,c⟩:=run_copyMin m 3 (some ⟨g,m,none⟩) (un-m) (uc-m) hW hW2 rfl (by rw [hll]; omega) (by omega) (by omega) (by rw [valAt_row])
    have ht:xs.take (un-m)=xs:=List.take_of_length_le (by omega)
    rw [ht,hL] at a b
    rw [htk,List.drop_append,List.drop_eq_nil_of_le (by omega),List.nil_append,hL,List.drop_replicate,show m-(m+m-m)=0 by omega,List.replicate_zero,List.append_nil] at b
    rw [hk]
    exact ⟨w2,a,b,c⟩
   obtain ⟨w3,hc3,ho3,hb3⟩:=hcp wo.drew ho hu2
   have hlt:m<un:=by omega
   have hm0:1≤m:=h1
   have hwr:IntKind.i64.wrap ((m:Int)+(k:Int))=(m:Int)+k:=wrapK (by omega) (by omega)
   have hb4:Below w.heap.size w w3:=hbr.drew.trans hb3
   have hk1:1≤k:=by omega
   have hk2:m+k≤un:=by omega
   have hk3:m+k=un:=by omega
   have hsl1:(0≤(m:Int)∧(m:Int)≤(un:Int)):=⟨by omega,by omega⟩
   have hsl2:(0≤(m:Int)∧(m:Int)≤(uc:Int)):=⟨by omega,by omega⟩
   have hmc:¬ uc=m:=by omega
   replace ho3:=Hd ho3
   replace ho:=Hd ho
   replace hL:=Hd hL
   replace hll:=Hd hll
   replace hk:=Hd hk
   replace hk3:=Hd hk3
   clear hcp hu2 htk hnn
   go_upto_region 9 with fail
   refine wp_region_plan (fun _=>True) 9 [(0,true),(1,true),(2,true),(3,true),(4,true),(5,true),(6,true),(7,false),(8,true)] (by kernel_rfl) (by kernel_rfl) ?_
   have hS:=trivial
   refine pqY 38 hS ?_
   refine pqY 39 hS ?_
   refine pqY 40 hS ?_
   refine pqY 41 hS ?_
   refine pqY 42 hS ?_
   refine pqY 43 hS ?_
   refine pqY 44 hS ?_
   refine headC rfl (fun KK hK=>?_)
   -- CALL 7 slot (some 45)
   go_simp
   refine hK _ _ hS ?_
   clear hK KK
   refine pqY 46 hS ?_
   refine head0 ?_
   simp only [List.drop_succ_cons,List.drop_zero]
   go_wp2
   refine NoPanic.normal ?_
   go_wp2
   go_round
   case measure=>simp [intOf]; omega
   case rel=>exact ⟨m+k,by go_num,.inr ⟨hk3.out,ho3.out⟩,hb4⟩
  ·have hlt:¬ m<m:=by omega
   replace ho:=Hd ho
   clear hnn
   go_wp2
   go_ret
   exact ⟨_,rfl,hbr,ho.out⟩
theorem times_any (v:Value) (xs:List Int) (w:World) (h:IntsAt w v xs) (h1:1≤xs.length) (hl5:xs.length≤12) :
 Calls Tryz.prog 17 #[v,.int .i64 2] w (Ret2 (fun x y w'=>y=.nilIface∧OwnI w.heap.size w' x (xs++xs)) w):=by
 have hl:=h.len
 have hq:(4096:Int)/(xs.length:Int)≥2:=by
  have h2:(4096:Nat)/xs.length≥4096/12:=Nat.div_le_div_left hl5 (by omega)
  have h3:((4096/xs.length:Nat):Int)=4096/(xs.length:Int):=by simp
  have h4:(4096:Nat)/12=341:=by decide
  omega
 have hq2:(4096:Int).tdiv (xs.length:Int)=4096/(xs.length:Int):=Int.tdiv_eq_ediv_of_nonneg (by decide)
 obtain ⟨Q,hQ⟩:∃ Q,(4096:Int)/(xs.length:Int)=Q:=⟨_,rfl⟩
 have hQ0:2≤Q:=by omega
 have hQ1:Q≤4096:=by
  have h2:(4096:Nat)/xs.length≤4096:=Nat.div_le_self ..
  have h3:((4096/xs.length:Nat):Int)=4096/(xs.length:Int):=by simp
  omega
 have e0:((xs.length:Int)==0)=false:=beq_eq_false_iff_ne.2 (by omega)
 have e1:decide ((xs.length:Int)=0)=false:=decide_eq_false (by omega)
 have e2:¬ (xs.length:Int)=0:=by omega
 have e3:¬ xs.length=0:=by omega
 have e4:¬ xs=[]:=by intro q; rw [q] at h1; simp at h1
 have ht:=twice_any v xs w h h1 (by omega)
 rw [hQ] at hq2
 replace ht:=Hd ht
 replace hq:=Hd hq
 obtain ⟨va,vn,vc,rfl⟩:=h.shape
 replace h:=Hd h
 go_enter Tryz.func17,Tryz.ntmps17
 go_wp2_with fail
 refine ht.out.mono ?_
 rintro e w1 ⟨x,rfl,b1,hx⟩
 replace hx:=Hd hx
 go_wp2
 go_ret2
 exact ⟨_,_,rfl,b1,rfl,hx.out⟩
end Go.Proofs.YtkaoebokbfcmhaaGreatDoor
namespace Go.Proofs.YtkaoebokbfcmhaaGreatDoor
open Go.RowKit
set_option maxRecDepth 100000
theorem natV_short {l k:List Nat} (hl:Limbs l) (nk:Norm k) (h:l.length<k.length):natV l<natV k:=by
 have h1:=natV_lt hl
 have h2:=limbs_low nk (by intro e; rw [e] at h; simp at h)
 have h3:4294967296 ^ l.length≤4294967296 ^ (k.length-1):=Nat.pow_le_pow_right (by decide) (by omega)
 omega
theorem natV_at {l k:List Nat} {q:Nat} (hl:Limbs l) (hlen:l.length=k.length) (hq:q<l.length) (hd:l.drop (q+1)=k.drop (q+1)) (h:l.getD q 0<k.getD q 0):natV l<natV k:=by
 have hqk:q<k.length:=by omega
 have e1:l=l.take q++(l.getD q 0::l.drop (q+1)):=by
  have:l.getD q 0=l[q]:=by simp [List.getD,hq]
  rw [this,← List.drop_eq_getElem_cons hq,List.take_append_drop]
 have e2:k=k.take q++(k.getD q 0::k.drop (q+1)):=by
  have:k.getD q 0=k[q]:=by simp [List.getD,hqk]
  rw [this,← List.drop_eq_getElem_cons hqk,List.take_append_drop]
 have t1:=natV_lt (l:=l.take q) fun x hx=>hl x (List.mem_of_mem_take hx)
 have l1:(l.take q).length=q:=by simp; omega
 have l2:(k.take q).length=q:=by simp; omega
 have v1:=congrArg natV e1
 have v2:=congrArg natV e2
 rw [natV_append,l1] at v1
 rw [natV_append,l2,← hd] at v2
 rw [l1] at t1
 simp only [natV] at v1 v2
 rw [v1,v2]
 have h4:4294967296 ^ q*(l.getD q 0+4294967296*natV (l.drop (q+1))+1)≤4294967296 ^ q*(k.getD q 0+4294967296*natV (l.drop (q+1))):=Nat.mul_le_mul_left _ (by omega)
 rw [Nat.mul_add,Nat.mul_one] at h4
 omega
def cmpN (a b:Nat):Int:=if a<b then -1 else if b<a then 1 else 0
theorem cmp_any (v u:Value) (a b:Nat) (w:World) (h:NumAt w v a) (k:NumAt w u b) :
 Calls Tryz.prog 18 #[v,u] w (Ret1 (fun x _=>x=.int .i64 (cmpN a b)) w):=by
 obtain ⟨l,h1,h2,h3,rfl⟩:=h
 obtain ⟨m,k1,k2,k3,rfl⟩:=k
 obtain ⟨va,vn,vc,rfl⟩:=h1.shape
 obtain ⟨ua,un,uc,rfl⟩:=k1.shape
 have n1:=norm_any _ l w h1
 have n2:=norm_any _ m w k1
 replace n1:=Hd n1
 replace n2:=Hd n2
 replace h1:=Hd h1
 replace k1:=Hd k1
 replace h2:=Hd h2
 replace k2:=Hd k2
 replace h3:=Hd h3
 replace k3:=Hd k3
 go_enter Tryz.func18,Tryz.ntmps18
 go_wp2_with fail
 refine n1.out.mono ?_
 rintro e w1 ⟨p,hp,rfl,np,ep,rfl⟩
 have c1:=h1.out.cut hp
 have hlp:l.take p=l:=norm_unique (fun x hx=>h2.out x (List.mem_of_mem_take hx)) h2.out np h3.out ep
 rw [hlp] at c1
 replace c1:=Hd c1
 clear hlp np ep
 go_wp2_with fail
 refine n2.out.mono ?_
 rintro e w1 ⟨p2,hp2,rfl,np,ep,rfl⟩
 have c2:=k1.out.cut hp2
 have hmp:m.take p2=m:=norm_unique (fun x hx=>k2.out x (List.mem_of_mem_take hx)) k2.out np k3.out ep
 rw [hmp] at c2
 replace c2:=Hd c2
 clear hmp np ep
 obtain ⟨V,hV⟩:∃ V,cutAt (.slice va vn vc) p=V:=⟨_,rfl⟩
 obtain ⟨U,hU⟩:∃ U,cutAt (.slice ua un uc) p2=U:=⟨_,rfl⟩
 rw [hV] at c1
 rw [hU] at c2
 rw [hV,hU]
 clear hV hU hp hp2 n1 n2 h1 k1
 obtain ⟨a1,a2,a3,rfl⟩:=c1.out.shape
 obtain ⟨b1,b2,b3,rfl⟩:=c2.out.shape
 have l1:=fun w=>c1.out.len w
 have l2:=fun w=>c2.out.len w
 have lb1:=c1.out.len_le
 have lb2:=c2.out.len_le
 have vs1:l.length<m.length→natV l<natV m:=natV_short h2.out k3.out
 have vs2:m.length<l.length→natV m<natV l:=natV_short k2.out h3.out
 replace vs1:=Hd vs1
 replace vs2:=Hd vs2
 by_cases hc:l.length=m.length
 ·have d1:((l.length:Int) != (m.length:Int))=false:=by rw [bne_eq_false_iff_eq]; omega
  replace hc:=Hd hc
  go_wp2_with fail
  go_loopw [5] (fun iv wr=>(∃ p:Nat,p≤l.length∧iv=.int .i64 ((p:Int)-1)∧l.drop p=m.drop p)∧∃ n,wr=w.drewN n) (fun iv _=>(intOf iv+1).toNat)
  case atStart=>exact ⟨⟨l.length,Nat.le_refl _,rfl,by rw [List.drop_length,hc.out,List.drop_length]⟩,0,rfl⟩
  case round =>
   obtain ⟨⟨p,hp,rfl,hd⟩,n,rfl⟩:=hrel
   by_cases hp0:p=0
   ·subst hp0
    have ei:((0:Nat):Int)-1=-1:=by omega
    rw [ei]
    have e:cmpN (natV l) (natV m)=0:=by
     rw [List.drop_zero,List.drop_zero] at hd
     unfold cmpN
     rw [hd,if_neg (Nat.lt_irrefl _),if_neg (Nat.lt_irrefl _)]
    replace e:=Hd e
    replace hd:=Hd hd
    have bE:=below_drewN (Below.refl w.heap.size w) n
    go_wp2
    go_ret
    exact ⟨_,rfl,bE,congrArg (Value.int .i64) e.out.symm⟩
   ·obtain ⟨q,rfl⟩:∃ q,p=q+1:=⟨p-1,by omega⟩
    have ei:((q+1:Nat):Int)-1=(q:Int):=by omega
    rw [ei]
    clear ei
    have hq:q<l.length:=by omega
    have hq2:q<m.length:=by rw [← hc.out]; exact hq
    have i1:=fun w'=>c1.out.idx q hq w'
    have i2:=fun w'=>c2.out.idx q hq2 w'
    have x1:=c1.out.cell q hq
    have x2:=c2.out.cell q hq2
    have at1:l.getD q 0<m.getD q 0→natV l<natV m:=natV_at h2.out hc.out hq hd
    have at2:m.getD q 0<l.getD q 0→natV m<natV l:=natV_at k2.out hc.out.symm hq2 hd.symm
    have hnx:l.getD q 0=m.getD q 0→l.drop q=m.drop q:=fun e=>by
     rw [List.drop_eq_getElem_cons hq,List.drop_eq_getElem_cons hq2,hd]
     congr 1
     simpa [List.getD,hq,hq2] using e
    obtain ⟨x,hx⟩:∃ x,l.getD q 0=x:=⟨_,rfl⟩
    obtain ⟨y,hy⟩:∃ y,m.getD q 0=y:=⟨_,rfl⟩
    rw [hx] at x1
    rw [hy] at x2
    rw [hx,hy] at at1 at2 hnx
    obtain ⟨ad1,ha1⟩:∃ a,valAt (.slice a1 a2 a3) q=a:=⟨_,rfl⟩
    obtain ⟨ad2,ha2⟩:∃ a,valAt (.slice b1 b2 b3) q=a:=⟨_,rfl⟩
    rw [ha1] at i1 x1
    rw [ha2] at i2 x2
    replace at1:=Hd at1
    replace at2:=Hd at2
    replace hnx:=Hd hnx
    clear hx hy ha1 ha2 hd hp
    rcases Nat.lt_trichotomy x y with hlt | heq | hgt
    ·have f1:decide (x<y)=true:=decide_eq_true (by omega)
     have e:cmpN (natV l) (natV m)=-1:=if_pos (at1.out hlt)
     replace e:=Hd e
     go_wp2
     go_quiet (fail)
     go_wp2
     go_ret
     exact ⟨_,rfl,below_drewN (below_drewN (Below.refl _ _) _) _,congrArg (Value.int .i64) e.out.symm⟩
    ·have f1:decide (x<y)=false:=decide_eq_false (by omega)
     have f2:decide (y<x)=false:=decide_eq_false (by omega)
     have e:=Hd (hnx.out heq)
     replace heq:=Hd heq
     go_wp2
     go_quiet (fail)
     go_wp2
     go_quiet (fail)
     go_wp2
     go_roundw
     case rel=>exact ⟨⟨q,by omega,by go_num,e.out⟩,_,rfl⟩
     case measure=>simp [intOf]
    ·have f1:decide (x<y)=false:=decide_eq_false (by omega)
     have f2:decide (y<x)=true:=decide_eq_true (by omega)
     have hab:=at2.out hgt
     have e:cmpN (natV l) (natV m)=1:=by
      unfold cmpN
      rw [if_neg (by omega),if_pos hab]
     clear hab
     replace e:=Hd e
     go_wp2
     go_quiet (fail)
     go_wp2
     go_quiet (fail)
     go_wp2
     go_ret
     exact ⟨_,rfl,below_drewN (below_drewN (below_drewN (Below.refl _ _) _) _) _,congrArg (Value.int .i64) e.out.symm⟩
 ·have d1:((l.length:Int) != (m.length:Int))=true:=by rw [bne_iff_ne]; omega
  by_cases hs:l.length<m.length
  ·have f1:decide ((l.length:Int)<(m.length:Int))=true:=decide_eq_true (by omega)
   have e:cmpN (natV l) (natV m)=-1:=if_pos (vs1.out hs)
   replace e:=Hd e
   go_wp2
   go_ret
   exact ⟨_,rfl,Below.refl _ _,congrArg (Value.int .i64) e.out.symm⟩
  ·have f1:decide ((l.length:Int)<(m.length:Int))=false:=decide_eq_false (by omega)
   have hab:=vs2.out (by omega)
   have e:cmpN (natV l) (natV m)=1:=by
    unfold cmpN
    rw [if_neg (by omega),if_pos hab]
   clear hab
   replace e:=Hd e
   go_wp2
   go_ret
   exact ⟨_,rfl,Below.refl _ _,congrArg (Value.int .i64) e.out.symm⟩
end Go.Proofs.YtkaoebokbfcmhaaGreatDoor
namespace Go.Proofs.YtkaoebokbfcmhaaGreatDoor
def FarOf (n:Nat) (adj:Nat→List Nat) (s:Nat) (D:Nat→Int):Prop :=
 ∀ t,t<n→(D t=-1∧¬ Goes adj s t)∨∃ w,Way adj s t w∧(w.length:Int)=D t+1∧∀ u,Way adj s t u→w.length≤u.length
def ToOf (n:Nat) (adj:Nat→List Nat) (s:Nat) (D:Nat→Int):Prop :=
 ∀ t,t<n→(D t=-1∧¬ Goes adj t s)∨∃ w,Way adj t s w∧(w.length:Int)=D t+1∧∀ u,Way adj t s u→w.length≤u.length
theorem ToOf.low {n:Nat} {adj:Nat→List Nat} {s:Nat} {D:Nat→Int} (h:ToOf n adj s D) {t:Nat} (ht:t<n):-1≤D t:=by
 rcases h t ht with ⟨h1,_⟩ | ⟨w,h1,h2,_⟩
 ·omega
 ·have:=h1.pos; omega
theorem ToOf.pos {n:Nat} {adj:Nat→List Nat} {s:Nat} {D:Nat→Int} (h:ToOf n adj s D) {t:Nat} (ht:t<n):0≤D t↔Goes adj t s:=by
 rcases h t ht with ⟨h1,h2⟩ | ⟨w,h1,h2,_⟩
 ·exact ⟨fun q=>by omega,fun q=>absurd q h2⟩
 ·exact ⟨fun _=>h1.goes,fun _=>by have:=h1.pos; omega⟩
theorem ToOf.le {n:Nat} {adj:Nat→List Nat} {s:Nat} {D:Nat→Int} (h:ToOf n adj s D) {t:Nat} (ht:t<n) {u:List Nat} (hu:Way adj t s u):0≤D t∧D t+1≤u.length:=by
 rcases h t ht with ⟨_,h2⟩ | ⟨w,h1,h2,h3⟩
 ·exact absurd hu.goes h2
 ·have:=h1.pos; have:=h3 u hu; omega
theorem ToOf.first {n:Nat} {adj:Nat→List Nat} {s:Nat} {D:Nat→Int} (h:ToOf n adj s D) {t:Nat} (ht:t<n) {u:List Nat} (hu:IsFirst adj t s u):(u.length:Int)=D t+1:=by
 rcases h t ht with ⟨_,h2⟩ | ⟨w,h1,h2,h3⟩
 ·exact absurd hu.way.goes h2
 ·have:=h3 u hu.way; have:=hu.short w h1; omega
theorem FarOf.pos {n:Nat} {adj:Nat→List Nat} {s:Nat} {D:Nat→Int} (h:FarOf n adj s D) {t:Nat} (ht:t<n):0≤D t↔Goes adj s t:=by
 rcases h t ht with ⟨h1,h2⟩ | ⟨w,h1,h2,_⟩
 ·exact ⟨fun q=>by omega,fun q=>absurd q h2⟩
 ·exact ⟨fun _=>h1.goes,fun _=>by have:=h1.pos; omega⟩
structure FBase (adj:Nat→List Nat) (s:Nat) (D:Nat→Int) (q:List Nat) (b i:Nat):Prop where
 hd:q[0]?=some s
 nodup:q.Nodup
 there:∀ x,0≤D x↔x∈q
 low:∀ x,-1≤D x
 d0:D s=0
 sound:∀ x∈q,∃ w,Way adj s x w∧(w.length:Int)=D x+1
 par:∀ x∈q,x=s∨∃ p y,p<b∧q[p]?=some y∧D x=D y+1
 mono:∀ (j k x y:Nat),j≤k→q[j]?=some x→q[k]?=some y→D x≤D y
 closed:∀ p x,p<i→q[p]?=some x→∀ t∈adj x,0≤D t∧D t≤D x+1
structure FIn (adj:Nat→List Nat) (s:Nat) (D:Nat→Int) (q:List Nat) (i v:Nat) (l:List Nat):Prop where
 base:FBase adj s D q (i+1) i
 cur:q[i]?=some v
 sub:∀ t∈l,t∈adj v
 seen:∀ t∈adj v,t∈l∨(0≤D t∧D t≤D v+1)
section
variable {adj:Nat→List Nat} {s:Nat} {D:Nat→Int} {q:List Nat} {i v b:Nat} {l:List Nat}
theorem FBase.init (adj:Nat→List Nat) (s:Nat):FBase adj s (updN (fun _=>(-1:Int)) s 0) [s] 0 0:=by
 have hg:∀ j x,[s][j]?=some x→j=0∧x=s:=fun j x hx=>by
  cases j with
  | zero=>simp at hx; exact ⟨rfl,hx.symm⟩
  | succ j=>simp at hx
 refine ⟨rfl,by simp,fun x=>?_,fun x=>?_,updN_same _ _ _,fun x hx=>?_,fun x hx=>?_,fun j k x y _ hx hy=>?_,fun p x hp=>by omega⟩
 ·by_cases e:x=s
  ·subst e; rw [updN_same]; simp
  ·rw [updN_other _ _ _ e]; simp [e]
 ·by_cases e:x=s
  ·subst e; rw [updN_same]; omega
  ·rw [updN_other _ _ _ e]; omega
 ·cases List.mem_singleton.1 hx; exact ⟨_,.one _,by rw [updN_same]; simp⟩
 ·exact .inl (List.mem_singleton.1 hx)
 ·rw [(hg j x hx).2,(hg k y hy).2]; exact Int.le_refl _
theorem FBase.enter (h:FBase adj s D q i i) (hv:q[i]?=some v):FIn adj s D q i v (adj v) :=
 ⟨⟨h.hd,h.nodup,h.there,h.low,h.d0,h.sound,fun x hx=>(h.par x hx).imp id (fun ⟨p,y,h1,h2⟩=>⟨p,y,by omega,h2⟩),h.mono,h.closed⟩,hv,fun t ht=>ht,fun t ht=>.inl ht⟩
theorem FIn.leave (h:FIn adj s D q i v []):FBase adj s D q (i+1) (i+1):=by
 refine ⟨h.base.hd,h.base.nodup,h.base.there,h.base.low,h.base.d0,h.base.sound,h.base.par,h.base.mono,fun p x hp hx t ht=>?_⟩
 by_cases e:p=i
 ·subst e
  rw [h.cur] at hx; cases hx
  exact (h.seen t ht).resolve_left (by simp)
 ·exact h.base.closed p x (by omega) hx t ht
theorem FIn.top (h:FIn adj s D q i v l):∀ x∈q,D x≤D v+1:=by
 intro x hx
 have hv0:=(h.base.there v).2 (List.mem_of_getElem? h.cur)
 rcases h.base.par x hx with rfl | ⟨p,y,h1,h2,h3⟩
 ·have:=h.base.d0; omega
 ·have:=h.base.mono p i y v (by omega) h2 h.cur; omega
theorem FIn.old {t:Nat} (h:FIn adj s D q i v (t::l)) (ht:0≤D t):FIn adj s D q i v l:=by
 refine ⟨h.base,h.cur,fun x hx=>h.sub x (List.mem_cons_of_mem _ hx),fun x hx=>?_⟩
 rcases h.seen x hx with q1 | q1
 ·rcases List.mem_cons.1 q1 with e | e
  ·subst e; exact .inr ⟨ht,h.top x ((h.base.there x).1 ht)⟩
  ·exact .inl e
 ·exact .inr q1
theorem FIn.add {t:Nat} (h:FIn adj s D q i v (t::l)) (ht:D t<0):FIn adj s (updN D t (D v+1)) (q++[t]) i v l:=by
 have hB:=h.base
 have htq:t∉q:=fun hm=>by have:=(hB.there t).2 hm; omega
 have hil:=get_of h.cur
 have hvq:=List.mem_of_getElem? h.cur
 have hv0:=(hB.there v).2 hvq
 have hga:∀ j x,(q++[t])[j]?=some x→q[j]?=some x∧j<q.length∧x≠t∨j=q.length∧x=t:=fun j x hx=>by
  by_cases e:j<q.length
  ·rw [List.getElem?_append_left e] at hx
   exact .inl ⟨hx,e,fun e2=>htq (by rw [← e2]; exact List.mem_of_getElem? hx)⟩
  ·rw [List.getElem?_append_right (by omega)] at hx
   by_cases e2:j=q.length
   ·rw [e2] at hx; simp at hx; exact .inr ⟨e2,hx.symm⟩
   ·rw [List.getElem?_eq_none (by simp; omega)] at hx; cases hx
 have hgo:∀ {j x},q[j]?=some x→(q++[t])[j]?=some x:=fun {j x} hx=>by rw [List.getElem?_append_left (get_of hx)]; exact hx
 have hne:∀ x,x∈q→x≠t:=fun x hx e=>htq (by rw [← e]; exact hx)
 have dq:∀ x,x∈q→updN D t (D v+1) x=D x:=fun x hx=>updN_other _ _ _ (hne x hx)
 have hsq:s∈q:=List.mem_of_getElem? hB.hd
 have htop:=h.top
 refine ⟨⟨hgo hB.hd,?_,fun x=>?_,fun x=>?_,?_,fun x hx=>?_,fun x hx=>?_,fun j k x y hjk hx hy=>?_,fun p x hp hx t' ht'=>?_⟩,hgo h.cur,fun x hx=>h.sub x (List.mem_cons_of_mem _ hx),fun x hx=>?_⟩
 ·exact List.nodup_append.2 ⟨hB.nodup,by simp,fun x hx y hy=>by cases List.mem_singleton.1 hy; exact hne x hx⟩
 ·by_cases e:x=t
  ·subst e; rw [updN_same]; simp; omega
  ·rw [updN_other _ _ _ e,hB.there]; simp [e]
 ·by_cases e:x=t
  ·subst e; rw [updN_same]; omega
  ·rw [updN_other _ _ _ e]; exact hB.low x
 ·rw [dq s hsq]; exact hB.d0
 ·rcases List.mem_append.1 hx with hx | hx
  ·rw [dq x hx]; exact hB.sound x hx
  ·cases List.mem_singleton.1 hx
   obtain ⟨w,h1,h2⟩:=hB.sound v hvq
   refine ⟨w++[t],h1.snoc (h.sub _ List.mem_cons_self),?_⟩
   rw [updN_same,List.length_append,List.length_singleton]; omega
 ·rcases List.mem_append.1 hx with hx | hx
  ·rcases hB.par x hx with e | ⟨p,y,h1,h2,h3⟩
   ·exact .inl e
   ·exact .inr ⟨p,y,h1,hgo h2,by rw [dq x hx,dq y (List.mem_of_getElem? h2)]; exact h3⟩
  ·cases List.mem_singleton.1 hx
   exact .inr ⟨i,v,by omega,hgo h.cur,by rw [updN_same,dq v hvq]⟩
 ·rcases hga k y hy with ⟨k1,k2,k3⟩ | ⟨rfl,rfl⟩
  ·rcases hga j x hx with ⟨h1,h2,h3⟩ | ⟨rfl,rfl⟩
   ·rw [dq x (List.mem_of_getElem? h1),dq y (List.mem_of_getElem? k1)]; exact hB.mono j k x y hjk h1 k1
   ·omega
  ·rcases hga j x hx with ⟨h1,h2,h3⟩ | ⟨h1,rfl⟩
   ·rw [dq x (List.mem_of_getElem? h1),updN_same]; exact htop x (List.mem_of_getElem? h1)
   ·exact Int.le_refl _
 ·rcases hga p x hx with ⟨h1,h2,h3⟩ | ⟨h1,rfl⟩
  ·have:=hB.closed p x hp h1 t' ht'
   have e:t'≠t:=fun e=>by subst e; omega
   rw [updN_other _ _ _ e,dq x (List.mem_of_getElem? h1)]
   exact this
  ·omega
 ·by_cases e:x=t
  ·subst e; right; rw [updN_same,dq v hvq]; omega
  ·rcases h.seen x hx with q1 | q1
   ·exact .inl ((List.mem_cons.1 q1).resolve_left e)
   ·right; rw [updN_other _ _ _ e,dq v hvq]; exact q1
theorem FBase.far (h:FBase adj s D q b i) (hi:q.length≤i) {x y:Nat} {u:List Nat} (hu:Way adj x y u) (hx:x∈q):y∈q∧D y+1≤D x+u.length:=by
 induction hu with
 | one=>exact ⟨hx,by simp⟩
 | @cons x t y w ht hu ih =>
  obtain ⟨j,hj⟩:=List.mem_iff_getElem?.1 hx
  have:=h.closed j x (by have:=get_of hj; omega) hj t ht
  have:=ih ((h.there t).1 this.1)
  exact ⟨this.1,by simp only [List.length_cons]; omega⟩
end
theorem step_first {n:Nat} {adj:Nat→List Nat} {s:Nat} {D:Nat→Int} (h:ToOf n adj s D) (hlt:∀ v,v<n→∀ t∈adj v,t<n) {v best:Nat} (hv:v<n)
 (hb:best∈adj v) (hd:D best=D v-1) (h0:0≤D best) (hm:∀ t∈adj v,D t=D v-1→best≤t) {u:List Nat} (hu:IsFirst adj best s u):IsFirst adj v s (v::u):=by
 have hbn:=hlt v hv best hb
 have hul:=h.first hbn hu
 refine ⟨.cons hb hu.way,fun x hx=>?_,fun x hx hl=>?_⟩
 ·have:=h.le hv hx
  simp only [List.length_cons]; omega
 ·cases hx with
  | one=>simp only [List.length_cons,List.length_nil] at hl; have:=hu.way.pos; omega
  | @cons _ t _ x' ht hx' =>
   have htn:=hlt v hv t ht
   have h1:=h.le htn hx'
   have h2:=h.le hv (.cons ht hx')
   simp only [List.length_cons] at hl h2
   have hdt:D t=D v-1:=by
    rcases h t htn with ⟨_,q⟩ | ⟨w,w1,w2,w3⟩
    ·exact absurd hx'.goes q
    ·have:=h.le hv (.cons ht w1)
     simp only [List.length_cons] at this
     omega
   have hbt:=hm t ht hdt
   refine .inr ⟨rfl,?_⟩
   by_cases e:best=t
   ·subst e; exact hu.least x' hx' (by omega)
   ·obtain ⟨_,rfl⟩:=hx'.ne
    obtain ⟨_,rfl⟩:=hu.way.ne
    exact .inl (by omega)
theorem ToOf.next {n:Nat} {adj:Nat→List Nat} {s:Nat} {D:Nat→Int} (h:ToOf n adj s D) (hlt:∀ v,v<n→∀ t∈adj v,t<n) {v:Nat} (hv:v<n) (hne:v≠s) (h0:0≤D v):1≤D v∧∃ t∈adj v,D t=D v-1:=by
 rcases h v hv with ⟨q,_⟩ | ⟨w,w1,w2,w3⟩
 ·omega
 ·cases w1 with
  | one=>exact absurd rfl hne
  | @cons _ t _ w' ht hw =>
   have htn:=hlt v hv t ht
   have:=hw.pos
   simp only [List.length_cons] at w2 w3
   refine ⟨by omega,t,ht,?_⟩
   rcases h t htn with ⟨_,q⟩ | ⟨x,x1,x2,x3⟩
   ·exact absurd hw.goes q
   ·have:=x3 w' hw
    have:=w3 _ (.cons ht x1)
    simp only [List.length_cons] at this
    omega
def sumN (F:Nat→Nat):Nat→Nat
 | 0=>0
 | n+1=>sumN F n+F n
theorem sumN_congr {F F':Nat→Nat}:∀ {n},(∀ v,v<n→F v=F' v)→sumN F n=sumN F' n
 | 0,_=>rfl
 | n+1,h=>by
  show sumN F n+F n=sumN F' n+F' n
  rw [sumN_congr (n:=n) (fun v hv=>h v (by omega)),h n (by omega)]
theorem sumN_pos {F:Nat→Nat}:∀ {n},0<sumN F n↔∃ v,v<n∧0<F v
 | 0=>by simp [sumN]
 | n+1=>by
  show 0<sumN F n+F n↔_
  constructor
  ·intro h
   by_cases e:0<sumN F n
   ·obtain ⟨v,h1,h2⟩:=sumN_pos.1 e; exact ⟨v,by omega,h2⟩
   ·exact ⟨n,by omega,by omega⟩
  ·rintro ⟨v,h1,h2⟩
   by_cases e:v=n
   ·subst e; omega
   ·have:=sumN_pos.2 ⟨v,show v<n by omega,h2⟩; omega
theorem sumN_upd {F F':Nat→Nat} {v:Nat} (h:∀ u,u≠v→F' u=F u):∀ {n},v<n→sumN F' n+F v=sumN F n+F' v
 | 0,q=>by omega
 | n+1,q=>by
  show sumN F' n+F' n+F v=sumN F n+F n+F' v
  by_cases e:v=n
  ·subst e
   rw [sumN_congr (n:=v) (fun u hu=>h u (by omega))]; omega
  ·have:=sumN_upd h (n:=n) (by omega)
   rw [h n (fun q=>e q.symm)]; omega
theorem sumN_zero:∀ n,sumN (fun _=>0) n=0
 | 0=>rfl
 | n+1=>by show sumN _ n+0=0; rw [sumN_zero n]
theorem sumN_add (F F':Nat→Nat):∀ n,sumN (fun v=>F v+F' v) n=sumN F n+sumN F' n
 | 0=>rfl
 | n+1=>by show sumN _ n+(F n+F' n)=sumN F n+F n+(sumN F' n+F' n); rw [sumN_add F F' n]; omega
theorem sumN_one (x:Nat):∀ n,sumN (fun v=>if v=x then 1 else 0) n=if x<n then 1 else 0
 | 0=>rfl
 | n+1=>by
  show sumN _ n+(if n=x then 1 else 0)=_
  rw [sumN_one x n]
  by_cases e:n=x
  ·subst e; simp
  ·rw [if_neg e]
   by_cases q:x<n
   ·rw [if_pos q,if_pos (by omega)]
   ·rw [if_neg q,if_neg (by omega)]
theorem length_counts (n:Nat):∀ (l:List Nat),(∀ x∈l,x<n)→l.length=sumN (fun v=>l.count v) n
 | [],_=>by simp [sumN_zero]
 | x::l,h=>by
  have ih:=length_counts n l (fun y hy=>h y (List.mem_cons_of_mem _ hy))
  have e:(fun v=>(x::l).count v)=fun v=>l.count v+if v=x then 1 else 0:=by
   funext v
   rw [List.count_cons]
   by_cases q:x=v
   ·simp [q]
   ·rw [if_neg (by simpa using q),if_neg (fun r=>q r.symm)]
  rw [e,sumN_add,sumN_one,if_pos (h x List.mem_cons_self),← ih,List.length_cons]
def Deg (n:Nat) (A:Nat→List Nat) (c inn:Nat→Nat):Prop:=∀ t,t<n→inn t=sumN (fun v=>((A v).drop (c v)).count t) n
theorem Deg.init {n:Nat} {A B:Nat→List Nat} (hB:∀ t,t<n→∀ x∈B t,x<n) (hc:∀ v t,v<n→t<n→(B t).count v=(A v).count t):Deg n A (fun _=>0) (fun t=>(B t).length):=by
 intro t ht
 show (B t).length=_
 rw [length_counts n _ (hB t ht)]
 exact sumN_congr fun v hv=>by rw [hc v t hv ht,List.drop_zero]
theorem Deg.step {n:Nat} {A:Nat→List Nat} {c inn:Nat→Nat} {v j t:Nat} (h:Deg n A c inn) (hv:v<n) (hj:c v=j) (ht:(A v)[j]?=some t) (htn:t<n) :
 0<inn t∧Deg n A (updN c v (j+1)) (updN inn t (inn t-1)):=by
 have hjl:j<(A v).length:=get_of ht
 have hd:(A v).drop j=t::(A v).drop (j+1):=by
  rw [List.drop_eq_getElem_cons hjl]
  rw [List.getElem?_eq_getElem hjl] at ht; injection ht with ht; rw [ht]
 have key:∀ x,sumN (fun u=>((A u).drop (updN c v (j+1) u)).count x) n+(if x=t then 1 else 0)=sumN (fun u=>((A u).drop (c u)).count x) n:=by
  intro x
  have:=sumN_upd (F:=fun u=>((A u).drop (c u)).count x) (F':=fun u=>((A u).drop (updN c v (j+1) u)).count x) (v:=v) (fun u hu=>by simp only [updN_other _ _ _ hu]) hv
  simp only [updN_same,hj,hd,List.count_cons] at this
  by_cases e:x=t
  ·subst e; rw [if_pos rfl]; simp at this; omega
  ·rw [if_neg e]
   have e2:(t==x)=false:=by simpa using fun q=>e q.symm
   rw [e2] at this; simp at this; omega
 have h1:=key t
 rw [if_pos rfl,← h t htn] at h1
 refine ⟨by omega,fun x hx=>?_⟩
 have h2:=key x
 by_cases e:x=t
 ·subst e; rw [updN_same]; omega
 ·rw [updN_other _ _ _ e,h x hx]; rw [if_neg e] at h2; omega
structure Peel (n:Nat) (A B:Nat→List Nat) (inn out:Nat→Nat) (c d:Nat→Nat) (gone:Nat→Bool) (q:List Nat) (lives:Nat→Prop):Prop where
 deg1:Deg n A c inn
 deg2:Deg n B d out
 nodup:q.Nodup
 goneq:∀ x,gone x=true↔x∈q
 low:∀ x∈q,x<n
 fresh:∀ v,v∉q→c v=0∧d v=0
 keep:∀ t,t<n→lives t→gone t=false
structure LiveSet (n:Nat) (A B:Nat→List Nat) (lives:Nat→Prop):Prop where
 behind:∀ t,t<n→lives t→∃ p,p<n∧lives p∧t∈A p
 ahead:∀ t,t<n→lives t→∃ p,p<n∧lives p∧t∈B p
section
variable {n:Nat} {A B:Nat→List Nat} {inn out c d:Nat→Nat} {gone:Nat→Bool} {q:List Nat} {lives:Nat→Prop}
theorem Peel.live_in (h:Peel n A B inn out c d gone q lives) (hL:LiveSet n A B lives) {t:Nat} (ht:t<n) (hl:lives t):0<inn t∧0<out t:=by
 have aux:∀ p,p<n→lives p→c p=0∧d p=0:=fun p hp hlp=>h.fresh p (fun q=>by have:=(h.goneq p).2 q; rw [h.keep p hp hlp] at this; cases this)
 refine ⟨?_,?_⟩
 ·obtain ⟨p,hp,hlp,hm⟩:=hL.behind t ht hl
  rw [h.deg1 t ht]
  refine sumN_pos.2 ⟨p,hp,?_⟩
  rw [(aux p hp hlp).1,List.drop_zero]
  exact List.count_pos_iff.2 hm
 ·obtain ⟨p,hp,hlp,hm⟩:=hL.ahead t ht hl
  rw [h.deg2 t ht]
  refine sumN_pos.2 ⟨p,hp,?_⟩
  rw [(aux p hp hlp).2,List.drop_zero]
  exact List.count_pos_iff.2 hm
theorem Peel.goes (h:Peel n A B inn out c d gone q lives) (hL:LiveSet n A B lives) {t:Nat} (ht:t<n) (hg:gone t=false) (h0:inn t=0∨out t=0):Peel n A B inn out c d (updN gone t true) (q++[t]) lives:=by
 have htq:t∉q:=fun r=>by have:=(h.goneq t).2 r; rw [hg] at this; cases this
 refine ⟨h.deg1,h.deg2,?_,fun x=>?_,fun x hx=>?_,fun v hv=>h.fresh v (fun r=>hv (List.mem_append_left _ r)),fun x hx hl=>?_⟩
 ·exact List.nodup_append.2 ⟨h.nodup,by simp,fun x hx y hy e=>by cases List.mem_singleton.1 hy; subst e; exact htq hx⟩
 ·by_cases e:x=t
  ·subst e; rw [updN_same]; simp
  ·rw [updN_other _ _ _ e,h.goneq]; simp [e]
 ·rcases List.mem_append.1 hx with hx | hx
  ·exact h.low x hx
  ·cases List.mem_singleton.1 hx; exact ht
 ·by_cases e:x=t
  ·subst e
   have:=h.live_in hL hx hl; omega
  ·rw [updN_other _ _ _ e]; exact h.keep x hx hl
theorem Peel.arrow1 (h:Peel n A B inn out c d gone q lives) {v j t:Nat} (hv:v∈q) (hj:c v=j) (ht:(A v)[j]?=some t) (htn:t<n) :
 0<inn t∧Peel n A B (updN inn t (inn t-1)) out (updN c v (j+1)) d gone q lives:=by
 obtain ⟨h1,h2⟩:=h.deg1.step (h.low v hv) hj ht htn
 exact ⟨h1,h2,h.deg2,h.nodup,h.goneq,h.low,fun u hu=>by
  have e:u≠v:=fun e=>hu (by rw [e]; exact hv)
  rw [updN_other _ _ _ e]; exact h.fresh u hu,h.keep⟩
end
end Go.Proofs.YtkaoebokbfcmhaaGreatDoor
