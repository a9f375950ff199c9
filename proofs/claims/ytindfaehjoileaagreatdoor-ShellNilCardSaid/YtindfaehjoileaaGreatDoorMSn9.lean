/-
  Texts that the proof leans on.
-/
import Derived.Test.YtindfaehjoileaaGreatDoorMSn8
import Derived.BigQuiet
namespace Go.Proofs.YtindfaehjoileaaGreatDoor
open Go.RowKit
set_option maxRecDepth 100000
set_option maxHeartbeats 8000000
theorem tnodes_any (N:Nat) (w:World) (hN1:1≤N) (hN:N≤81) :
 Calls Tryz.prog 276 #[.int .i64 ((N*N:Nat):Int)] w fun e w'=>e=.returned (.int .i64 N)∧w=w':=by
 have hM6:N*N≤6561:=Nat.mul_le_mul hN hN
 obtain ⟨M,hM⟩:∃ M,N*N=M:=⟨_,rfl⟩
 rw [hM] at hM6 ⊢
 replace hM:=Hd hM
 go_enter Tryz.func276,Tryz.ntmps276
 go_wp2_with fail
 go_loop [3] (fun nv=>∃ k:Nat,k≤N∧nv=.int .i64 k) (fun nv=>N-(intOf nv).toNat)
 case atStart=>exact ⟨1,hN1,rfl⟩
 case round =>
  obtain ⟨k,hk,rfl⟩:=hrel
  obtain ⟨kk,hkk⟩:∃ z,k*k=z:=⟨_,rfl⟩
  have hkk2:(k:Int)*(k:Int)=(kk:Int):=by rw [← hkk]; simp
  have hkkM:kk≤M:=by rw [← hkk,← hM.out]; exact Nat.mul_le_mul hk hk
  by_cases hlt:kk<M
  ·have hkN:k<N:=Nat.lt_of_le_of_ne hk (fun e=>by have:=hM.out; rw [e] at hkk; omega)
   replace hkk:=Hd hkk
   go_wp2
   go_round
   case measure=>simp [intOf]; omega
   case rel=>exact ⟨k+1,by omega,by go_num⟩
  ·have hkN:k=N:=by
    apply Classical.byContradiction
    intro e
    have h2:k*k<N*N:=Nat.mul_lt_mul_of_lt_of_lt (by omega) (by omega)
    rw [hkk,hM.out] at h2
    omega
   subst hkN
   replace hkk:=Hd hkk
   go_wp2
   go_ret
   exact ⟨rfl,rfl⟩
def sliceN:Value→Nat
 | .slice _ n _=>n
 | _=>0
theorem sliceN_of {w:World} {v:Value} {xs:List Int} (h:IntsAt w v xs):sliceN v=xs.length:=by
 obtain ⟨a,cap,rfl,_⟩:=h; rfl
def MeetPost (w:World) (N:Nat) (adj:Nat→List Nat) (x:Value) (w':World):Prop :=
 (∃ ws,MeetIs N adj ws∧ApartWay N adj ws∧(∀ u,ApartWay N adj u→ws.length≤u.length)∧ws.length≤20000∧OwnI w.heap.size w' x (castI ws))∨(x=.slice none 0 0∧∀ u,¬ ApartWay N adj u)
def diagsTo (N i:Nat):List Nat:=(List.range i).map fun u=>u*N+u
theorem diagsTo_succ (N i:Nat):diagsTo N (i+1)=diagsTo N i++[i*N+i]:=by simp [diagsTo,List.range_succ]
theorem meet_any (K N:Nat) (T:List Int) (ga:Option Addr) (gc:Nat) (w:World) (hk4:K≤4) (hN1:1≤N) (hN81:N≤81) (h:ListsAt w (.slice ga (pairG K N T).length gc) (pairG K N T)) :
 Calls Tryz.prog 163 #[.slice ga (pairG K N T).length gc] w (Ret1 (MeetPost w N (pairL K N T)) w):=by
 have hM6:N*N≤6561:=Nat.mul_le_mul hN81 hN81
 have hnodes:=tnodes_any N w hN1 hN81
 have lg:=h.len 3
 have hrow:=fun (p:Nat) (hp:p<N*N)=>h.row p (by rw [pairG_len]; exact hp)
 have hrow2:∀ p,p<N*N→(pairG K N T).getD p []=castI (pairL K N T p):=fun p hp=>pairG_row hp
 rw [pairG_len] at lg h ⊢
 obtain ⟨M,hM⟩:∃ M,N*N=M:=⟨_,rfl⟩
 have hMe:=hM
 rw [pairG_len] at hrow
 rw [hM] at hnodes hM6 lg h hrow hrow2 ⊢
 have b0:=belowAlloc w (.cells #[.int .i64 (-1)] 3)
 have hI:=(OwnI.lit w.heap.size w (Nat.le_refl _) [-1] (by simp [maxLen]) #[.int .i64 (-1)] rfl 1 rfl).at
 have hRep:=repeat_any _ (-1) M _ hI (by omega)
 replace hRep:=Hd hRep
 replace hI:=Hd hI
 replace hnodes:=Hd hnodes
 replace hM:=Hd hM
 replace hMe:=Hd hMe
 replace h:=Hd h
 replace hrow:=Hd hrow
 replace hrow2:=Hd hrow2
 go_enter Tryz.func163,Tryz.ntmps163
 go_wp2_with fail
 refine hnodes.out.mono ?_
 rintro e w' ⟨rfl,rfl⟩
 go_wp2_with fail
 refine hRep.out.mono ?_
 rintro e w1 ⟨cv,rfl,b1,hcv⟩
 obtain ⟨w0,hw0⟩:∃ w0:World,w0=w.alloc (.cells #[.int .i64 (-1)] 3):=⟨_,rfl⟩
 rw [← hw0] at b0 b1 hcv
 rw [← tabI_neg1] at hcv
 clear hRep hI hw0
 have b01:=Below.step b0 b1
 have R1:=(rowsE w.heap.size w0).add (i:=(1,0)) (r':=rowI cv (tabI M fun _=>-1)) b1 (hcv.mono b0.size) (fun k hk=>(hcv.lt k hk).1)
 have R2:=R1.add (i:=(2,0)) (r':=rowI (.slice none 0 0) []) (Below.refl _ _) (OwnI.nil _ _) (fun k hk=>by cases hk)
 obtain ⟨f0,hf0⟩:∃ f0,f0=upd (upd (fun _=>none) (1,0) (some (rowI cv (tabI M fun _=>-1)))) (2,0) (some (rowI (.slice none 0 0) [])):=⟨_,rfl⟩
 rw [← hf0] at R2
 have hF0:FN f0 cv (.slice none 0 0) M (fun _=>-1) (diagsTo N 0):=⟨by rw [hf0,upd_ne _ _ (by simp),upd_same],by rw [hf0,upd_same]; rfl⟩
 obtain ⟨ca,cn,cc,rfl⟩:=hcv.at.shape
 replace R2:=Hd R2
 replace hF0:=Hd hF0
 replace hcv:=Hd hcv
 clear R1 hf0
 go_wp2_with fail
 go_loopw [5,22] (fun qv iv wr=>∃ (i:Nat) (f:Names) (qw:Value),i≤N∧iv=.int .i64 i∧qw=qv∧Rows w.heap.size wr f∧Below w.heap.size w wr∧FN f (.slice ca cn cc) qw M (fun _=>-1) (diagsTo N i)) (fun _ iv _=>N-(intOf iv).toNat)
 case atStart=>exact ⟨0,f0,_,by omega,rfl,rfl,R2.out,b01,hF0.out⟩
 case round =>
  clear R2 hF0 hcv
  obtain ⟨i,f1,qv,hi,rfl,rfl,hr1,bI,hF⟩:=hrel
  obtain ⟨wo,rfl⟩:∃ wo:World,wo=wr:=⟨_,rfl⟩
  by_cases hil:i<N
  ·obtain ⟨m,hm⟩:∃ z,i*N=z:=⟨_,rfl⟩
   have hm2:(i:Int)*(N:Int)=(m:Int):=by rw [← hm]; simp
   have hml:m≤6561:=by rw [← hm]; exact Nat.le_trans (Nat.mul_le_mul (show i≤81 by omega) hN81) (by decide)
   obtain ⟨z,hz⟩:∃ z,m+i=z:=⟨_,rfl⟩
   have hz2:(m:Int)+(i:Int)=(z:Int):=by omega
   have hwm:IntKind.i64.wrap (m:Int)=m:=wrapK (by omega) (by omega)
   have hwz:IntKind.i64.wrap (z:Int)=z:=wrapK (by omega) (by omega)
   have hds:diagsTo N (i+1)=diagsTo N i++[z]:=by rw [diagsTo_succ,hm,hz]
   have hoQ:=hr1.ownI hF.queue
   have hB:=bI.size
   have hil2:=Hd hil
   have hlq:(castI (diagsTo N i)).length≤81:=by rw [castI_len]; simp [diagsTo]; omega
   replace hr1:=Hd hr1
   replace hF:=Hd hF
   replace hm:=Hd hm
   replace hz:=Hd hz
   replace hds:=Hd hds
   go_wp2_with (at_builtin; refine wpl_app1 rfl _ _ rfl w.heap.size qv _ z hoQ rfl rfl (by omega) hB ?_)
   intro qv' w7 ho7 b7 hal7
   obtain ⟨f8,hr8,h8,_⟩:=hF.out.push hr1.out z ho7 hal7
   obtain ⟨q1,q2,q3,rfl⟩:=ho7.at.shape
   replace hr8:=Hd hr8
   replace ho7:=Hd ho7
   clear hal7 hoQ
   go_wp2
   go_roundw
   case measure=>have:=hil2.out; simp [intOf]; omega
   case rel=>exact ⟨i+1,f8,_,by have:=hil2.out; omega,by go_num,rfl,hr8.out,bI.trans b7,by rw [hds.out]; exact h8⟩
  ·obtain rfl:i=N:=by omega
   have hO0:=MOut.init i (pairL K i T)
   have hC0:=CameOf.init i (pairL K i T)
   have hNz1:¬ (i:Int)=0:=by omega
   have hNz2:((i:Int)==0)=false:=by rw [beq_eq_false_iff_ne]; omega
   have hNz3:¬ i=0:=by omega
   replace hr1:=Hd hr1
   replace hF:=Hd hF
   replace hO0:=Hd hO0
   replace hC0:=Hd hC0
   go_wp2_with fail
   go_loopw [5,7] (fun qv iv wr=>∃ (j:Nat) (f:Names) (qw:Value) (came:Nat→Int) (q:List Nat) (D:Nat→Nat),j≤q.length∧iv=.int .i64 j∧qw=qv∧Rows w.heap.size wr f∧Below w.heap.size w wr∧FN f (.slice ca cn cc) qw M came q∧MOut i (pairL K i T) D q j∧CameOf i (pairL K i T) D q came∧stM i (pairL K i T) j=(came,q)∧∀ z,z<j→NoHit i (pairL K i T) z) (fun _ iv _=>M+1-(intOf iv).toNat)
   case atStart=>exact ⟨0,f1,_,_,_,_,by omega,rfl,rfl,hr1.out,bI,hF.out,hO0.out,hC0.out,rfl,fun z hz=>absurd hz (Nat.not_lt_zero _)⟩
   case round =>
    clear hr1 hF hO0 hC0 bI
    obtain ⟨j,f2,qv,came,q,D,hj,rfl,rfl,hr2,b2,hF2,hO,hC,hst,hnh⟩:=hrel
    obtain ⟨wo,rfl⟩:∃ wo:World,wo=wr:=⟨_,rfl⟩
    have hqlen:q.length≤M:=nodup_len M q hO.nodup (fun x hx=>by rw [← hM.out]; exact hO.low x hx)
    have hOQ:=hr2.ownI hF2.queue
    have lQ:=hOQ.at.len
    rw [castI_len] at lQ
    by_cases hjl:j<q.length
    ·obtain ⟨v,hv⟩:∃ v,q[j]?=some v:=⟨_,List.getElem?_eq_getElem hjl⟩
     have hvM:v<M:=by rw [← hM.out]; exact hO.low v (List.mem_of_getElem? hv)
     have iV:=fun w'=>hOQ.at.idx j (by rw [castI_len]; exact hjl) w'
     have cV:=hOQ.at.cellD j (by rw [castI_len]; exact hjl)
     rw [castI_get hv] at cV
     obtain ⟨mv,iR,cR,hMv⟩:=hrow.out v hvM
     rw [hrow2.out v hvM] at hMv
     have cR2:=(b2.cell (World.block_lt_of_cell? _ _ cR)).trans cR
     have lM:=hMv.len
     rw [castI_len] at lM
     have hadjl:(pairL K i T v).length≤16:=Nat.le_trans (pairL_len K i T v) (Nat.le_trans (Nat.mul_le_mul hk4 hk4) (by decide))
     obtain ⟨d1,d2,d3,d4,d5,d6⟩:=dm v i (by omega)
     obtain ⟨u1,hu1⟩:∃ z,v/i=z:=⟨_,rfl⟩
     obtain ⟨v1,hv1⟩:∃ z,v%i=z:=⟨_,rfl⟩
     rw [hu1] at d1 d3 d5
     rw [hv1] at d2 d4 d6
     have hvd:Diag i v↔u1=v1:=by unfold Diag; rw [hu1,hv1]
     have hin:=hO.enter hv
     have hjl2:=Hd hjl
     obtain ⟨L,hL⟩:∃ L,pairL K i T v=L:=⟨_,rfl⟩
     rw [hL] at hMv lM hadjl
     have hLlow:∀ t∈L,t<M:=fun t ht=>by
      rw [← hL] at ht
      rw [← hM.out]; exact ((mem_pairL (by omega)).1 ht).lt (by omega)
     generalize valAt qv j=qa at *
     generalize valAt (.slice ga M gc) v=ra at *
     obtain ⟨ap,hap⟩:∃ ap:Bool,ap=((u1:Int) != (v1:Int)):=⟨_,rfl⟩
     have hapd:ap=true↔¬ Diag i v:=by rw [hap,bne_iff_ne,hvd]; omega
     have hap2:((u1:Int) != (v1:Int))=ap:=hap.symm
     have hap3:(u1 != v1)=ap:=by rw [hap]; rw [Bool.eq_iff_iff,bne_iff_ne,bne_iff_ne]; omega
     replace hap:=Hd hap
     replace hu1:=Hd hu1
     replace hv1:=Hd hv1
     replace hvd:=Hd hvd
     replace hL:=Hd hL
     replace hMv:=Hd hMv
     replace hin:=Hd hin
     replace hr2:=Hd hr2
     replace hF2:=Hd hF2
     replace hO:=Hd hO
     replace hC:=Hd hC
     replace hOQ:=Hd hOQ
     replace hv:=Hd hv
     have hstv:(stM i (pairL K i T) j).2[j]?=some v:=by rw [hst]; exact hv.out
     replace hstv:=Hd hstv
     replace hst:=Hd hst
     replace hnh:=Hd hnh
     go_upto_region 13 with fail
     refine wp_region_plan (fun _=>True) 7 [(0,true),(1,true),(2,true),(3,true),(4,true),(5,true),(6,true)] (by kernel_rfl) (by kernel_rfl) ?_
     have hS:True:=trivial
     refine pqY 44 hS ?_
     refine pqY 45 hS ?_
     refine pqY 46 hS ?_
     refine pqY 47 hS ?_
     refine pqY 48 hS ?_
     refine pqY 49 hS ?_
     refine pqY 50 hS ?_
     refine head0 ?_
     simp only [List.drop_succ_cons,List.drop_zero]
     clear hS
     go_wp2
     refine NoPanic.normal ?_
     go_wp2_with fail
     clear cV iV cR2 lQ hap2 hap3
     go_loopw [5,56] (fun qv tv wr=>∃ (k:Nat) (f:Names) (qw:Value) (came:Nat→Int) (q:List Nat) (D:Nat→Nat),k≤L.length∧tv=.int .i64 k∧qw=qv∧Rows w.heap.size wr f∧Below w.heap.size w wr∧FN f (.slice ca cn cc) qw M came q∧j<q.length∧MIn i (pairL K i T) D q j v (L.take k)∧CameOf i (pairL K i T) D q came∧rowM i (pairL K i T) v (stM i (pairL K i T) j) k=(came,q)) (fun _ tv _=>L.length-(intOf tv).toNat)
     case atStart=>exact ⟨0,f2,_,came,q,D,by omega,rfl,rfl,hr2.out,by first | exact b2 | exact b2.drew,hF2.out,hjl2.out,hin.out,hC.out,hst.out⟩
     case round =>
      clear hr2 hF2 hO hC hOQ hin b2 hqlen hst
      obtain ⟨k,f3,qv,came,q,D,hk,rfl,rfl,hr3,b3,hF3,hjq,hIn,hC,hrm⟩:=hrel
      obtain ⟨wp',rfl⟩:∃ wo:World,wo=wr:=⟨_,rfl⟩
      have hqlen:q.length≤M:=nodup_len M q hIn.nodup (fun x hx=>by rw [← hM.out]; exact hIn.low x hx)
      by_cases hkl:k<L.length
      ·obtain ⟨t,ht⟩:∃ t,L[k]?=some t:=⟨_,List.getElem?_eq_getElem hkl⟩
       have htm:t∈pairL K i T v:=by rw [hL.out]; exact List.mem_of_getElem? ht
       have htM:t<M:=hLlow t (List.mem_of_getElem? ht)
       have hM3:=hMv.out.below b3
       have iT:=fun w'=>hM3.idx k (by rw [castI_len]; exact hkl) w'
       have cT:=hM3.cellD k (by rw [castI_len]; exact hkl)
       rw [castI_get ht] at cT
       have htk:L.take (k+1)=L.take k++[t]:=by rw [List.take_add_one,ht]; rfl
       have hrs:rowM i (pairL K i T) v (stM i (pairL K i T) j) (k+1)=stepM i v (came,q) t:=by rw [rowM_succ (t:=t) (by rw [hL.out]; exact ht),hrm]
       have hskip:(Diag i t∨¬ came t<0)→stepM i v (came,q) t=(came,q):=fun e=>by
        unfold stepM; rw [if_neg]; rintro ⟨e1,e2⟩; rcases e with e | e
        ·exact e1 e
        ·exact e e2
       have hpush:¬ Diag i t→came t<0→stepM i v (came,q) t=(updN came t (v:Int),q++[t]):=fun e1 e2=>by
        unfold stepM; rw [if_pos ⟨e1,e2⟩]
       replace hrs:=Hd hrs
       replace hskip:=Hd hskip
       replace hpush:=Hd hpush
       replace hrm:=Hd hrm
       obtain ⟨e1,e2,e3,e4,e5,e6⟩:=dm t i (by omega)
       obtain ⟨a,ha⟩:∃ z,t/i=z:=⟨_,rfl⟩
       obtain ⟨b,hb⟩:∃ z,t%i=z:=⟨_,rfl⟩
       have htd:Diag i t↔a=b:=by unfold Diag; rw [ha,hb]
       rw [ha] at e1 e3 e5
       rw [hb] at e2 e4 e6
       have hOC:=hr3.ownI hF3.came
       have iC:=fun w'=>hOC.at.idx t (by rw [tabI_len]; exact htM) w'
       have cC:=hOC.at.cellD t (by rw [tabI_len]; exact htM)
       rw [tabI_get _ _ _ htM] at cC
       have fC:=hOC.frz t (by rw [tabI_len]; exact htM)
       have kC:=(hOC.toV.blkB t (by rw [List.length_map,tabI_len]; exact htM)).2
       obtain ⟨f8,hr8,h8,hf8⟩:=hF3.set hr3 t htM (v:Int)
       obtain ⟨ct,hct⟩:∃ ct,came t=ct:=⟨_,rfl⟩
       rw [hct] at cC
       have hC1:=hC.1 t (by rw [hM.out]; exact htM)
       rw [hct] at hC1
       have hkl2:=Hd hkl
       have hBs:=b3.size
       generalize valAt mv k=ta at *
       generalize valAt (.slice ca cn cc) t=tc at *
       replace ha:=Hd ha
       replace hb:=Hd hb
       replace ht:=Hd ht
       replace hM3:=Hd hM3
       replace hOC:=Hd hOC
       replace hr3:=Hd hr3
       replace hF3:=Hd hF3
       replace hIn:=Hd hIn
       replace hC:=Hd hC
       replace hr8:=Hd hr8
       replace h8:=Hd h8
       replace htk:=Hd htk
       replace htm:=Hd htm
       replace hct:=Hd hct
       replace hC1:=Hd hC1
       by_cases hab:a=b
       ·have hq:((a:Int) != (b:Int))=false:=by rw [bne_eq_false_iff_eq]; omega
        have hq2:((a:Int)==(b:Int))=true:=by rw [beq_iff_eq]; omega
        have htD:=htd.2 hab
        replace htd:=Hd htd
        go_upto_region 17 with fail
        refine wp_region_plan (fun _=>True) 14 [(0,true),(1,true),(2,true),(3,true),(4,true),(5,true),(6,true),(7,true),(8,true),(9,true),(10,true),(11,true),(12,true),(13,true)] (by kernel_rfl) (by kernel_rfl) ?_
        have hS:True:=trivial
        refine pqY 61 hS ?_
        refine pqY 62 hS ?_
        refine pqY 63 hS ?_
        refine pqY 64 hS ?_
        refine pqY 65 hS ?_
        refine pqY 66 hS ?_
        refine pqY 67 hS ?_
        refine pqY 68 hS ?_
        refine pqN 69 hS ?_
        refine pqN 70 hS ?_
        refine pqN 71 hS ?_
        refine pqN 72 hS ?_
        refine pqN 73 hS ?_
        refine pqY 74 hS ?_
        refine head0 ?_
        simp only [List.drop_succ_cons,List.drop_zero]
        clear hS
        go_wp2
        refine NoPanic.normal ?_
        go_upto_region 20 with fail
        refine wp_region_plan (fun _=>True) 10 [(0,true),(1,true),(2,true),(3,true),(4,true),(5,true),(6,true),(7,true),(8,true),(9,true)] (by kernel_rfl) (by kernel_rfl) ?_
        have hS:True:=trivial
        refine pqY 84 hS ?_
        refine pqY 85 hS ?_
        refine pqY 86 hS ?_
        refine pqY 87 hS ?_
        refine pqY 88 hS ?_
        refine pqY 89 hS ?_
        refine pqY 90 hS ?_
        refine pqY 91 hS ?_
        refine pqY 92 hS ?_
        refine pqY 93 hS ?_
        refine head0 ?_
        simp only [List.drop_succ_cons,List.drop_zero]
        clear hS
        cases ap with
        | false =>
         have hvD:Diag i v:=by
          apply Classical.byContradiction
          intro e
          have:=hapd.2 e
          cases this
         have hsk:=hIn.out.skip (.inl ⟨htD,hvD⟩)
         rw [← htk.out] at hsk
         replace hsk:=Hd hsk
         clear hapd
         go_wp2
         refine NoPanic.normal ?_
         go_wp2
         go_roundw
         case measure=>have:=hkl2.out; simp [intOf]; omega
         case rel=>exact ⟨k+1,f3,_,came,q,D,by have:=hkl2.out; omega,by go_num,rfl,hr3.out.drew.drew,b3.drew.drew,hF3.out,hjq,hsk.out,hC.out,by rw [hrs.out,hskip.out (.inl htD)]⟩
        | true =>
         have hvD:¬ Diag i v:=hapd.1 rfl
         obtain ⟨c,hbw,hap1,hap2,hap3⟩:=hIn.out.met hC.out hvD htD (by rw [hM.out]; exact htM) htm.out
         have hmi:MeetIs i (pairL K i T) (c.reverse++[t]):=⟨j,v,k,t,c,hstv.out,by rw [hL.out]; exact ht.out,htD,hvD,by rw [hrm.out]; exact hbw,rfl,hnh.out,fun z x hz hx hd=>(hIn.out.now x (by rw [hL.out] at hx; exact List.mem_of_getElem? (by rw [List.getElem?_take,if_pos hz]; exact hx))).2 hd⟩
         have hDv:D v≤q.length:=hIn.out.bnd v (List.mem_of_getElem? hIn.out.at_)
         have hcl:c.length≤7000:=by
          have:(c.reverse++[t]).length=c.length+1:=by simp
          omega
         have hnx:=hbw.next (by rw [hM.out]; exact hvM)
         have hrc:castI (c.reverse++[t])=(castI (t::c)).reverse:=by rw [← castI_reverse,List.reverse_cons]
         obtain ⟨c',hc'⟩:=hbw.ne
         have hc0:c[0]?=some v:=by rw [hc']; rfl
         have hc1:0<c.length:=by rw [hc']; simp
         obtain ⟨W,hW⟩:∃ W:World,W=wp'.drew.drew:=⟨_,rfl⟩
         have bWp:Below wp'.heap.size wp' W:=by rw [hW]; exact (Below.refl _ _).drew.drew
         have hrW:Rows w.heap.size W f3:=by rw [hW]; exact hr3.out
         have bW:=b3.trans (bWp.mono b3.size)
         have bl:=belowAlloc W (.cells #[.int .i64 t] 3)
         have hlit:=OwnI.lit W.heap.size W (Nat.le_refl _) [(t:Int)] (by simp [maxLen]) #[.int .i64 (t:Int)] rfl 1 rfl
         replace hnx:=Hd hnx
         replace hbw:=Hd hbw
         replace hrc:=Hd hrc
         replace hap1:=Hd hap1
         replace hmi:=Hd hmi
         replace hap2:=Hd hap2
         replace hap3:=Hd hap3
         replace hc':=Hd hc'
         replace hc0:=Hd hc0
         replace hlit:=Hd hlit
         replace hrW:=Hd hrW
         clear hapd iT cT iC cC fC
         go_wp2
         refine NoPanic.normal ?_
         go_upto_region 21 with fail
         rw [← hW]
         replace hW:=Hd hW
         go_wp2_with fail
         go_loopw [12,13] (fun wv uv wr=>∃ (m:Nat) (ww:Value),m≤c.length∧ww=wv∧((m<c.length∧∃ y,c[m]?=some y∧uv=.int .i64 (y:Nat))∨(m=c.length∧uv=.int .i64 (-1)))∧OwnI W.heap.size wr ww (castI (t::c.take m))∧Below W.heap.size W wr) (fun wv _ _=>c.length+1-sliceN wv)
         case atStart=>exact ⟨0,_,by omega,rfl,.inl ⟨hc1,v,hc0.out,rfl⟩,hlit.out,bl⟩
         case round =>
          obtain ⟨m,ww,hm,rfl,hcase,hoW,bWr⟩:=hrel
          obtain ⟨wz,rfl⟩:∃ wo:World,wo=wr:=⟨_,rfl⟩
          have hwl:(castI (t::c.take m)).length=m+1:=by rw [castI_len,List.length_cons,List.length_take]; omega
          have hsn:sliceN ww=m+1:=by rw [sliceN_of hoW.at,hwl]
          rcases hcase with ⟨hmc,y,hy,rfl⟩ | ⟨hmc,rfl⟩
          ·obtain ⟨hyM,hnext⟩:=hnx.out m y hy
           rw [hM.out] at hyM
           have htk2:castI (t::c.take m)++[(y:Int)]=castI (t::c.take (m+1)):=by
            rw [← castI_snoc,List.take_add_one,hy]; rfl
           have hBW:=bWr.size
           replace hnext:=Hd hnext
           replace hy:=Hd hy
           replace hsn:=Hd hsn
           replace htk2:=Hd htk2
           go_wp2_with (at_builtin; go_loud (refine wpl_append1 rfl _ _ rfl W.heap.size ww _ y hoW rfl rfl (by omega) hBW ?_))
           intro v' w7 ho7 b7 _ _
           have bW7:=bWr.trans b7
           have hOC7:=(hrW.out.below bW7).ownI hF3.out.came
           have iY:=fun w'=>hOC7.at.idx y (by rw [tabI_len]; exact hyM) w'
           have cY:=hOC7.at.cellD y (by rw [tabI_len]; exact hyM)
           rw [tabI_get _ _ _ hyM] at cY
           rw [htk2.out] at ho7
           have hl7:(castI (t::c.take (m+1))).length=m+2:=by rw [castI_len,List.length_cons,List.length_take]; omega
           have hs7:sliceN v'=m+2:=by rw [sliceN_of ho7.at,hl7]
           obtain ⟨va,vn,vc,rfl⟩:=ho7.at.shape
           generalize valAt (.slice ca cn cc) y=ya at *
           obtain ⟨z,hz⟩:∃ z,came y=z:=⟨_,rfl⟩
           rw [hz] at cY
           have hnext2:(m+1<c.length∧∃ x,c[m+1]?=some x∧z=(x:Nat))∨(m+1=c.length∧z=-1):=by rw [← hz]; exact hnext.out
           replace ho7:=Hd ho7
           replace hOC7:=Hd hOC7
           replace hz:=Hd hz
           replace hs7:=Hd hs7
           replace hnext2:=Hd hnext2
           clear hoW
           go_wp2
           go_roundw
           case measure=>have:=hs7.out; have:=hsn.out; omega
           case rel =>
            refine ⟨m+1,_,by omega,rfl,?_,ho7.out,bW7⟩
            rcases hnext2.out with ⟨h1,x,h2,h3⟩ | ⟨h1,h2⟩
            ·exact .inl ⟨h1,x,h2,by rw [h3]⟩
            ·exact .inr ⟨h1,by rw [h2]⟩
          ·subst hmc
           rw [List.take_length] at hoW
           replace hoW:=Hd hoW
           replace hsn:=Hd hsn
           go_wp2_with fail
           refine (reverse_own W.heap.size ww _ wz hoW.out (by rw [castI_len,List.length_cons]; omega)).mono ?_
           rintro e w8 ⟨rfl,ho8,b8⟩
           rw [← hrc.out] at ho8
           have bE:=bW.trans ((bWr.trans b8).mono bW.size)
           have ho9:=ho8.mono (B':=w.heap.size) bW.size
           have hlen9:(c.reverse++[t]).length≤20000:=by simp; omega
           obtain ⟨va,vn,vc,rfl⟩:=ho8.at.shape
           replace ho8:=Hd ho8
           replace ho9:=Hd ho9
           go_wp2
           go_ret
           exact ⟨_,rfl,bE,.inl ⟨_,hmi.out,hap1.out,hap3.out,hlen9,ho9.out⟩⟩
       ·have hq:((a:Int) != (b:Int))=true:=by rw [bne_iff_ne]; omega
        have hq2:((a:Int)==(b:Int))=false:=by rw [beq_eq_false_iff_ne]; omega
        have htD:¬ Diag i t:=fun e=>hab (htd.1 e)
        replace htd:=Hd htd
        by_cases hneg:ct<0
        ·obtain rfl:=hC1.out.2 hneg
         have htq:t∉q:=(hC1.out.1.1 (by decide)).resolve_left htD
         have hadd:=hIn.out.add (by rw [hM.out]; exact htM) htD htq
         have hcadd:=hC.out.add hIn.out htD htq htm.out
         rw [← htk.out] at hadd
         replace hadd:=Hd hadd
         replace hcadd:=Hd hcadd
         replace htq:=Hd htq
         go_upto_region 17 with fail
         refine wp_region_plan (fun w'=>w'.cell? tc=some (.int .i64 (-1))) 14 [(0,true),(1,true),(2,true),(3,true),(4,true),(5,true),(6,true),(7,true),(8,true),(9,true),(10,true),(11,true),(12,true),(13,true)] (by kernel_rfl) (by kernel_rfl) ?_
         have hS:wp'.drew.cell? tc=some (.int .i64 (-1)):=cC
         refine pqY 61 hS ?_
         refine pqY 62 hS ?_
         refine pqY 63 hS ?_
         refine pqY 64 hS ?_
         refine pqY 65 hS ?_
         refine pqY 66 hS ?_
         refine pqY 67 hS ?_
         refine pqY 68 hS ?_
         refine pqY 69 hS ?_
         refine pqY 70 hS ?_
         refine pqY 71 hS ?_
         refine pqY 72 hS ?_
         refine pqY 73 hS ?_
         refine pqY 74 hS ?_
         refine head0 ?_
         simp only [List.drop_succ_cons,List.drop_zero]
         clear hS
         have hr8':Rows w.heap.size ((wp'.setCell tc (.int .i64 (v:Int))).drew) f8:=hr8.out
         have b8:Below w.heap.size w ((wp'.setCell tc (.int .i64 (v:Int))).drew):=(b3.setCell kC _).drew
         obtain ⟨W8,hW8⟩:∃ W:World,W=(wp'.setCell tc (.int .i64 (v:Int))).drew:=⟨_,rfl⟩
         rw [← hW8] at hr8' b8
         have hoQ8:=hr8'.ownI h8.out.queue
         have hB8:=b8.size
         have hlq:(castI q).length≤7000:=by rw [castI_len]; omega
         replace hr8':=Hd hr8'
         go_wp2
         refine NoPanic.normal ?_
         go_upto_region 19 with fail
         rw [← hW8]
         replace hW8:=Hd hW8
         go_wp2_with (at_builtin; go_loud (refine wpl_app1 rfl _ _ rfl w.heap.size qv _ t hoQ8 rfl rfl (by omega) hB8 ?_))
         intro qv' w9 ho9 b9 hal9
         obtain ⟨f9,hr9,h9,_⟩:=h8.out.push hr8'.out t ho9 hal9
         obtain ⟨q1,q2,q3,rfl⟩:=ho9.at.shape
         replace hr9:=Hd hr9
         replace ho9:=Hd ho9
         clear hal9 hoQ8
         go_wp2
         go_roundw
         case measure=>have:=hkl2.out; simp [intOf]; omega
         case rel=>exact ⟨k+1,f9,_,_,_,_,by have:=hkl2.out; omega,by go_num,rfl,hr9.out,b8.trans b9,h9,by simp; omega,hadd.out,hcadd.out,by rw [hrs.out,hpush.out htD (by rw [hct.out]; decide)]⟩
        ·obtain ⟨pc,rfl⟩:=Int.eq_ofNat_of_zero_le (show 0≤ct by omega)
         have htq:t∈q:=by
          apply Classical.byContradiction
          intro e
          exact hneg (hC1.out.1.2 (.inr e))
         have hsk:=hIn.out.skip (.inr ⟨htD,htq⟩)
         rw [← htk.out] at hsk
         replace hsk:=Hd hsk
         replace htq:=Hd htq
         go_upto_region 17 with fail
         refine wp_region_plan (fun w'=>w'.cell? tc=some (.int .i64 (pc:Nat))) 14 [(0,true),(1,true),(2,true),(3,true),(4,true),(5,true),(6,true),(7,true),(8,true),(9,true),(10,true),(11,true),(12,true),(13,true)] (by kernel_rfl) (by kernel_rfl) ?_
         have hS:wp'.drew.cell? tc=some (.int .i64 (pc:Nat)):=cC
         refine pqY 61 hS ?_
         refine pqY 62 hS ?_
         refine pqY 63 hS ?_
         refine pqY 64 hS ?_
         refine pqY 65 hS ?_
         refine pqY 66 hS ?_
         refine pqY 67 hS ?_
         refine pqY 68 hS ?_
         refine pqY 69 hS ?_
         refine pqY 70 hS ?_
         refine pqY 71 hS ?_
         refine pqY 72 hS ?_
         refine pqY 73 hS ?_
         refine pqY 74 hS ?_
         refine head0 ?_
         simp only [List.drop_succ_cons,List.drop_zero]
         clear hS
         go_wp2
         refine NoPanic.normal ?_
         go_upto_region 20 with fail
         refine wp_region_plan (fun _=>True) 10 [(0,true),(1,true),(2,true),(3,true),(4,true),(5,true),(6,true),(7,true),(8,true),(9,true)] (by kernel_rfl) (by kernel_rfl) ?_
         have hS:True:=trivial
         refine pqY 84 hS ?_
         refine pqY 85 hS ?_
         refine pqY 86 hS ?_
         refine pqY 87 hS ?_
         refine pqY 88 hS ?_
         refine pqY 89 hS ?_
         refine pqY 90 hS ?_
         refine pqY 91 hS ?_
         refine pqN 92 hS ?_
         refine pqY 93 hS ?_
         refine head0 ?_
         simp only [List.drop_succ_cons,List.drop_zero]
         clear hS
         go_wp2
         refine NoPanic.normal ?_
         go_wp2
         go_roundw
         case measure=>have:=hkl2.out; simp [intOf]; omega
         case rel=>exact ⟨k+1,f3,_,came,q,D,by have:=hkl2.out; omega,by go_num,rfl,hr3.out.drew.drew,b3.drew.drew,hF3.out,hjq,hsk.out,hC.out,by rw [hrs.out,hskip.out (.inr (by rw [hct.out]; omega))]⟩
      ·obtain rfl:k=L.length:=by omega
       rw [List.take_length] at hIn
       have hout:=hIn.leave hL.out.symm
       have hst2:stM i (pairL K i T) (j+1)=(came,q):=by rw [stM_succ hstv.out,hL.out,hrm]
       have hnh2:∀ z,z<j+1→NoHit i (pairL K i T) z:=fun z hz=>by
        by_cases e:z=j
        ·subst e
         intro v' hv' t ht htD
         rw [hstv.out] at hv'
         obtain rfl:=Option.some.inj hv'
         rw [hL.out] at ht
         exact (hIn.now t ht).2 htD
        ·exact hnh.out z (by omega)
       replace hst2:=Hd hst2
       replace hnh2:=Hd hnh2
       replace hout:=Hd hout
       replace hIn:=Hd hIn
       replace hr3:=Hd hr3
       replace hF3:=Hd hF3
       replace hC:=Hd hC
       go_wp2
       go_roundw
       case measure=>simp [intOf]; omega
       case rel=>exact ⟨j+1,f3,_,came,q,D,by omega,by go_num,rfl,hr3.out,b3,hF3.out,hout.out,hC.out,hst2.out,hnh2.out⟩
    ·obtain rfl:j=q.length:=by omega
     have hno:=hO.none (Nat.le_refl _)
     replace hno:=Hd hno
     replace hr2:=Hd hr2
     replace hF2:=Hd hF2
     replace hO:=Hd hO
     replace hC:=Hd hC
     replace hOQ:=Hd hOQ
     go_wp2
     go_ret
     exact ⟨_,rfl,b2,.inr ⟨rfl,hno.out⟩⟩
end Go.Proofs.YtindfaehjoileaaGreatDoor
namespace Go.Proofs.YtindfaehjoileaaGreatDoor
open Go.RowKit
set_option maxRecDepth 100000
theorem Rows.push {B:Nat} {w w1:World} {f:Names} {i:Nat×Nat} {v v':Value} {xs:List Int} (h:Rows B w f) (hi:f i=some (rowI v xs)) (x:Int) (ho:OwnI B w1 v' (xs++[x]))
 (hg:w.grownBy w1 v.ownBlock) (hal:v'.ownBlock=v.ownBlock∨∃ k,v'.ownBlock=some k∧w.heap.size≤k):Rows B w1 (upd f i (some (rowI v' (xs++[x])))) :=
 h.grown (r':=rowI v' (xs++[x])) hi hg ho hal
theorem alongW_snoc (K m:Nat) (F:Nat→Nat) (l:List Nat) (p:Nat) (hl:l≠[]):alongW K m F (l++[p])=alongW K m F l++[((F p%K:Nat):Int)]:=by
 cases l with
 | nil=>exact absurd rfl hl
 | cons a l=>simp [alongW,List.getD]
theorem alongW_one (K m:Nat) (F:Nat→Nat) (p:Nat):alongW K m F [p]=digs K m (F p):=by simp [alongW,List.getD]
theorem pairs_wrong (r:Nat→Addr) (at_ n:Int) (w:World) (hg:Glob r w) (h1:1≤n) (h2:n≤11) :
 Calls Tryz.prog 280 #[.int .i64 at_,.int .i64 n] w (Ret1 (fun v w'=>ErrIs r w' (fresh sPairs at_ n) v) w):=by
 go_enter Tryz.func280,Tryz.ntmps280
 go_wp2_with fail
 refine (new_any r _ at_ n w hg h1 h2).mono ?_
 rintro e w' ⟨v,rfl,hb,he⟩
 go_wp2
 go_ret
 exact ⟨_,rfl,hb,he⟩
def AllFit (K N:Nat) (T:List Int) (ns:List Nat):Prop:=∀ i,i+1<ns.length→StepFits K N T (ns.getD i 0) (ns.getD (i+1) 0)
set_option maxHeartbeats 8000000
def WordsPost (r:Nat→Addr) (w:World) (K R:Nat) (T:List Int) (ns:List Nat) (x y z:Value) (w':World):Prop :=
 (AllFit K (pw K (2*R)) T ns∧z=.nilIface∧OwnI w.heap.size w' x (alongW K (2*R) (·/pw K (2*R)) ns)∧OwnI w.heap.size w' y (alongW K (2*R) (·%pw K (2*R)) ns)∧(x.ownBlock=none∨x.ownBlock≠y.ownBlock)) ∨
 (¬ AllFit K (pw K (2*R)) T ns∧x=.slice none 0 0∧y=.slice none 0 0∧ErrIs r w' (fresh sPairs 1 3) z)
theorem pwords_way (r:Nat→Addr) (K R:Nat) (va:Option Addr) (vn vc:Nat) (T:List Int) (u:Value) (ns:List Nat) (w:World) (hg:Glob r w) (h:IntsAt w (.slice va vn vc) T) (hr:RuleOk K R T) (hl:T.length≤256) (hu:IntsAt w u (castI ns)) (hne:ns≠[]) (hlow:∀ p∈ns,p<pw K (2*wkR R)*pw K (2*wkR R)) (hnl:ns.length≤17592186044000) :
 Calls Tryz.prog 164 #[.agg #[.int .i64 K,.int .i64 R,.slice va vn vc],u] w (Ret3 (WordsPost r w K (wkR R) (wkT K R T) ns) w):=by
 have b0:=belowAlloc w (.cells #[.int .i64 K,.int .i64 R,.slice va vn vc] 124)
 have hk1:=hr.k1
 have hk4:=hr.k4
 have hokW:=wk_ok hr
 have hlW:=wk_small hr hl
 have hRW:=wk_pos R
 have hN81:=nodes_le hokW hRW hlW
 obtain ⟨hdiv,hlen⟩:=hokW.half
 have hR3:=hokW.r3
 have hN1:=pw_pos (K:=K) (2*wkR R) hk1
 have hwork:=fun (w':World) (hgl:Glob r w') (hT:IntsAt w' (.slice va vn vc) T)=>working_ok r K R va vn vc T w' hgl hT hr hl
 have hNodes:=fun (a:Option Addr) (n c:Nat) (w':World) (hgl:Glob r w') (hT:IntsAt w' (.slice a n c) (wkT K R T))=>over_Nodes r K (wkR R) a n c (wkT K R T) w' hgl hT hokW hlW
 have hEdge:=fun (a:Option Addr) (n c u s:Nat) (w':World) (hgl:Glob r w') (hT:IntsAt w' (.slice a n c) (wkT K R T)) (hu:u<pw K (2*wkR R)) (hs:s<K)=>over_Edge r K (wkR R) a n c (wkT K R T) u s w' hgl hT hokW hlW (by rw [hdiv]; exact hu) hs
 rw [hdiv] at hNodes hEdge
 have hpost:=fun (x y z:Value) (w':World)=>@WordsPost r w K (wkR R) (wkT K R T) ns x y z w'
 obtain ⟨m,hm⟩:∃ m,2*wkR R=m:=⟨_,rfl⟩
 unfold WordsPost
 rw [hm] at hNodes hEdge hlow hN81 hN1 hdiv hlen ⊢
 obtain ⟨N,hN⟩:∃ N,pw K m=N:=⟨_,rfl⟩
 rw [hN] at hNodes hEdge hlow hN81 hN1 hdiv hlen ⊢
 generalize wkT K R T=T' at *
 generalize wkR R=R' at *
 clear hpost
 have lu:=hu.len
 obtain ⟨up,hup,hupI⟩:=hu.post 1 (by rw [castI_len]; exact List.length_pos_iff.2 hne)
 have lup:=hupI.len
 have hcl:(castI ns).length=ns.length:=castI_len ns
 have hdl:((castI ns).drop 1).length=ns.length-1:=by rw [List.length_drop,castI_len]
 rw [hdl] at lup
 rw [hcl] at lu
 have hnp:0<ns.length:=List.length_pos_iff.2 hne
 have iU:=fun (i:Nat) (hi:i<ns.length) w'=>hu.idx i (by rw [castI_len]; exact hi) w'
 have cU:=fun (i:Nat) (hi:i<ns.length)=>hu.cellD i (by rw [castI_len]; exact hi)
 have iP:=fun (i:Nat) (hi:i+1<ns.length) w'=>hupI.idx i (by rw [hdl]; omega) w'
 have cP:=fun (i:Nat) (hi:i+1<ns.length)=>hupI.cellD i (by rw [hdl]; omega)
 have gU:∀ i,i<ns.length→(castI ns).getD i 0=((ns.getD i 0:Nat):Int):=fun i hi=>by simp [castI,List.getD,hi]
 have gP:∀ i,i+1<ns.length→((castI ns).drop 1).getD i 0=((ns.getD (i+1) 0:Nat):Int):=fun i hi=>by
  rw [List.getD_eq_getElem?_getD,List.getElem?_drop,Nat.add_comm 1 i,← List.getD_eq_getElem?_getD]; exact gU _ hi
 have cU2:=fun (i:Nat) (hi:i<ns.length)=>(cU i hi).trans (by rw [gU i hi])
 have cP2:=fun (i:Nat) (hi:i+1<ns.length)=>(cP i hi).trans (by rw [gP i hi])
 have hlow2:∀ i,i<ns.length→ns.getD i 0<N*N:=fun i hi=>by
  simp only [List.getD_eq_getElem?_getD,List.getElem?_eq_getElem hi,Option.getD_some]
  exact hlow _ (List.getElem_mem hi)
 have hM6:N*N≤6561:=Nat.mul_le_mul hN81 hN81
 have hokway:decide (0≤idxOf (odd1 ((N*N:Nat):Int)) (castI ns))=false:=by
  rw [decide_eq_false_iff_not,idxOf_neg]
  ·omega
  ·intro x hx
   obtain ⟨p,hp,rfl⟩:=List.mem_map.1 hx
   have:=hlow p hp
   rw [odd1_false]; omega
 have hl0:¬ ns.length=0:=by omega
 have hl1:((ns.length:Int)==0)=false:=by rw [beq_eq_false_iff_ne]; omega
 obtain ⟨ua,un,uc,rfl⟩:=hu.shape
 obtain ⟨pa,pn,pc,rfl⟩:=hupI.shape
 replace hwork:=Hd hwork
 replace hNodes:=Hd hNodes
 replace hEdge:=Hd hEdge
 replace hg:=Hd (hg.below b0)
 replace h:=Hd (h.below b0)
 replace hu:=Hd (hu.below b0)
 replace hokW:=Hd hokW
 replace hr:=Hd hr
 replace hdiv:=Hd hdiv
 replace hlen:=Hd hlen
 replace hm:=Hd hm
 replace hN:=Hd hN
 replace iU:=Hd iU
 replace iP:=Hd iP
 replace cU2:=Hd cU2
 replace cP2:=Hd cP2
 replace hlow2:=Hd hlow2
 replace hlow:=Hd hlow
 replace hokway:=Hd hokway
 replace hne:=Hd hne
 replace hupI:=Hd hupI
 clear cU cP gU gP hdl hcl
 go_enter Tryz.func164,Tryz.ntmps164
 go_wp2_with fail
 refine (hwork.out _ hg.out h.out).mono ?_
 rintro e w1 ⟨x,y,rfl,b1,rfl,a,n,c,rfl,hT1⟩
 have ba:=belowAlloc w1 (.cells #[.int .i64 K,.int .i64 R',.slice a n c] 124)
 have qw:Box3 (w1.alloc (.cells #[.int .i64 K,.int .i64 R',.slice a n c] 124)) w1.heap.size (.int .i64 K) (.int .i64 R') (.slice a n c):=by simp [Box3,go_sem]
 have b12:=Below.step b1 ba
 have hT2:=hT1.below ba
 replace hT1:=Hd hT1
 replace hT2:=Hd hT2
 replace qw:=Hd qw
 go_wp2_with fail
 refine (hNodes.out a n c _ (hg.out.below b12) hT2.out).mono ?_
 rintro e w3 ⟨x,y,rfl,b3,rfl,rfl⟩
 have bb:=belowAlloc w3 (.cells #[.int .i64 N] 3)
 have b34:=Below.step b3 bb
 have b14:=Below.step b12 b34
 have cN:(w3.alloc (.cells #[.int .i64 N] 3)).cell? ⟨w3.heap.size,0,none⟩=some (.int .i64 N):=by simp [go_sem]
 have hcf:=containsFunc_any (.slice ua un uc) (.pointer (some ⟨w3.heap.size,0,none⟩)) 279 (castI ns) (odd1 ((N*N:Nat):Int)) _ (hu.out.below b14) eg_words1 (fun x _=>words1_any x w3.heap.size N _ (by omega) cN)
 replace hcf:=Hd hcf
 replace cN:=Hd cN
 go_wp2_with fail
 refine hcf.out.mono ?_
 rintro e w5 ⟨rfl,hw5⟩
 rw [hokway.out]
 have cN5:=cN.out
 have qw5:=qw.out.below b34
 have hT5:=hT2.out.below b34
 rw [hw5] at b14 cN5 qw5 hT5
 clear hcf cN hw5 bb b34 b3 b12
 have b05:=Below.step b0 b14
 have hg5:=hg.out.below b14
 clear b14
 -- region 8
 obtain ⟨L1,hL1⟩:∃ L1,ns.length=L1+1:=⟨ns.length-1,by omega⟩
 rw [hL1,Nat.add_sub_cancel] at lup
 have hLbig:L1≤17592186044000:=by omega
 have hup1:∀ w',(Instr.slice 30 (.slice ua un uc) (some (.int .i64 1)) none none).run Tryz.prog w'=.ok (.slice pa pn pc) w':=hup
 obtain ⟨p0,hp0⟩:∃ p,ns.getD 0 0=p:=⟨_,rfl⟩
 have hp0l:p0<N*N:=by rw [← hp0]; exact hlow2.out 0 hnp
 have i0:∀ w',(Instr.indexAt 30 (.slice ua un uc) (.int .i64 0)).run Tryz.prog w'=.ok (.pointer (some (valAt (.slice ua un uc) 0))) w':=fun w'=>iU.out 0 hnp w'
 have c0:=cU2.out 0 hnp
 rw [hp0] at c0
 have c05:=(b05.cell (World.block_lt_of_cell? _ _ c0)).trans c0
 have hN0:((N:Int)==0)=false:=by rw [beq_eq_false_iff_ne]; omega
 have hN2:¬ (N:Int)=0:=by omega
 have hN3:¬ N=0:=by omega
 have hK0:((K:Int)==0)=false:=by rw [beq_eq_false_iff_ne]; omega
 have hK1:¬ (K:Int)=0:=by omega
 have hK3:¬ K=0:=by omega
 obtain ⟨d1,d2,d3,d4,d5,d6⟩:=dm p0 N (by omega)
 obtain ⟨u0,hu0⟩:∃ z,p0/N=z:=⟨_,rfl⟩
 obtain ⟨v0,hv0⟩:∃ z,p0%N=z:=⟨_,rfl⟩
 rw [hu0] at d1 d3 d5
 rw [hv0] at d2 d4 d6
 have hu0l:u0<N:=by rw [← hu0]; exact div_lt_of hp0l
 have hv0l:v0<N:=by rw [← hv0]; exact Nat.mod_lt _ (by omega)
 clear c0
 generalize valAt (.slice ua un uc) 0=t0 at *
 replace hL1:=Hd hL1
 replace hp0:=Hd hp0
 replace hu0:=Hd hu0
 replace hv0:=Hd hv0
 replace hT5:=Hd hT5
 replace hg5:=Hd hg5
 go_upto_region 8 with fail
 refine wp_region_plan (fun w'=>w'.cell? t0=some (.int .i64 p0)∧w'.cell? ⟨w3.heap.size,0,none⟩=some (.int .i64 N)) 15 [(0,true),(1,true),(2,true),(3,true),(4,true),(5,true),(7,true),(8,true),(9,true),(10,true),(11,true),(12,true),(6,false),(13,false),(14,true)] (by kernel_rfl) (by kernel_rfl) ?_
 have hS:w5.drew.cell? t0=some (.int .i64 p0)∧w5.drew.cell? ⟨w3.heap.size,0,none⟩=some (.int .i64 N):=⟨c05,cN5⟩
 refine pqY 47 hS ?_
 refine pqY 48 hS ?_
 refine pqY 49 hS ?_
 refine pqY 50 hS ?_
 refine pqY 51 hS ?_
 refine pqY 52 hS ?_
 refine pqY 54 hS ?_
 refine pqY 55 hS ?_
 refine pqY 56 hS ?_
 refine pqY 57 hS ?_
 refine pqY 58 hS ?_
 refine pqY 59 hS ?_
 refine headC rfl (fun KK hK=>?_)
 go_simp
 refine (words2_any K R' u0 w1.heap.size w5.drew hk1 hk4 hR3 (by omega) qw5.1.1 qw5.1.2.1).mono ?_
 rintro e w6 ⟨av,rfl,b6,ho6⟩
 have hS6:w6.cell? t0=some (.int .i64 p0)∧w6.cell? ⟨w3.heap.size,0,none⟩=some (.int .i64 N):=⟨(b6.cell (World.block_lt_of_cell? _ _ hS.1)).trans hS.1,cell_keep b6 hS.2⟩
 have qw6:=qw5.below (w':=w6) (Below.trans ((Below.refl _ _).drew) b6)
 refine hK _ _ hS6 ?_
 clear hK KK
 refine headC rfl (fun KK hK=>?_)
 go_simp
 refine (words2_any K R' v0 w1.heap.size w6 hk1 hk4 hR3 (by omega) qw6.1.1 qw6.1.2.1).mono ?_
 rintro e w7 ⟨bv,rfl,b7,ho7⟩
 have hS7:w7.cell? t0=some (.int .i64 p0)∧w7.cell? ⟨w3.heap.size,0,none⟩=some (.int .i64 N):=⟨(b7.cell (World.block_lt_of_cell? _ _ hS6.1)).trans hS6.1,cell_keep b7 hS6.2⟩
 refine hK _ _ hS7 ?_
 clear hK KK
 refine pqY 12 hS7 ?_
 refine head0 ?_
 simp only [List.drop_succ_cons,List.drop_zero]
 have b56:Below w5.heap.size w5 w6:=Below.trans ((Below.refl _ _).drew) b6
 have b57:=Below.step b56 b7
 rw [hm.out] at ho6 ho7
 have r1:=(Rows.void w5.heap.size w5).add (i:=(1,0)) (r':=rowI av (digs K m u0)) b56 ho6 (fun k hk=>(ho6.lt k hk).1)
 have r2:=r1.add (i:=(2,0)) (r':=rowI bv (digs K m v0)) b7 (ho7.mono b56.size) (fun k hk=>(ho7.lt k hk).1)
 obtain ⟨f,hf⟩:∃ f,f=upd (upd (fun _=>none) (1,0) (some (rowI av (digs K m u0)))) (2,0) (some (rowI bv (digs K m v0))):=⟨_,rfl⟩
 have hfa:f (1,0)=some (rowI av (digs K m u0)):=by rw [hf,upd_ne _ _ (by simp),upd_same]
 have hfb:f (2,0)=some (rowI bv (digs K m v0)):=by rw [hf,upd_same]
 rw [← hf] at r2
 have htk:ns.take 1=[p0]:=by
  cases hns:ns with
  | nil=>exact absurd hns hne.out
  | cons a l=>have:=hp0.out; rw [hns] at this; simp at this; simp [this]
 have ha1:alongW K m (·/N) (ns.take 1)=digs K m u0:=by rw [htk,alongW_one,hu0.out]
 have hb1:alongW K m (·%N) (ns.take 1)=digs K m v0:=by rw [htk,alongW_one,hv0.out]
 rw [← ha1] at hfa
 rw [← hb1] at hfb
 clear hS hS6 hS7 ho6 ho7 r1 hf htk ha1 hb1 qw6 i0 c05 d1 d2 d3 d4 d5 d6
 obtain ⟨aa,an,ac,rfl⟩:=(r2.ownI hfa).at.shape
 obtain ⟨ba',bn,bc,rfl⟩:=(r2.ownI hfb).at.shape
 replace r2:=Hd r2
 replace hfa:=Hd hfa
 replace hfb:=Hd hfb
 replace qw5:=Hd qw5
 replace cN5:=Hd cN5
 go_wp2
 refine NoPanic.normal ?_
 go_wp2_with fail
 clear hup hup1
 go_loopw [12,13,64] (fun xa xb jv wr=>∃ (j:Nat) (f:Names) (va' vb':Value),j≤L1∧jv=.int .i64 j∧va'=xa∧vb'=xb∧Rows w5.heap.size wr f∧Below w5.heap.size w5 wr∧f (1,0)=some (rowI va' (alongW K m (·/N) (ns.take (j+1))))∧f (2,0)=some (rowI vb' (alongW K m (·%N) (ns.take (j+1))))∧(∀ i,i<j→StepFits K N T' (ns.getD i 0) (ns.getD (i+1) 0))) (fun _ _ jv _=>L1-(intOf jv).toNat)
 case atStart=>exact ⟨0,f,_,_,by omega,rfl,rfl,rfl,r2.out,b57,hfa.out,hfb.out,fun i hi=>by omega⟩
 case round =>
  clear hfa hfb r2 b57 b56 b6 b7
  obtain ⟨j,f2,av,bv,hj,rfl,rfl,rfl,hr,bI,hfa,hfb,hfit⟩:=hrel
  obtain ⟨wo,rfl⟩:∃ wo:World,wo=wr:=⟨_,rfl⟩
  have b0o:=b05.trans (bI.mono b05.size)
  by_cases hjl:j<L1
  ·obtain ⟨p,hp⟩:∃ p,ns.getD (j+1) 0=p:=⟨_,rfl⟩
   obtain ⟨pj,hpj⟩:∃ p,ns.getD j 0=p:=⟨_,rfl⟩
   have hll:=hL1.out
   have hjl2:=Hd hjl
   have hpl:p<N*N:=by rw [← hp]; exact hlow2.out (j+1) (by omega)
   have hpjl:pj<N*N:=by rw [← hpj]; exact hlow2.out j (by omega)
   have iJ:=fun w'=>iP.out j (by omega) w'
   have cJ:=cP2.out j (by omega)
   have iI:=fun w'=>iU.out j (by omega) w'
   have cI:=cU2.out j (by omega)
   rw [hp] at cJ
   rw [hpj] at cI
   have cJo:=(b0o.cell (World.block_lt_of_cell? _ _ cJ)).trans cJ
   have cIo:=(b0o.cell (World.block_lt_of_cell? _ _ cI)).trans cI
   have htk:ns.take (j+1+1)=ns.take (j+1)++[p]:=by
    rw [List.take_add_one,List.getElem?_eq_getElem (show j+1<ns.length by omega)]
    have:ns[j+1]'(by omega)=p:=by rw [← hp]; simp [List.getD,show j+1<ns.length by omega]
    rw [this]; rfl
   have htn:ns.take (j+1)≠[]:=by
    intro e
    have:=congrArg List.length e
    rw [List.length_take,List.length_nil] at this; omega
   have haS:=alongW_snoc K m (·/N) (ns.take (j+1)) p htn
   have hbS:=alongW_snoc K m (·%N) (ns.take (j+1)) p htn
   rw [← htk] at haS hbS
   obtain ⟨d1,d2,d3,d4,d5,d6⟩:=dm p N (by omega)
   obtain ⟨u1,hu1⟩:∃ z,p/N=z:=⟨_,rfl⟩
   obtain ⟨v1,hv1⟩:∃ z,p%N=z:=⟨_,rfl⟩
   rw [hu1] at d1 d3 d5 haS
   rw [hv1] at d2 d4 d6 hbS
   have hu1l:u1<N:=by rw [← hu1]; exact div_lt_of hpl
   have hv1l:v1<N:=by rw [← hv1]; exact Nat.mod_lt _ (by omega)
   obtain ⟨g1,g2,g3,g4,g5,g6⟩:=dm pj N (by omega)
   obtain ⟨uj,huj⟩:∃ z,pj/N=z:=⟨_,rfl⟩
   obtain ⟨vj,hvj⟩:∃ z,pj%N=z:=⟨_,rfl⟩
   rw [huj] at g1 g3 g5
   rw [hvj] at g2 g4 g6
   have hujl:uj<N:=by rw [← huj]; exact div_lt_of hpjl
   have hvjl:vj<N:=by rw [← hvj]; exact Nat.mod_lt _ (by omega)
   obtain ⟨_,x2,_,x4,_,x6⟩:=dm u1 K (by omega)
   obtain ⟨_,z2,_,z4,_,z6⟩:=dm v1 K (by omega)
   obtain ⟨s,hs⟩:∃ z,u1%K=z:=⟨_,rfl⟩
   obtain ⟨t,ht⟩:∃ z,v1%K=z:=⟨_,rfl⟩
   rw [hs] at x2 x4 x6 haS
   rw [ht] at z2 z4 z6 hbS
   have hsl:s<K:=by rw [← hs]; exact Nat.mod_lt _ (by omega)
   have htl:t<K:=by rw [← ht]; exact Nat.mod_lt _ (by omega)
   have hstep:StepFits K N T' pj p↔toN K N uj s=u1∧toN K N vj t=v1∧labN K T' uj s=labN K T' vj t:=by
    unfold StepFits; rw [hu1,hv1,huj,hvj,hs,ht]
   have qwo:=qw5.out.below bI
   have cNo:=cell_keep bI cN5.out
   clear cJ cI
   generalize valAt (.slice pa pn pc) j=tj at *
   generalize valAt (.slice ua un uc) j=ti at *
   have hoa:=hr.ownI hfa
   have hob:=hr.ownI hfb
   have hm6:m≤6:=by have:=hm.out; omega
   have hLa:(alongW K m (·/N) (ns.take (j+1))).length≤17592186044100:=by rw [alongW_len,List.length_take]; omega
   have hLb:(alongW K m (·%N) (ns.take (j+1))).length≤17592186044100:=by rw [alongW_len,List.length_take]; omega
   replace hp:=Hd hp
   replace hpj:=Hd hpj
   replace hll:=Hd hll
   replace htk:=Hd htk
   replace htn:=Hd htn
   replace haS:=Hd haS
   replace hbS:=Hd hbS
   replace hu1:=Hd hu1
   replace hv1:=Hd hv1
   replace huj:=Hd huj
   replace hvj:=Hd hvj
   replace hs:=Hd hs
   replace ht:=Hd ht
   replace hstep:=Hd hstep
   replace hfit:=Hd hfit
   replace hr:=Hd hr
   replace hfa:=Hd hfa
   replace hfb:=Hd hfb
   replace hoa:=Hd hoa
   replace hob:=Hd hob
   go_upto_region 12 with fail
   refine wp_region_plan (fun w'=>w'.cell? ⟨w1.heap.size,0,none⟩=some (.int .i64 K)∧w'.cell? ⟨w3.heap.size,0,none⟩=some (.int .i64 N)) 13 [(0,true),(1,true),(2,true),(3,true),(4,true),(5,true),(6,true),(7,true),(8,true),(9,true),(10,true),(11,true),(12,true)] (by kernel_rfl) (by kernel_rfl) ?_
   have hS:wo.drew.cell? ⟨w1.heap.size,0,none⟩=some (.int .i64 K)∧wo.drew.cell? ⟨w3.heap.size,0,none⟩=some (.int .i64 N):=⟨qwo.1.1,cNo⟩
   refine pqY 69 hS ?_
   refine pqY 70 hS ?_
   refine pqY 71 hS ?_
   refine pqY 72 hS ?_
   refine pqY 73 hS ?_
   refine pqY 74 hS ?_
   refine pqY 75 hS ?_
   refine pqY 76 hS ?_
   refine pqY 77 hS ?_
   refine pqY 78 hS ?_
   refine pqY 79 hS ?_
   refine pqY 80 hS ?_
   refine pqY 16 hS ?_
   refine head0 ?_
   simp only [List.drop_succ_cons,List.drop_zero]
   clear hS
   go_wp2
   refine NoPanic.normal ?_
   go_upto_region 13 with fail
   refine wp_region_plan (fun w'=>w'.cell? ⟨w1.heap.size,0,none⟩=some (.int .i64 K)∧w'.cell? ⟨w1.heap.size,1,none⟩=some (.int .i64 R')∧w'.cell? ⟨w1.heap.size,2,none⟩=some (.slice a n c)∧w'.cell? ⟨w3.heap.size,0,none⟩=some (.int .i64 N)∧w'.cell? ti=some (.int .i64 pj)) 15 [(0,true),(1,true),(2,true),(3,true),(4,true),(5,true),(6,true),(7,true),(8,false),(9,true),(10,true),(11,true),(12,true),(13,true),(14,true)] (by kernel_rfl) (by kernel_rfl) ?_
   have hS:wo.drew.drew.cell? ⟨w1.heap.size,0,none⟩=some (.int .i64 K)∧wo.drew.drew.cell? ⟨w1.heap.size,1,none⟩=some (.int .i64 R')∧wo.drew.drew.cell? ⟨w1.heap.size,2,none⟩=some (.slice a n c)∧wo.drew.drew.cell? ⟨w3.heap.size,0,none⟩=some (.int .i64 N)∧wo.drew.drew.cell? ti=some (.int .i64 pj):=⟨qwo.1.1,qwo.1.2.1,qwo.1.2.2,cNo,cIo⟩
   refine pqY 82 hS ?_
   refine pqY 83 hS ?_
   refine pqY 84 hS ?_
   refine pqY 85 hS ?_
   refine pqY 86 hS ?_
   refine pqY 87 hS ?_
   refine pqY 88 hS ?_
   refine pqY 89 hS ?_
   refine headC rfl (fun KK hK=>?_)
   go_simp
   refine (hEdge.out a n c uj s wo.drew.drew (hg5.out.below bI.drew.drew) (hT5.out.below bI.drew.drew) hujl hsl).mono ?_
   rintro e w6 ⟨x,y,z,rfl,b6,rfl,rfl,rfl⟩
   obtain ⟨X1,hX1⟩:∃ X,toN K N uj s=X:=⟨_,rfl⟩
   obtain ⟨O1,hO1⟩:∃ X,labN K T' uj s=X:=⟨_,rfl⟩
   rw [hX1,hO1]
   have bo6:Below wo.heap.size wo w6:=Below.trans ((Below.refl _ _).drew.drew) b6
   have hS6:w6.cell? ⟨w1.heap.size,0,none⟩=some (.int .i64 K)∧w6.cell? ⟨w1.heap.size,1,none⟩=some (.int .i64 R')∧w6.cell? ⟨w1.heap.size,2,none⟩=some (.slice a n c)∧w6.cell? ⟨w3.heap.size,0,none⟩=some (.int .i64 N)∧w6.cell? ti=some (.int .i64 pj):=⟨cell_keep b6 hS.1,cell_keep b6 hS.2.1,cell_keep b6 hS.2.2.1,cell_keep b6 hS.2.2.2.1,(b6.cell (World.block_lt_of_cell? _ _ hS.2.2.2.2)).trans hS.2.2.2.2⟩
   refine hK _ _ hS6 ?_
   clear hK KK
   refine pqY 81 hS6 ?_
   refine pqY 91 hS6 ?_
   refine pqY 92 hS6 ?_
   refine pqY 93 hS6 ?_
   refine pqY 18 hS6 ?_
   refine pqY 19 hS6 ?_
   refine head0 ?_
   simp only [List.drop_succ_cons,List.drop_zero]
   have bI6:=bI.trans (bo6.mono bI.size)
   have hS6':=Hd hS6
   clear hS hS6
   go_wp2
   refine NoPanic.normal ?_
   go_upto_region 14 with fail
   refine wp_region_plan (fun w'=>w'.cell? ⟨w1.heap.size,0,none⟩=some (.int .i64 K)∧w'.cell? ⟨w1.heap.size,1,none⟩=some (.int .i64 R')∧w'.cell? ⟨w1.heap.size,2,none⟩=some (.slice a n c)∧w'.cell? ⟨w3.heap.size,0,none⟩=some (.int .i64 N)∧w'.cell? ti=some (.int .i64 pj)) 15 [(0,true),(1,true),(2,true),(3,true),(4,true),(5,true),(6,true),(7,true),(8,false),(9,true),(10,true),(11,true),(12,true),(13,true),(14,true)] (by kernel_rfl) (by kernel_rfl) ?_
   have hS:w6.drew.cell? ⟨w1.heap.size,0,none⟩=some (.int .i64 K)∧w6.drew.cell? ⟨w1.heap.size,1,none⟩=some (.int .i64 R')∧w6.drew.cell? ⟨w1.heap.size,2,none⟩=some (.slice a n c)∧w6.drew.cell? ⟨w3.heap.size,0,none⟩=some (.int .i64 N)∧w6.drew.cell? ti=some (.int .i64 pj):=hS6'.out
   refine pqY 95 hS ?_
   refine pqY 96 hS ?_
   refine pqY 97 hS ?_
   refine pqY 98 hS ?_
   refine pqY 99 hS ?_
   refine pqY 100 hS ?_
   refine pqY 101 hS ?_
   refine pqY 102 hS ?_
   refine headC rfl (fun KK hK=>?_)
   go_simp
   refine (hEdge.out a n c vj t w6.drew (hg5.out.below bI6.drew) (hT5.out.below bI6.drew) hvjl htl).mono ?_
   rintro e w7 ⟨x,y,z,rfl,b7,rfl,rfl,rfl⟩
   obtain ⟨X2,hX2⟩:∃ X,toN K N vj t=X:=⟨_,rfl⟩
   obtain ⟨O2,hO2⟩:∃ X,labN K T' vj t=X:=⟨_,rfl⟩
   rw [hX2,hO2]
   have b67:Below w6.heap.size w6 w7:=Below.trans ((Below.refl _ _).drew) b7
   have bo7:=Below.step bo6 b67
   have bI7:=bI.trans (bo7.mono bI.size)
   have hS7:w7.cell? ⟨w1.heap.size,0,none⟩=some (.int .i64 K)∧w7.cell? ⟨w1.heap.size,1,none⟩=some (.int .i64 R')∧w7.cell? ⟨w1.heap.size,2,none⟩=some (.slice a n c)∧w7.cell? ⟨w3.heap.size,0,none⟩=some (.int .i64 N)∧w7.cell? ti=some (.int .i64 pj):=⟨cell_keep b7 hS.1,cell_keep b7 hS.2.1,cell_keep b7 hS.2.2.1,cell_keep b7 hS.2.2.2.1,(b7.cell (World.block_lt_of_cell? _ _ hS.2.2.2.2)).trans hS.2.2.2.2⟩
   refine hK _ _ hS7 ?_
   clear hK KK
   refine pqY 94 hS7 ?_
   refine pqY 104 hS7 ?_
   refine pqY 105 hS7 ?_
   refine pqY 106 hS7 ?_
   refine pqY 21 hS7 ?_
   refine pqY 22 hS7 ?_
   refine head0 ?_
   simp only [List.drop_succ_cons,List.drop_zero]
   obtain ⟨k0,k1,k2,k3,k4⟩:=hS7
   clear hS hS6' cIo cJo k0 k1 k2 k4 cNo
   rw [hX1,hO1,hX2,hO2] at hstep
   replace hX1:=Hd hX1
   replace hX2:=Hd hX2
   replace hO1:=Hd hO1
   replace hO2:=Hd hO2
   go_wp2
   refine NoPanic.normal ?_
   by_cases e1:X1=u1
   ·have q1:((X1:Int) != (u1:Int))=false:=by rw [bne_eq_false_iff_eq]; omega
    by_cases e2:X2=v1
    ·have q2:((X2:Int) != (v1:Int))=false:=by rw [bne_eq_false_iff_eq]; omega
     by_cases e3:O1=O2
     ·have q3:(O1 != O2)=false:=by rw [bne_eq_false_iff_eq]; exact e3
      have hnow:=hstep.out.2 ⟨e1,e2,e3⟩
      have hr7:=hr.out.below bo7
      have hoa7:=hoa.out.below bo7
      have hB7:=bI7.size
      replace e1:=Hd e1
      replace e2:=Hd e2
      replace e3:=Hd e3
      replace hr7:=Hd hr7
      go_wp2_with (at_builtin; go_loud (refine wpl_append1 rfl _ _ rfl w5.heap.size av _ s hoa7 rfl rfl (by omega) hB7 ?_))
      intro av2 w8 ho8 b8 hgr8 hal8
      have hr8:=hr7.out.push hfa.out (s:Int) ho8 hgr8 hal8
      have hfb8:upd f2 (1,0) (some (rowI av2 (alongW K m (·/N) (ns.take (j+1))++[(s:Int)]))) (2,0)=some (rowI bv (alongW K m (·%N) (ns.take (j+1)))):=by rw [upd_ne _ _ (by simp)]; exact hfb.out
      have hob8:=hr8.ownI hfb8
      have hB8:w5.heap.size≤w8.heap.size:=Nat.le_trans hB7 b8.size
      obtain ⟨a2a,a2n,a2c,rfl⟩:=ho8.at.shape
      replace hr8:=Hd hr8
      replace ho8:=Hd ho8
      clear hgr8 hal8 hoa7
      go_wp2_with (at_builtin; go_loud (refine wpl_append1 rfl _ _ rfl w5.heap.size bv _ t hob8 rfl rfl (by omega) hB8 ?_))
      intro bv2 w9 ho9 b9 hgr9 hal9
      have hr9:=hr8.out.push hfb8 (t:Int) ho9 hgr9 hal9
      obtain ⟨b2a,b2n,b2c,rfl⟩:=ho9.at.shape
      replace hr9:=Hd hr9
      replace ho9:=Hd ho9
      replace hfb8:=Hd hfb8
      clear hgr9 hal9 hob8
      go_wp2
      go_roundw
      case measure=>have:=hjl2.out; simp [intOf]; omega
      case rel =>
       refine ⟨j+1,_,_,_,by have:=hjl2.out; omega,by go_num,rfl,rfl,hr9.out,bI7.trans (b8.trans b9),?_,?_,fun i hi=>?_⟩
       ·rw [upd_ne _ _ (by simp),upd_same,haS.out]
       ·rw [upd_same,hbS.out]
       ·by_cases e:i=j
        ·subst e; rw [hpj.out,hp.out]; exact hnow
        ·exact hfit.out i (by omega)
     ·have q3:(O1 != O2)=true:=by rw [bne_iff_ne]; exact e3
      have hnow:¬ AllFit K N T' ns:=fun hA=>by
       have:=hA j (by have:=hll.out; have:=hjl2.out; omega)
       rw [hpj.out,hp.out,hstep.out] at this
       exact e3 this.2.2
      replace hnow:=Hd hnow
      go_wp2_with fail
      refine (pairs_wrong r _ _ w7 (hg5.out.below bI7) (by decide) (by decide)).mono ?_
      rintro e w8 ⟨x,rfl,b8,he⟩
      replace he:=Hd he
      have bE:=Below.step (b05.trans (bI7.mono b05.size)) b8
      go_wp2
      go_ret3
      exact ⟨_,_,_,rfl,bE,.inr ⟨hnow.out,rfl,rfl,he.out⟩⟩
    ·have q2:((X2:Int) != (v1:Int))=true:=by rw [bne_iff_ne]; omega
     have hnow:¬ AllFit K N T' ns:=fun hA=>by
      have:=hA j (by have:=hll.out; have:=hjl2.out; omega)
      rw [hpj.out,hp.out,hstep.out] at this
      exact e2 this.2.1
     replace hnow:=Hd hnow
     go_wp2_with fail
     refine (pairs_wrong r _ _ w7 (hg5.out.below bI7) (by decide) (by decide)).mono ?_
     rintro e w8 ⟨x,rfl,b8,he⟩
     replace he:=Hd he
     have bE:=Below.step (b05.trans (bI7.mono b05.size)) b8
     go_wp2
     go_ret3
     exact ⟨_,_,_,rfl,bE,.inr ⟨hnow.out,rfl,rfl,he.out⟩⟩
   ·have q1:((X1:Int) != (u1:Int))=true:=by rw [bne_iff_ne]; omega
    have hnow:¬ AllFit K N T' ns:=fun hA=>by
     have:=hA j (by have:=hll.out; have:=hjl2.out; omega)
     rw [hpj.out,hp.out,hstep.out] at this
     exact e1 this.1
    replace hnow:=Hd hnow
    go_wp2_with fail
    refine (pairs_wrong r _ _ w7 (hg5.out.below bI7) (by decide) (by decide)).mono ?_
    rintro e w8 ⟨x,rfl,b8,he⟩
    replace he:=Hd he
    have bE:=Below.step (b05.trans (bI7.mono b05.size)) b8
    go_wp2
    go_ret3
    exact ⟨_,_,_,rfl,bE,.inr ⟨hnow.out,rfl,rfl,he.out⟩⟩
  ·obtain rfl:j=L1:=by omega
   have hall:ns.take (j+1)=ns:=List.take_of_length_le (by have:=hL1.out; omega)
   rw [hall] at hfa hfb
   have hoa:=hr.ownI hfa
   have hob:=hr.ownI hfb
   have hdis:=hr.2 (1,0) (2,0) _ _ hfa hfb (by simp)
   have hAll:AllFit K N T' ns:=fun i hi=>hfit i (by have:=hL1.out; omega)
   have hoa':=hoa.mono (B':=w.heap.size) b05.size
   have hob':=hob.mono (B':=w.heap.size) b05.size
   obtain ⟨a2a,a2n,a2c,rfl⟩:=hoa.at.shape
   obtain ⟨b2a,b2n,b2c,rfl⟩:=hob.at.shape
   replace hr:=Hd hr
   replace hfa:=Hd hfa
   replace hfb:=Hd hfb
   replace hoa:=Hd hoa
   replace hob:=Hd hob
   replace hoa':=Hd hoa'
   replace hob':=Hd hob'
   replace hdis:=Hd hdis
   replace hAll:=Hd hAll
   replace hfit:=Hd hfit
   go_wp2
   go_ret3
   exact ⟨_,_,_,rfl,b0o,.inl ⟨hAll.out,rfl,hoa'.out,hob'.out,hdis.out⟩⟩
end Go.Proofs.YtindfaehjoileaaGreatDoor
namespace Go.Proofs.YtindfaehjoileaaGreatDoor
open Go.RowKit
def Ret4 (Φ:Value→Value→Value→Value→World→Prop) (w:World) (e:Ending) (w':World):Prop:=∃ x y z u,e=.returned (.tuple #[x,y,z,u])∧Below w.heap.size w w'∧Φ x y z u w'
theorem results_tmp4 {fn:Func} {t u v x:Tmp} (h:fn.results=#[.tmp t,.tmp u,.tmp v,.tmp x]) (tmps:Array Value) (P:Program) (w:World) :
 (results fn tmps).run P w=.ok (.tuple #[tmps.getD t undef,tmps.getD u undef,tmps.getD v undef,tmps.getD x undef]) w:=by
 simp [results,h]
set_option maxRecDepth 100000
set_option maxHeartbeats 8000000
def FinPost (w:World) (K R:Nat) (T:List Int) (yes a b e:Value) (w':World):Prop :=
 e=.nilIface∧((yes=.bool true∧a=.slice none 0 0∧b=.slice none 0 0∧∀ x y,¬ IsTwins K R T x y) ∨
 (yes=.bool false∧∃ x y,FinIs K R T x y∧IsTwins K R T x y∧TwinLen K R T x.length∧x.length≤20010∧OwnI w.heap.size w' a x∧OwnI w.heap.size w' b y∧(a.ownBlock=none∨a.ownBlock≠b.ownBlock)))
theorem finite_zero (r:Nat→Addr) (K:Nat) (va:Option Addr) (vn vc:Nat) (T:List Int) (w:World) (hg:Glob r w) (h:IntsAt w (.slice va vn vc) T) (hr:RuleOk K 0 T) (hl:T.length≤256) :
 Calls Tryz.prog 72 #[.agg #[.int .i64 K,.int .i64 ((0:Nat):Int),.slice va vn vc]] w (Ret4 (FinPost w K 0 T) w):=by
 have b0:=belowAlloc w (.cells #[.int .i64 K,.int .i64 ((0:Nat):Int),.slice va vn vc] 124)
 have q:Box3 (w.alloc (.cells #[.int .i64 K,.int .i64 ((0:Nat):Int),.slice va vn vc] 124)) w.heap.size (.int .i64 K) (.int .i64 ((0:Nat):Int)) (.slice va vn vc):=by simp [Box3,go_sem]
 have hTK:T.length=K:=by rw [hr.len]; simp [pw]
 have hgraph:=fun (w':World) (hgl:Glob r w') (hT:IntsAt w' (.slice va vn vc) T)=>pgraph_ok r K 0 va vn vc T w' hgl hT hr hl
 replace hgraph:=Hd hgraph
 replace hTK:=Hd hTK
 replace hg:=Hd (hg.below b0)
 replace h:=Hd (h.below b0)
 replace hr:=Hd hr
 go_enter Tryz.func72,Tryz.ntmps72
 go_wp2_with fail
 refine (hgraph.out _ hg.out h.out).mono ?_
 rintro e w1 ⟨gv,y,rfl,b1,rfl,-⟩
 obtain ⟨⟨z0,z1,z2⟩,-,-,-⟩:=q.below b1
 have b01:=Below.step b0 b1
 have hs:=b01.size
 go_wp2_with fail
 refine (single_any K ((0:Nat):Int) va vn vc T w1 (h.out.below b1)).mono ?_
 rintro e w2 ⟨x,y,rfl,b2,hp⟩
 have b02:=Below.step b01 b2
 rcases hp with ⟨a,b,hsi,hoa,hob,hd⟩ | ⟨rfl,rfl,hno⟩
 ·have lx:=hoa.at.len
  obtain ⟨x1,x2,x3,rfl⟩:=hoa.at.shape
  obtain ⟨y1,y2,y3,rfl⟩:=hob.at.shape
  have htw:=hsi.twins hTK.out
  have htl:TwinLen K 0 T [(a:Int)].length:=⟨⟨_,_,htw,rfl⟩,fun c d hcd=>twins_pos hcd⟩
  replace hsi:=Hd hsi
  replace hoa:=Hd hoa
  replace hob:=Hd hob
  replace hd:=Hd hd
  replace htw:=Hd htw
  replace htl:=Hd htl
  clear z0 z1 z2
  go_wp2
  (try simp only [Exit.inBlock,Exit.then])
  refine bodyPost_ret (results_tmp4 rfl _ _ _) rfl ?_
  exact ⟨_,_,_,_,rfl,b02,rfl,.inr ⟨rfl,_,_,.inl ⟨rfl,a,b,hsi.out,rfl,rfl⟩,htw.out,htl.out,by simp,hoa.out.mono hs,hob.out.mono hs,hd.out⟩⟩
 ·have hn:=no_single (K:=K) hTK.out hno
  replace hn:=Hd hn
  clear hno z0 z1 z2
  go_wp2
  (try simp only [Exit.inBlock,Exit.then])
  refine bodyPost_ret (results_tmp4 rfl _ _ _) rfl ?_
  exact ⟨_,_,_,_,rfl,b02,rfl,.inl ⟨rfl,rfl,rfl,hn.out⟩⟩
theorem finite_pos (r:Nat→Addr) (K R:Nat) (va:Option Addr) (vn vc:Nat) (T:List Int) (w:World) (hg:Glob r w) (h:IntsAt w (.slice va vn vc) T) (hr:RuleOk K R T) (hl:T.length≤256) (hR:1≤R) :
 Calls Tryz.prog 72 #[.agg #[.int .i64 K,.int .i64 R,.slice va vn vc]] w (Ret4 (FinPost w K R T) w):=by
 have b0:=belowAlloc w (.cells #[.int .i64 K,.int .i64 R,.slice va vn vc] 124)
 have q:Box3 (w.alloc (.cells #[.int .i64 K,.int .i64 R,.slice va vn vc] 124)) w.heap.size (.int .i64 K) (.int .i64 R) (.slice va vn vc):=by simp [Box3,go_sem]
 have hk1:=hr.k1
 have hk4:=hr.k4
 have hR3:=hr.r3
 have hN81:=nodes_le hr hR hl
 have hN1:=pw_pos (K:=K) (2*R) hk1
 have hwR:wkR R=R:=if_neg (by omega)
 have hwT:wkT K R T=T:=if_neg (by omega)
 have hgraph:=fun (w':World) (hgl:Glob r w') (hT:IntsAt w' (.slice va vn vc) T)=>pgraph_ok r K R va vn vc T w' hgl hT hr hl
 have hwords:=fun (u:Value) (ns:List Nat) (w':World) (hgl:Glob r w') (hT:IntsAt w' (.slice va vn vc) T)=>pwords_way r K R va vn vc T u ns w' hgl hT hr hl
 rw [hwR,hwT] at hgraph hwords
 have hmeet:=fun (ga:Option Addr) (gc:Nat) (w':World)=>meet_any K (pw K (2*R)) T ga gc w' hk4 hN1 hN81
 have hR0:((R:Int)==0)=false:=by rw [beq_eq_false_iff_ne]; omega
 have hR1:¬ (R:Int)=0:=by omega
 have hR2:¬ R=0:=by omega
 have hR22:=Hd hR2
 have hRR:=Hd hR
 replace hgraph:=Hd hgraph
 replace hwords:=Hd hwords
 replace hmeet:=Hd hmeet
 replace hg:=Hd (hg.below b0)
 replace h:=Hd (h.below b0)
 replace hr:=Hd hr
 clear hwR hwT
 go_enter Tryz.func72,Tryz.ntmps72
 go_wp2_with fail
 refine (hgraph.out _ hg.out h.out).mono ?_
 rintro e w1 ⟨gv,y,rfl,b1,rfl,f,vals,hrows,hwn⟩
 have hL:ListsAt w1 gv (pairG K (pw K (2*R)) T):=hwn.lists hrows
 obtain ⟨ga,gc,rfl⟩:=hL.shape
 obtain ⟨⟨z0,z1,z2⟩,-,-,-⟩:=q.below b1
 have b01:=Below.step b0 b1
 replace hL:=Hd hL
 clear hrows hwn
 go_wp2_with fail
 refine (hmeet.out ga gc w1 hL.out).mono ?_
 rintro e w2 ⟨mv,rfl,b2,hp⟩
 have b12:=Below.step b1 b2
 have b02:=Below.step b01 b2
 clear z0 z1 z2
 obtain ⟨⟨z0,z1,z2⟩,-,-,-⟩:=q.below b12
 rcases hp with ⟨ws,hmi,haw,hmin,hws,how⟩ | ⟨rfl,hno⟩
 ·have hw3:=haw.len
  have hlow:∀ p∈ws,p<pw K (2*R)*pw K (2*R):=fun p hp=>by
   obtain ⟨i,hi,rfl⟩:=List.mem_iff_getElem.1 hp
   have:=haw.low i hi
   simpa [List.getD,hi] using this
  have hne:ws≠[]:=by intro e; rw [e] at hw3; simp at hw3
  have hfit:AllFit K (pw K (2*R)) T ws:=fun i hi=>(fits_iff hk1 hR (haw.low _ hi)).2 ((mem_pairL (by omega)).1 (haw.arr i hi))
  have htw:=haw.twins hk1 hR
  have htl:=way_twinLen hk1 hR haw hmin
  have lm:=how.at.len
  rw [castI_len] at lm
  have hln:(((ws.length:Nat):Int)==0)=false:=by rw [beq_eq_false_iff_ne]; omega
  have hln2:¬ ((ws.length:Nat):Int)=0:=by omega
  have hln3:¬ ws.length=0:=by omega
  obtain ⟨m1,m2,m3,rfl⟩:=how.at.shape
  replace hmi:=Hd hmi
  replace haw:=Hd haw
  replace hlow:=Hd hlow
  replace hne:=Hd hne
  replace hfit:=Hd hfit
  replace htw:=Hd htw
  replace htl:=Hd htl
  replace how:=Hd how
  have hws2:=Hd hws
  clear hmin
  go_wp2_with fail
  refine (hwords.out _ ws w2 (hg.out.below b12) (h.out.below b12) how.out.at hne.out hlow.out (by have:=hws2.out; omega)).mono ?_
  rintro e w3 ⟨x,y,z,rfl,b3,hpo⟩
  rcases hpo with ⟨_,rfl,hox,hoy,hd⟩ | ⟨hnf,_⟩
  ·obtain ⟨x1,x2,x3,rfl⟩:=hox.at.shape
   obtain ⟨y1,y2,y3,rfl⟩:=hoy.at.shape
   have hs:=b02.size
   replace hox:=Hd hox
   replace hoy:=Hd hoy
   replace hd:=Hd hd
   clear z0 z1 z2
   go_wp2
   (try simp only [Exit.inBlock,Exit.then])
   refine bodyPost_ret (results_tmp4 rfl _ _ _) rfl ?_
   refine ⟨_,_,_,_,rfl,Below.step b02 b3,rfl,.inr ⟨rfl,_,_,.inr ⟨hR22.out,ws,hmi.out,rfl,rfl⟩,htw.out,?_,?_,hox.out.mono hs,hoy.out.mono hs,hd.out⟩⟩
   ·rw [alongW_len]; exact htl.out
   ·rw [alongW_len]; have:=hws2.out; omega
  ·exact absurd hfit.out hnf
 ·have hn:=no_twins (K:=K) (R:=R) (T:=T) hk1 hR hno
  replace hn:=Hd hn
  clear hno z0 z1 z2
  go_wp2
  (try simp only [Exit.inBlock,Exit.then])
  refine bodyPost_ret (results_tmp4 rfl _ _ _) rfl ?_
  exact ⟨_,_,_,_,rfl,b02,rfl,.inl ⟨rfl,rfl,rfl,hn.out⟩⟩
theorem finite_ok (r:Nat→Addr) (K R:Nat) (va:Option Addr) (vn vc:Nat) (T:List Int) (w:World) (hg:Glob r w) (h:IntsAt w (.slice va vn vc) T) (hr:RuleOk K R T) (hl:T.length≤256) :
 Calls Tryz.prog 72 #[.agg #[.int .i64 K,.int .i64 R,.slice va vn vc]] w (Ret4 (FinPost w K R T) w):=by
 by_cases e:R=0
 ·subst e; exact finite_zero r K va vn vc T w hg h hr hl
 ·exact finite_pos r K R va vn vc T w hg h hr hl (by omega)
end Go.Proofs.YtindfaehjoileaaGreatDoor
namespace Go.Proofs.YtindfaehjoileaaGreatDoor
open Go.RowKit
set_option maxRecDepth 100000
theorem eca_ok (n:Nat):RuleOk 2 1 (ecaT n):=by
 refine ⟨by decide,by decide,by decide,?_,?_⟩
 ·simp [ecaT,pw]
 ·intro x hx
  simp only [ecaT,List.mem_map] at hx
  obtain ⟨i,_,rfl⟩:=hx
  have:=Nat.and_le_right (n:=n >>> i) (m:=1)
  constructor<;>omega
theorem eca_len (n:Nat):(ecaT n).length=8:=by simp [ecaT]
end Go.Proofs.YtindfaehjoileaaGreatDoor
namespace Go.Proofs.YtindfaehjoileaaGreatDoor
def FarOf (n:Nat) (adj:Nat→List Nat) (s:Nat) (D:Nat→Int):Prop :=
 ∀ t,t<n→(D t=-1∧¬ Goes adj s t)∨∃ w,Way adj s t w∧(w.length:Int)=D t+1∧∀ u,Way adj s t u→w.length≤u.length
def ToOf (n:Nat) (adj:Nat→List Nat) (s:Nat) (D:Nat→Int):Prop :=
 ∀ t,t<n→(D t=-1∧¬ Goes adj t s)∨∃ w,Way adj t s w∧(w.length:Int)=D t+1∧∀ u,Way adj t s u→w.length≤u.length
theorem ToOf.low {n:Nat} {adj:Nat→List Nat} {s:Nat} {D:Nat→Int} (h:ToOf n adj s D) {t:Nat} (ht:t<n):-1≤D t:=by
 rcases h t ht with ⟨h1,_⟩ | ⟨w,h1,h2,_⟩
 ·omega
 ·have:=h1.pos; omega
theorem ToOf.pos {n:Nat} {adj:Nat→List Nat} {s:Nat} {D:Nat→Int} (h:ToOf n adj s D) {t:Nat} (ht:t<n):0≤D t↔Goes adj t s:=by
 rcases h t ht with ⟨h1,h2⟩ | ⟨w,h1,h2,_⟩
 ·exact ⟨fun q=>by omega,fun q=>absurd q h2⟩
 ·exact ⟨fun _=>h1.goes,fun _=>by have:=h1.pos; omega⟩
theorem ToOf.le {n:Nat} {adj:Nat→List Nat} {s:Nat} {D:Nat→Int} (h:ToOf n adj s D) {t:Nat} (ht:t<n) {u:List Nat} (hu:Way adj t s u):0≤D t∧D t+1≤u.length:=by
 rcases h t ht with ⟨_,h2⟩ | ⟨w,h1,h2,h3⟩
 ·exact absurd hu.goes h2
 ·have:=h1.pos; have:=h3 u hu; omega
theorem ToOf.first {n:Nat} {adj:Nat→List Nat} {s:Nat} {D:Nat→Int} (h:ToOf n adj s D) {t:Nat} (ht:t<n) {u:List Nat} (hu:IsFirst adj t s u):(u.length:Int)=D t+1:=by
 rcases h t ht with ⟨_,h2⟩ | ⟨w,h1,h2,h3⟩
 ·exact absurd hu.way.goes h2
 ·have:=h3 u hu.way; have:=hu.short w h1; omega
theorem FarOf.pos {n:Nat} {adj:Nat→List Nat} {s:Nat} {D:Nat→Int} (h:FarOf n adj s D) {t:Nat} (ht:t<n):0≤D t↔Goes adj s t:=by
 rcases h t ht with ⟨h1,h2⟩ | ⟨w,h1,h2,_⟩
 ·exact ⟨fun q=>by omega,fun q=>absurd q h2⟩
 ·exact ⟨fun _=>h1.goes,fun _=>by have:=h1.pos; omega⟩
structure FBase (adj:Nat→List Nat) (s:Nat) (D:Nat→Int) (q:List Nat) (b i:Nat):Prop where
 hd:q[0]?=some s
 nodup:q.Nodup
 there:∀ x,0≤D x↔x∈q
 low:∀ x,-1≤D x
 d0:D s=0
 sound:∀ x∈q,∃ w,Way adj s x w∧(w.length:Int)=D x+1
 par:∀ x∈q,x=s∨∃ p y,p<b∧q[p]?=some y∧D x=D y+1
 mono:∀ (j k x y:Nat),j≤k→q[j]?=some x→q[k]?=some y→D x≤D y
 closed:∀ p x,p<i→q[p]?=some x→∀ t∈adj x,0≤D t∧D t≤D x+1
structure FIn (adj:Nat→List Nat) (s:Nat) (D:Nat→Int) (q:List Nat) (i v:Nat) (l:List Nat):Prop where
 base:FBase adj s D q (i+1) i
 cur:q[i]?=some v
 sub:∀ t∈l,t∈adj v
 seen:∀ t∈adj v,t∈l∨(0≤D t∧D t≤D v+1)
section
variable {adj:Nat→List Nat} {s:Nat} {D:Nat→Int} {q:List Nat} {i v b:Nat} {l:List Nat}
theorem FBase.init (adj:Nat→List Nat) (s:Nat):FBase adj s (updN (fun _=>(-1:Int)) s 0) [s] 0 0:=by
 have hg:∀ j x,[s][j]?=some x→j=0∧x=s:=fun j x hx=>by
  cases j with
  | zero=>simp at hx; exact ⟨rfl,hx.symm⟩
  | succ j=>simp at hx
 refine ⟨rfl,by simp,fun x=>?_,fun x=>?_,updN_same _ _ _,fun x hx=>?_,fun x hx=>?_,fun j k x y _ hx hy=>?_,fun p x hp=>by omega⟩
 ·by_cases e:x=s
  ·subst e; rw [updN_same]; simp
  ·rw [updN_other _ _ _ e]; simp [e]
 ·by_cases e:x=s
  ·subst e; rw [updN_same]; omega
  ·rw [updN_other _ _ _ e]; omega
 ·cases List.mem_singleton.1 hx; exact ⟨_,.one _,by rw [updN_same]; simp⟩
 ·exact .inl (List.mem_singleton.1 hx)
 ·rw [(hg j x hx).2,(hg k y hy).2]; exact Int.le_refl _
theorem FBase.enter (h:FBase adj s D q i i) (hv:q[i]?=some v):FIn adj s D q i v (adj v) :=
 ⟨⟨h.hd,h.nodup,h.there,h.low,h.d0,h.sound,fun x hx=>(h.par x hx).imp id (fun ⟨p,y,h1,h2⟩=>⟨p,y,by omega,h2⟩),h.mono,h.closed⟩,hv,fun t ht=>ht,fun t ht=>.inl ht⟩
theorem FIn.leave (h:FIn adj s D q i v []):FBase adj s D q (i+1) (i+1):=by
 refine ⟨h.base.hd,h.base.nodup,h.base.there,h.base.low,h.base.d0,h.base.sound,h.base.par,h.base.mono,fun p x hp hx t ht=>?_⟩
 by_cases e:p=i
 ·subst e
  rw [h.cur] at hx; cases hx
  exact (h.seen t ht).resolve_left (by simp)
 ·exact h.base.closed p x (by omega) hx t ht
theorem FIn.top (h:FIn adj s D q i v l):∀ x∈q,D x≤D v+1:=by
 intro x hx
 have hv0:=(h.base.there v).2 (List.mem_of_getElem? h.cur)
 rcases h.base.par x hx with rfl | ⟨p,y,h1,h2,h3⟩
 ·have:=h.base.d0; omega
 ·have:=h.base.mono p i y v (by omega) h2 h.cur; omega
theorem FIn.old {t:Nat} (h:FIn adj s D q i v (t::l)) (ht:0≤D t):FIn adj s D q i v l:=by
 refine ⟨h.base,h.cur,fun x hx=>h.sub x (List.mem_cons_of_mem _ hx),fun x hx=>?_⟩
 rcases h.seen x hx with q1 | q1
 ·rcases List.mem_cons.1 q1 with e | e
  ·subst e; exact .inr ⟨ht,h.top x ((h.base.there x).1 ht)⟩
  ·exact .inl e
 ·exact .inr q1
theorem FIn.add {t:Nat} (h:FIn adj s D q i v (t::l)) (ht:D t<0):FIn adj s (updN D t (D v+1)) (q++[t]) i v l:=by
 have hB:=h.base
 have htq:t∉q:=fun hm=>by have:=(hB.there t).2 hm; omega
 have hil:=get_of h.cur
 have hvq:=List.mem_of_getElem? h.cur
 have hv0:=(hB.there v).2 hvq
 have hga:∀ j x,(q++[t])[j]?=some x→q[j]?=some x∧j<q.length∧x≠t∨j=q.length∧x=t:=fun j x hx=>by
  by_cases e:j<q.length
  ·rw [List.getElem?_append_left e] at hx
   exact .inl ⟨hx,e,fun e2=>htq (by rw [← e2]; exact List.mem_of_getElem? hx)⟩
  ·rw [List.getElem?_append_right (by omega)] at hx
   by_cases e2:j=q.length
   ·rw [e2] at hx; simp at hx; exact .inr ⟨e2,hx.symm⟩
   ·rw [List.getElem?_eq_none (by simp; omega)] at hx; cases hx
 have hgo:∀ {j x},q[j]?=some x→(q++[t])[j]?=some x:=fun {j x} hx=>by rw [List.getElem?_append_left (get_of hx)]; exact hx
 have hne:∀ x,x∈q→x≠t:=fun x hx e=>htq (by rw [← e]; exact hx)
 have dq:∀ x,x∈q→updN D t (D v+1) x=D x:=fun x hx=>updN_other _ _ _ (hne x hx)
 have hsq:s∈q:=List.mem_of_getElem? hB.hd
 have htop:=h.top
 refine ⟨⟨hgo hB.hd,?_,fun x=>?_,fun x=>?_,?_,fun x hx=>?_,fun x hx=>?_,fun j k x y hjk hx hy=>?_,fun p x hp hx t' ht'=>?_⟩,hgo h.cur,fun x hx=>h.sub x (List.mem_cons_of_mem _ hx),fun x hx=>?_⟩
 ·exact List.nodup_append.2 ⟨hB.nodup,by simp,fun x hx y hy=>by cases List.mem_singleton.1 hy; exact hne x hx⟩
 ·by_cases e:x=t
  ·subst e; rw [updN_same]; simp; omega
  ·rw [updN_other _ _ _ e,hB.there]; simp [e]
 ·by_cases e:x=t
  ·subst e; rw [updN_same]; omega
  ·rw [updN_other _ _ _ e]; exact hB.low x
 ·rw [dq s hsq]; exact hB.d0
 ·rcases List.mem_append.1 hx with hx | hx
  ·rw [dq x hx]; exact hB.sound x hx
  ·cases List.mem_singleton.1 hx
   obtain ⟨w,h1,h2⟩:=hB.sound v hvq
   refine ⟨w++[t],h1.snoc (h.sub _ List.mem_cons_self),?_⟩
   rw [updN_same,List.length_append,List.length_singleton]; omega
 ·rcases List.mem_append.1 hx with hx | hx
  ·rcases hB.par x hx with e | ⟨p,y,h1,h2,h3⟩
   ·exact .inl e
   ·exact .inr ⟨p,y,h1,hgo h2,by rw [dq x hx,dq y (List.mem_of_getElem? h2)]; exact h3⟩
  ·cases List.mem_singleton.1 hx
   exact .inr ⟨i,v,by omega,hgo h.cur,by rw [updN_same,dq v hvq]⟩
 ·rcases hga k y hy with ⟨k1,k2,k3⟩ | ⟨rfl,rfl⟩
  ·rcases hga j x hx with ⟨h1,h2,h3⟩ | ⟨rfl,rfl⟩
   ·rw [dq x (List.mem_of_getElem? h1),dq y (List.mem_of_getElem? k1)]; exact hB.mono j k x y hjk h1 k1
   ·omega
  ·rcases hga j x hx with ⟨h1,h2,h3⟩ | ⟨h1,rfl⟩
   ·rw [dq x (List.mem_of_getElem? h1),updN_same]; exact htop x (List.mem_of_getElem? h1)
   ·exact Int.le_refl _
 ·rcases hga p x hx with ⟨h1,h2,h3⟩ | ⟨h1,rfl⟩
  ·have:=hB.closed p x hp h1 t' ht'
   have e:t'≠t:=fun e=>by subst e; omega
   rw [updN_other _ _ _ e,dq x (List.mem_of_getElem? h1)]
   exact this
  ·omega
 ·by_cases e:x=t
  ·subst e; right; rw [updN_same,dq v hvq]; omega
  ·rcases h.seen x hx with q1 | q1
   ·exact .inl ((List.mem_cons.1 q1).resolve_left e)
   ·right; rw [updN_other _ _ _ e,dq v hvq]; exact q1
theorem FBase.far (h:FBase adj s D q b i) (hi:q.length≤i) {x y:Nat} {u:List Nat} (hu:Way adj x y u) (hx:x∈q):y∈q∧D y+1≤D x+u.length:=by
 induction hu with
 | one=>exact ⟨hx,by simp⟩
 | @cons x t y w ht hu ih =>
  obtain ⟨j,hj⟩:=List.mem_iff_getElem?.1 hx
  have:=h.closed j x (by have:=get_of hj; omega) hj t ht
  have:=ih ((h.there t).1 this.1)
  exact ⟨this.1,by simp only [List.length_cons]; omega⟩
end
theorem step_first {n:Nat} {adj:Nat→List Nat} {s:Nat} {D:Nat→Int} (h:ToOf n adj s D) (hlt:∀ v,v<n→∀ t∈adj v,t<n) {v best:Nat} (hv:v<n)
 (hb:best∈adj v) (hd:D best=D v-1) (h0:0≤D best) (hm:∀ t∈adj v,D t=D v-1→best≤t) {u:List Nat} (hu:IsFirst adj best s u):IsFirst adj v s (v::u):=by
 have hbn:=hlt v hv best hb
 have hul:=h.first hbn hu
 refine ⟨.cons hb hu.way,fun x hx=>?_,fun x hx hl=>?_⟩
 ·have:=h.le hv hx
  simp only [List.length_cons]; omega
 ·cases hx with
  | one=>simp only [List.length_cons,List.length_nil] at hl; have:=hu.way.pos; omega
  | @cons _ t _ x' ht hx' =>
   have htn:=hlt v hv t ht
   have h1:=h.le htn hx'
   have h2:=h.le hv (.cons ht hx')
   simp only [List.length_cons] at hl h2
   have hdt:D t=D v-1:=by
    rcases h t htn with ⟨_,q⟩ | ⟨w,w1,w2,w3⟩
    ·exact absurd hx'.goes q
    ·have:=h.le hv (.cons ht w1)
     simp only [List.length_cons] at this
     omega
   have hbt:=hm t ht hdt
   refine .inr ⟨rfl,?_⟩
   by_cases e:best=t
   ·subst e; exact hu.least x' hx' (by omega)
   ·obtain ⟨_,rfl⟩:=hx'.ne
    obtain ⟨_,rfl⟩:=hu.way.ne
    exact .inl (by omega)
theorem ToOf.next {n:Nat} {adj:Nat→List Nat} {s:Nat} {D:Nat→Int} (h:ToOf n adj s D) (hlt:∀ v,v<n→∀ t∈adj v,t<n) {v:Nat} (hv:v<n) (hne:v≠s) (h0:0≤D v):1≤D v∧∃ t∈adj v,D t=D v-1:=by
 rcases h v hv with ⟨q,_⟩ | ⟨w,w1,w2,w3⟩
 ·omega
 ·cases w1 with
  | one=>exact absurd rfl hne
  | @cons _ t _ w' ht hw =>
   have htn:=hlt v hv t ht
   have:=hw.pos
   simp only [List.length_cons] at w2 w3
   refine ⟨by omega,t,ht,?_⟩
   rcases h t htn with ⟨_,q⟩ | ⟨x,x1,x2,x3⟩
   ·exact absurd hw.goes q
   ·have:=x3 w' hw
    have:=w3 _ (.cons ht x1)
    simp only [List.length_cons] at this
    omega
def sumN (F:Nat→Nat):Nat→Nat
 | 0=>0
 | n+1=>sumN F n+F n
theorem sumN_congr {F F':Nat→Nat}:∀ {n},(∀ v,v<n→F v=F' v)→sumN F n=sumN F' n
 | 0,_=>rfl
 | n+1,h=>by
  show sumN F n+F n=sumN F' n+F' n
  rw [sumN_congr (n:=n) (fun v hv=>h v (by omega)),h n (by omega)]
theorem sumN_pos {F:Nat→Nat}:∀ {n},0<sumN F n↔∃ v,v<n∧0<F v
 | 0=>by simp [sumN]
 | n+1=>by
  show 0<sumN F n+F n↔_
  constructor
  ·intro h
   by_cases e:0<sumN F n
   ·obtain ⟨v,h1,h2⟩:=sumN_pos.1 e; exact ⟨v,by omega,h2⟩
   ·exact ⟨n,by omega,by omega⟩
  ·rintro ⟨v,h1,h2⟩
   by_cases e:v=n
   ·subst e; omega
   ·have:=sumN_pos.2 ⟨v,show v<n by omega,h2⟩; omega
theorem sumN_upd {F F':Nat→Nat} {v:Nat} (h:∀ u,u≠v→F' u=F u):∀ {n},v<n→sumN F' n+F v=sumN F n+F' v
 | 0,q=>by omega
 | n+1,q=>by
  show sumN F' n+F' n+F v=sumN F n+F n+F' v
  by_cases e:v=n
  ·subst e
   rw [sumN_congr (n:=v) (fun u hu=>h u (by omega))]; omega
  ·have:=sumN_upd h (n:=n) (by omega)
   rw [h n (fun q=>e q.symm)]; omega
theorem sumN_zero:∀ n,sumN (fun _=>0) n=0
 | 0=>rfl
 | n+1=>by show sumN _ n+0=0; rw [sumN_zero n]
theorem sumN_add (F F':Nat→Nat):∀ n,sumN (fun v=>F v+F' v) n=sumN F n+sumN F' n
 | 0=>rfl
 | n+1=>by show sumN _ n+(F n+F' n)=sumN F n+F n+(sumN F' n+F' n); rw [sumN_add F F' n]; omega
theorem sumN_one (x:Nat):∀ n,sumN (fun v=>if v=x then 1 else 0) n=if x<n then 1 else 0
 | 0=>rfl
 | n+1=>by
  show sumN _ n+(if n=x then 1 else 0)=_
  rw [sumN_one x n]
  by_cases e:n=x
  ·subst e; simp
  ·rw [if_neg e]
   by_cases q:x<n
   ·rw [if_pos q,if_pos (by omega)]
   ·rw [if_neg q,if_neg (by omega)]
theorem length_counts (n:Nat):∀ (l:List Nat),(∀ x∈l,x<n)→l.length=sumN (fun v=>l.count v) n
 | [],_=>by simp [sumN_zero]
 | x::l,h=>by
  have ih:=length_counts n l (fun y hy=>h y (List.mem_cons_of_mem _ hy))
  have e:(fun v=>(x::l).count v)=fun v=>l.count v+if v=x then 1 else 0:=by
   funext v
   rw [List.count_cons]
   by_cases q:x=v
   ·simp [q]
   ·rw [if_neg (by simpa using q),if_neg (fun r=>q r.symm)]
  rw [e,sumN_add,sumN_one,if_pos (h x List.mem_cons_self),← ih,List.length_cons]
def Deg (n:Nat) (A:Nat→List Nat) (c inn:Nat→Nat):Prop:=∀ t,t<n→inn t=sumN (fun v=>((A v).drop (c v)).count t) n
theorem Deg.init {n:Nat} {A B:Nat→List Nat} (hB:∀ t,t<n→∀ x∈B t,x<n) (hc:∀ v t,v<n→t<n→(B t).count v=(A v).count t):Deg n A (fun _=>0) (fun t=>(B t).length):=by
 intro t ht
 show (B t).length=_
 rw [length_counts n _ (hB t ht)]
 exact sumN_congr fun v hv=>by rw [hc v t hv ht,List.drop_zero]
theorem Deg.step {n:Nat} {A:Nat→List Nat} {c inn:Nat→Nat} {v j t:Nat} (h:Deg n A c inn) (hv:v<n) (hj:c v=j) (ht:(A v)[j]?=some t) (htn:t<n) :
 0<inn t∧Deg n A (updN c v (j+1)) (updN inn t (inn t-1)):=by
 have hjl:j<(A v).length:=get_of ht
 have hd:(A v).drop j=t::(A v).drop (j+1):=by
  rw [List.drop_eq_getElem_cons hjl]
  rw [List.getElem?_eq_getElem hjl] at ht; injection ht with ht; rw [ht]
 have key:∀ x,sumN (fun u=>((A u).drop (updN c v (j+1) u)).count x) n+(if x=t then 1 else 0)=sumN (fun u=>((A u).drop (c u)).count x) n:=by
  intro x
  have:=sumN_upd (F:=fun u=>((A u).drop (c u)).count x) (F':=fun u=>((A u).drop (updN c v (j+1) u)).count x) (v:=v) (fun u hu=>by simp only [updN_other _ _ _ hu]) hv
  simp only [updN_same,hj,hd,List.count_cons] at this
  by_cases e:x=t
  ·subst e; rw [if_pos rfl]; simp at this; omega
  ·rw [if_neg e]
   have e2:(t==x)=false:=by simpa using fun q=>e q.symm
   rw [e2] at this; simp at this; omega
 have h1:=key t
 rw [if_pos rfl,← h t htn] at h1
 refine ⟨by omega,fun x hx=>?_⟩
 have h2:=key x
 by_cases e:x=t
 ·subst e; rw [updN_same]; omega
 ·rw [updN_other _ _ _ e,h x hx]; rw [if_neg e] at h2; omega
structure Peel (n:Nat) (A B:Nat→List Nat) (inn out:Nat→Nat) (c d:Nat→Nat) (gone:Nat→Bool) (q:List Nat) (lives:Nat→Prop):Prop where
 deg1:Deg n A c inn
 deg2:Deg n B d out
 nodup:q.Nodup
 goneq:∀ x,gone x=true↔x∈q
 low:∀ x∈q,x<n
 fresh:∀ v,v∉q→c v=0∧d v=0
 keep:∀ t,t<n→lives t→gone t=false
structure LiveSet (n:Nat) (A B:Nat→List Nat) (lives:Nat→Prop):Prop where
 behind:∀ t,t<n→lives t→∃ p,p<n∧lives p∧t∈A p
 ahead:∀ t,t<n→lives t→∃ p,p<n∧lives p∧t∈B p
section
variable {n:Nat} {A B:Nat→List Nat} {inn out c d:Nat→Nat} {gone:Nat→Bool} {q:List Nat} {lives:Nat→Prop}
theorem Peel.live_in (h:Peel n A B inn out c d gone q lives) (hL:LiveSet n A B lives) {t:Nat} (ht:t<n) (hl:lives t):0<inn t∧0<out t:=by
 have aux:∀ p,p<n→lives p→c p=0∧d p=0:=fun p hp hlp=>h.fresh p (fun q=>by have:=(h.goneq p).2 q; rw [h.keep p hp hlp] at this; cases this)
 refine ⟨?_,?_⟩
 ·obtain ⟨p,hp,hlp,hm⟩:=hL.behind t ht hl
  rw [h.deg1 t ht]
  refine sumN_pos.2 ⟨p,hp,?_⟩
  rw [(aux p hp hlp).1,List.drop_zero]
  exact List.count_pos_iff.2 hm
 ·obtain ⟨p,hp,hlp,hm⟩:=hL.ahead t ht hl
  rw [h.deg2 t ht]
  refine sumN_pos.2 ⟨p,hp,?_⟩
  rw [(aux p hp hlp).2,List.drop_zero]
  exact List.count_pos_iff.2 hm
theorem Peel.goes (h:Peel n A B inn out c d gone q lives) (hL:LiveSet n A B lives) {t:Nat} (ht:t<n) (hg:gone t=false) (h0:inn t=0∨out t=0):Peel n A B inn out c d (updN gone t true) (q++[t]) lives:=by
 have htq:t∉q:=fun r=>by have:=(h.goneq t).2 r; rw [hg] at this; cases this
 refine ⟨h.deg1,h.deg2,?_,fun x=>?_,fun x hx=>?_,fun v hv=>h.fresh v (fun r=>hv (List.mem_append_left _ r)),fun x hx hl=>?_⟩
 ·exact List.nodup_append.2 ⟨h.nodup,by simp,fun x hx y hy e=>by cases List.mem_singleton.1 hy; subst e; exact htq hx⟩
 ·by_cases e:x=t
  ·subst e; rw [updN_same]; simp
  ·rw [updN_other _ _ _ e,h.goneq]; simp [e]
 ·rcases List.mem_append.1 hx with hx | hx
  ·exact h.low x hx
  ·cases List.mem_singleton.1 hx; exact ht
 ·by_cases e:x=t
  ·subst e
   have:=h.live_in hL hx hl; omega
  ·rw [updN_other _ _ _ e]; exact h.keep x hx hl
theorem Peel.arrow1 (h:Peel n A B inn out c d gone q lives) {v j t:Nat} (hv:v∈q) (hj:c v=j) (ht:(A v)[j]?=some t) (htn:t<n) :
 0<inn t∧Peel n A B (updN inn t (inn t-1)) out (updN c v (j+1)) d gone q lives:=by
 obtain ⟨h1,h2⟩:=h.deg1.step (h.low v hv) hj ht htn
 exact ⟨h1,h2,h.deg2,h.nodup,h.goneq,h.low,fun u hu=>by
  have e:u≠v:=fun e=>hu (by rw [e]; exact hv)
  rw [updN_other _ _ _ e]; exact h.fresh u hu,h.keep⟩
end
open Go.RowKit
set_option maxRecDepth 100000
def CntTo (G:List (List Int)) (k j:Nat) (F:Nat→List Int):Prop :=
 ∀ t,t<G.length→∀ v:Nat,(F t).count (v:Int)=if v<k then (G.getD v []).count (t:Int) else if v=k then ((G.getD k []).take j).count (t:Int) else 0
theorem CntTo.zero (G:List (List Int)):CntTo G 0 0 (fun _=>[]):=by
 intro t _ v
 rw [if_neg (by omega)]
 split<;>simp
theorem CntTo.next {G:List (List Int)} {k:Nat} {F:Nat→List Int} (h:CntTo G k (G.getD k []).length F):CntTo G (k+1) 0 F:=by
 intro t ht v
 rw [h t ht v,List.take_length]
 by_cases e:v<k
 ·rw [if_pos e,if_pos (by omega)]
 ·rw [if_neg e]
  by_cases e2:v=k
  ·subst e2; rw [if_pos rfl,if_pos (by omega)]
  ·rw [if_neg e2,if_neg (by omega)]
   split<;>simp
theorem CntTo.add {G:List (List Int)} {k j u:Nat} {F:Nat→List Int} (h:CntTo G k j F) (hj:(G.getD k [])[j]?=some (u:Int)):CntTo G k (j+1) (updN F u (F u++[(k:Int)])):=by
 have htk:(G.getD k []).take (j+1)=(G.getD k []).take j++[(u:Int)]:=by
  rw [List.take_add_one,hj]; rfl
 intro t ht v
 have h1:=h t ht v
 rw [htk,List.count_append]
 by_cases e:t=u
 ·subst e
  rw [updN_same,List.count_append,h1]
  by_cases e1:v<k
  ·rw [if_pos e1,if_pos e1]
   have:([(k:Int)]:List Int).count (v:Int)=0:=by
    rw [List.count_eq_zero]; simp; omega
   omega
  ·rw [if_neg e1,if_neg e1]
   by_cases e2:v=k
   ·subst e2; rw [if_pos rfl,if_pos rfl]; simp
   ·rw [if_neg e2,if_neg e2]
    rw [Nat.zero_add,List.count_eq_zero]; simp; omega
 ·rw [updN_other _ _ _ e,h1]
  have:([(u:Int)]:List Int).count (t:Int)=0:=by
   rw [List.count_eq_zero]; simp; omega
  rw [this,Nat.add_zero]
structure TurnedX (G H:List (List Int)):Prop where
 t:TurnedOf G H
 cnt:∀ t v,t<G.length→v<G.length→(adjOf H t).count v=(adjOf G v).count t
theorem count_toNat:∀ (l:List Int) (x:Nat),(∀ y∈l,0≤y)→(l.map Int.toNat).count x=l.count (x:Int)
 | [],_,_=>rfl
 | a::l,x,h=>by
  rw [List.map_cons,List.count_cons,List.count_cons,count_toNat l x (fun y hy=>h y (List.mem_cons_of_mem _ hy))]
  have ha:=h a List.mem_cons_self
  by_cases e:a=(x:Int)
  ·subst e; simp
  ·have:¬ a.toNat=x:=by omega
   simp [e,this]
theorem TurnedX.of {G:List (List Int)} {F:Nat→List Int} (hok:GraphOk G) (h:BackTo G G.length 0 F) (hc:CntTo G G.length 0 F):TurnedX G (rowsOf G.length F):=by
 have hT:=h.turned
 refine ⟨hT,fun t v ht hv=>?_⟩
 unfold adjOf
 rw [rowsOf_get _ _ _ ht,count_toNat,count_toNat,hc t ht v,if_pos hv]
 ·exact fun y hy=>(hok v hv y hy).1
 ·intro y hy
  obtain ⟨v,rfl,_⟩:=((h t ht).2 y).1 hy
  omega
def ListsFrom (B:Nat) (w:World) (v:Value) (G:List (List Int)):Prop :=
 ∃ vs:List Value,OwnV 30 B w v vs∧vs.length=G.length∧∀ i,i<G.length→OwnI B w (vAt vs i) (G.getD i [])
theorem ListsFrom.at {B:Nat} {w:World} {v:Value} {G:List (List Int)} (h:ListsFrom B w v G):ListsAt w v G:=by
 obtain ⟨vs,h1,h2,h3⟩:=h
 exact ⟨vs,h1.at,h2,fun i hi=>(h3 i hi).at⟩
theorem ListsFrom.below {B:Nat} {w w':World} {v:Value} {G:List (List Int)} (h:ListsFrom B w v G) (hb:Below w.heap.size w w'):ListsFrom B w' v G:=by
 obtain ⟨vs,h1,h2,h3⟩:=h
 exact ⟨vs,h1.below hb,h2,fun i hi=>(h3 i hi).below hb⟩
theorem ListsFrom.set {B:Nat} {w:World} {v:Value} {G:List (List Int)} (h:ListsFrom B w v G) {a:Addr} (ha:a.block<B) (u:Value):ListsFrom B (w.setCell a u) v G:=by
 obtain ⟨vs,h1,h2,h3⟩:=h
 exact ⟨vs,OwnV.setBelowBase h1 ha u,h2,fun i hi=>OwnV.toI (OwnV.setBelowBase (h3 i hi).toV ha u)⟩
theorem WN.from {B:Nat} {w:World} {f:Names} {ov:Value} {vals:List Value} {n:Nat} {F:Nat→List Int} (h:WN f ov vals n F) (hr:Rows B w f):ListsFrom B w ov (rowsOf n F) :=
 ⟨vals,hr.ownV h.outer,by rw [h.len,rowsOf_len],fun i hi=>by
   rw [rowsOf_len] at hi
   rw [rowsOf_get n F i hi]
   exact hr.ownI (h.rows i hi)⟩
def BestTo (l:List Nat) (D:Nat→Int) (d:Int) (k:Nat) (b:Int):Prop :=
 (b=-1∧∀ t∈l.take k,D t≠d)∨∃ m:Nat,b=m∧m∈l.take k∧D m=d∧∀ t∈l.take k,D t=d→m≤t
theorem BestTo.zero (l:List Nat) (D:Nat→Int) (d:Int):BestTo l D d 0 (-1):=.inl ⟨rfl,fun t ht=>by simp at ht⟩
theorem BestTo.low {l:List Nat} {D:Nat→Int} {d:Int} {k:Nat} {b:Int} (h:BestTo l D d k b):-1≤b:=by
 rcases h with ⟨h,_⟩ | ⟨m,h,_⟩<;>omega
theorem take_mem {l:List Nat} {k t:Nat} (ht:l[k]?=some t) (x:Nat):x∈l.take (k+1)↔x∈l.take k∨x=t:=by
 rw [List.take_add_one,ht]; simp
theorem BestTo.skip {l:List Nat} {D:Nat→Int} {d:Int} {k:Nat} {b:Int} (h:BestTo l D d k b) {t:Nat} (ht:l[k]?=some t) (hd:D t≠d):BestTo l D d (k+1) b:=by
 rcases h with ⟨h1,h2⟩ | ⟨m,h1,h2,h3,h4⟩
 ·refine .inl ⟨h1,fun x hx=>?_⟩
  rcases (take_mem ht x).1 hx with hx | rfl
  ·exact h2 x hx
  ·exact hd
 ·refine .inr ⟨m,h1,(take_mem ht m).2 (.inl h2),h3,fun x hx hxd=>?_⟩
  rcases (take_mem ht x).1 hx with hx | rfl
  ·exact h4 x hx hxd
  ·exact absurd hxd hd
theorem BestTo.take {l:List Nat} {D:Nat→Int} {d:Int} {k:Nat} {b:Int} (h:BestTo l D d k b) {t:Nat} (ht:l[k]?=some t) (hd:D t=d) (hb:b<0∨(t:Int)<b):BestTo l D d (k+1) t:=by
 refine .inr ⟨t,rfl,(take_mem ht t).2 (.inr rfl),hd,fun x hx hxd=>?_⟩
 rcases (take_mem ht x).1 hx with hx | rfl
 ·rcases h with ⟨h1,h2⟩ | ⟨m,h1,h2,h3,h4⟩
  ·exact absurd hxd (h2 x hx)
  ·have:=h4 x hx hxd; omega
 ·exact Nat.le_refl _
structure Down (n:Nat) (adj:Nat→List Nat) (x y:Nat) (D:Nat→Int) (out:List Nat) (v:Nat):Prop where
 low:v<n
 there:0≤D v
 len:(out.length:Int)+D v=D x+1
 last:∃ pre,out=pre++[v]
 ext:∀ u,IsFirst adj v y u→∀ pre,out=pre++[v]→IsFirst adj x y (pre++u)
theorem Down.start {n:Nat} {adj:Nat→List Nat} {x y:Nat} {D:Nat→Int} (hx:x<n) (h0:0≤D x):Down n adj x y D [x] x :=
 ⟨hx,h0,by simp; omega,⟨[],rfl⟩,fun u hu pre hp=>by
   cases pre with
   | nil=>exact hu
   | cons a pre=>simp at hp⟩
theorem Down.next {n:Nat} {adj:Nat→List Nat} {x y:Nat} {D:Nat→Int} {out:List Nat} {v m:Nat} (h:Down n adj x y D out v) (hT:ToOf n adj y D) (hlt:∀ v,v<n→∀ t∈adj v,t<n) (hm:m∈adj v) (hd:D m=D v-1) (h1:1≤D v)
 (hmin:∀ t∈adj v,D t=D v-1→m≤t):Down n adj x y D (out++[m]) m:=by
 refine ⟨hlt v h.low m hm,by omega,by rw [List.length_append,List.length_singleton]; have:=h.len; omega,⟨out,rfl⟩,fun u hu pre hp=>?_⟩
 have hp2:out=pre:=List.append_inj_left' hp rfl
 subst hp2
 obtain ⟨pre,hpre⟩:=h.last
 have:=h.ext (v::u) (step_first hT hlt h.low hm hd (by omega) hmin hu) pre hpre
 rw [hpre,List.append_assoc]
 exact this
theorem IsFirst.one (adj:Nat→List Nat) (y:Nat):IsFirst adj y y [y]:=by
 refine ⟨.one y,fun u hu=>hu.pos,fun u hu hl=>?_⟩
 obtain ⟨w,rfl⟩:=hu.ne
 cases w with
 | nil=>exact lexLe_refl _
 | cons a w=>simp at hl
theorem Down.stop {n:Nat} {adj:Nat→List Nat} {x y:Nat} {D:Nat→Int} {out:List Nat} (h:Down n adj x y D out y):IsFirst adj x y out:=by
 obtain ⟨pre,hpre⟩:=h.last
 rw [hpre]
 exact h.ext [y] (IsFirst.one adj y) pre hpre
theorem row_push {B:Nat} {w w1:World} {f:Names} {i:Nat×Nat} {qv qv':Value} {q:List Nat} (hr:Rows B w f) (hf:f i=some (rowI qv (castI q))) (t:Nat) (ho:OwnI B w1 qv' (castI q++[(t:Int)]))
 (hal:(roomOf qv'=roomOf qv∧w.grownBy w1 qv.ownBlock)∨(∃ k,qv'.ownBlock=some k∧w.heap.size≤k∧w.grownBy w1 none)):Rows B w1 (upd f i (some (rowI qv' (castI (q++[t]))))):=by
 have hO:=hr.ownI hf
 have hg:w.grownBy w1 qv.ownBlock:=grown_via (hal.imp (·.2) (fun ⟨_,_,_,q⟩=>q))
 have hob:qv'.ownBlock=qv.ownBlock∨∃ k,qv'.ownBlock=some k∧w.heap.size≤k:=by
  rcases hal with ⟨q,_⟩ | ⟨k,h1,h2,_⟩
  ·obtain ⟨a1,n1,c1,e1⟩:=hO.at.shape
   obtain ⟨a2,n2,c2,e2⟩:=ho.at.shape
   exact .inl (ownBlock_of_room e1 e2 q)
  ·exact .inr ⟨k,h1,h2⟩
 have:=hr.grown (r':=rowI qv' (castI q++[(t:Int)])) hf hg ho hob
 rwa [← castI_snoc] at this
theorem OwnI.set3 {B b:Nat} {w:World} {v:Value} {xs:List Int} (h:OwnI B w v xs) (hb:b<B) (x y z:Value):OwnI B (((w.setCell ⟨b,0,none⟩ x).setCell ⟨b,1,none⟩ y).setCell ⟨b,2,none⟩ z) v xs :=
 OwnV.toI (((h.toV.setBelowBase (a:=⟨b,0,none⟩) hb x).setBelowBase (a:=⟨b,1,none⟩) hb y).setBelowBase (a:=⟨b,2,none⟩) hb z)
theorem FirstPost.set3 {w w3 w4:World} {adj:Nat→List Nat} {a b:Nat} {v:Value} (h:FirstPost w3 adj a b v w4) {c:Nat} (hb:c<w3.heap.size) (hs:w.heap.size≤w3.heap.size) (x y z:Value):FirstPost w adj a b v (((w4.setCell ⟨c,0,none⟩ x).setCell ⟨c,1,none⟩ y).setCell ⟨c,2,none⟩ z):=by
 rcases h with ⟨u,h1,h2⟩ | h
 ·exact .inl ⟨u,h1,(h2.set3 hb x y z).mono hs⟩
 ·exact .inr h
end Go.Proofs.YtindfaehjoileaaGreatDoor
namespace Go.Proofs.YtindfaehjoileaaGreatDoor
structure PS (n:Nat) (A B:Nat→List Nat) (inn out c d:Nat→Nat) (gone:Nat→Bool) (q:List Nat) (lives:Nat→Prop) (i:Nat):Prop where
 peel:Peel n A B inn out c d gone q lives
 pos:∀ t,t<n→gone t=false→0<inn t∧0<out t
 done:∀ j x,j<i→q[j]?=some x→c x=(A x).length∧d x=(B x).length
 rest:∀ j x,i≤j→q[j]?=some x→c x=0∧d x=0
structure Mid (n:Nat) (A B:Nat→List Nat) (inn out c d:Nat→Nat) (gone:Nat→Bool) (q:List Nat) (lives:Nat→Prop) (i v:Nat):Prop where
 peel:Peel n A B inn out c d gone q lives
 pos:∀ t,t<n→gone t=false→0<inn t∧0<out t
 cur:q[i]?=some v
 done:∀ j x,j<i→q[j]?=some x→c x=(A x).length∧d x=(B x).length
 rest:∀ j x,i<j→q[j]?=some x→c x=0∧d x=0
section
variable {n:Nat} {A B:Nat→List Nat} {inn out c d:Nat→Nat} {gone:Nat→Bool} {q:List Nat} {lives:Nat→Prop} {i v:Nat}
theorem PS.enter (h:PS n A B inn out c d gone q lives i) (hv:q[i]?=some v):Mid n A B inn out c d gone q lives i v∧c v=0∧d v=0∧v<n :=
 ⟨⟨h.peel,h.pos,hv,h.done,fun j x hj hx=>h.rest j x (by omega) hx⟩,(h.rest i v (Nat.le_refl _) hv).1,(h.rest i v (Nat.le_refl _) hv).2,h.peel.low v (List.mem_of_getElem? hv)⟩
theorem Mid.leave (h:Mid n A B inn out c d gone q lives i v) (hc:c v=(A v).length) (hd:d v=(B v).length):PS n A B inn out c d gone q lives (i+1):=by
 refine ⟨h.peel,h.pos,fun j x hj hx=>?_,fun j x hj hx=>h.rest j x (by omega) hx⟩
 by_cases e:j=i
 ·subst e
  rw [h.cur] at hx; cases hx
  exact ⟨hc,hd⟩
 ·exact h.done j x (by omega) hx
theorem Mid.step (h:Mid n A B inn out c d gone q lives i v) (hL:LiveSet n A B lives) {k t:Nat} (hk:c v=k) (ht:(A v)[k]?=some t) (htn:t<n) :
 0<inn t∧(inn t=1→gone t=false→Mid n A B (updN inn t (inn t-1)) out (updN c v (k+1)) d (updN gone t true) (q++[t]) lives i v) ∧
 ((inn t=1→gone t=true)→Mid n A B (updN inn t (inn t-1)) out (updN c v (k+1)) d gone q lives i v):=by
 have hvq:=List.mem_of_getElem? h.cur
 obtain ⟨h0,hp⟩:=h.peel.arrow1 hvq hk ht htn
 have hne:∀ j x,j≠i→q[j]?=some x→x≠v:=fun j x hj hx e=>hj (get_inj h.peel.nodup (by rw [hx,e]) h.cur)
 have hdone:∀ j x,j<i→q[j]?=some x→updN c v (k+1) x=(A x).length∧d x=(B x).length:=fun j x hj hx=>by
  rw [updN_other _ _ _ (hne j x (by omega) hx)]; exact h.done j x hj hx
 have hrest:∀ j x,i<j→q[j]?=some x→updN c v (k+1) x=0∧d x=0:=fun j x hj hx=>by
  rw [updN_other _ _ _ (hne j x (by omega) hx)]; exact h.rest j x hj hx
 refine ⟨h0,fun h1 hg=>?_,fun h1=>?_⟩
 ·have htq:t∉q:=fun hm=>by have:=(h.peel.goneq t).2 hm; rw [hg] at this; cases this
  have htv:t≠v:=fun e=>htq (by rw [e]; exact hvq)
  have hil:=get_of h.cur
  have hga:∀ j x,(q++[t])[j]?=some x→q[j]?=some x∨j=q.length∧x=t:=fun j x hx=>by
   by_cases e:j<q.length
   ·rw [List.getElem?_append_left e] at hx; exact .inl hx
   ·rw [List.getElem?_append_right (by omega)] at hx
    by_cases e2:j=q.length
    ·rw [e2] at hx; simp at hx; exact .inr ⟨e2,hx.symm⟩
    ·rw [List.getElem?_eq_none (by simp; omega)] at hx; cases hx
  refine ⟨hp.goes hL htn hg (.inl (by rw [updN_same]; omega)),fun x hx hgx=>?_,by rw [List.getElem?_append_left hil]; exact h.cur,fun j x hj hx=>?_,fun j x hj hx=>?_⟩
  ·by_cases e:x=t
   ·subst e; rw [updN_same] at hgx; cases hgx
   ·rw [updN_other _ _ _ e] at hgx ⊢; exact h.pos x hx hgx
  ·rcases hga j x hx with hx | ⟨hj2,_⟩
   ·exact hdone j x hj hx
   ·omega
  ·rcases hga j x hx with hx | ⟨_,rfl⟩
   ·exact hrest j x hj hx
   ·rw [updN_other _ _ _ htv]; exact h.peel.fresh x htq
 ·refine ⟨hp,fun x hx hgx=>?_,h.cur,hdone,hrest⟩
  by_cases e:x=t
  ·subst e
   rw [updN_same]
   have:=(h.pos x hx hgx).2
   have:inn x≠1:=fun e=>by have:=h1 e; rw [hgx] at this; cases this
   omega
  ·rw [updN_other _ _ _ e]; exact h.pos x hx hgx
end
structure PStart (n:Nat) (A B:Nat→List Nat) (gone:Nat→Bool) (q:List Nat) (lives:Nat→Prop) (k:Nat):Prop where
 peel:Peel n A B (fun t=>(B t).length) (fun t=>(A t).length) (fun _=>0) (fun _=>0) gone q lives
 pos:∀ t,t<k→gone t=false→0<(B t).length∧0<(A t).length
 below:∀ x∈q,x<k
section
variable {n:Nat} {A B:Nat→List Nat} {gone:Nat→Bool} {q:List Nat} {lives:Nat→Prop} {k:Nat}
theorem PStart.zero (hA:∀ t,t<n→∀ x∈A t,x<n) (hB:∀ t,t<n→∀ x∈B t,x<n) (hc:∀ t v,t<n→v<n→(B t).count v=(A v).count t):PStart n A B (fun _=>false) [] lives 0 :=
 ⟨⟨Deg.init hB (fun v t hv ht=>hc t v ht hv),Deg.init hA (fun v t hv ht=>(hc v t hv ht).symm),by simp,fun x=>by simp,fun x hx=>by simp at hx,fun _ _=>⟨rfl,rfl⟩,fun _ _ _=>rfl⟩,fun t ht=>by omega,fun x hx=>by simp at hx⟩
theorem PStart.take (h:PStart n A B gone q lives k) (hL:LiveSet n A B lives) (hk:k<n) (h0:(A k).length=0∨(B k).length=0):PStart n A B (updN gone k true) (q++[k]) lives (k+1):=by
 have hg:gone k=false:=by
  cases hgk:gone k with
  | false=>rfl
  | true=>have:=h.below k ((h.peel.goneq k).1 hgk); omega
 refine ⟨h.peel.goes hL hk hg h0.symm,fun t ht hgt=>?_,fun x hx=>?_⟩
 ·by_cases e:t=k
  ·subst e; rw [updN_same] at hgt; cases hgt
  ·rw [updN_other _ _ _ e] at hgt; exact h.pos t (by omega) hgt
 ·rcases List.mem_append.1 hx with hx | hx
  ·have:=h.below x hx; omega
  ·cases List.mem_singleton.1 hx; omega
theorem PStart.skip (h:PStart n A B gone q lives k) (hA:(A k).length≠0) (hB:(B k).length≠0):PStart n A B gone q lives (k+1):=by
 refine ⟨h.peel,fun t ht hgt=>?_,fun x hx=>by have:=h.below x hx; omega⟩
 by_cases e:t=k
 ·subst e; omega
 ·exact h.pos t (by omega) hgt
theorem PStart.all (h:PStart n A B gone q lives n):PS n A B (fun t=>(B t).length) (fun t=>(A t).length) (fun _=>0) (fun _=>0) gone q lives 0 :=
 ⟨h.peel,h.pos,fun j x hj=>by omega,fun _ _ _ _=>⟨rfl,rfl⟩⟩
end
open Go.RowKit
set_option maxRecDepth 100000
structure LvN (f:Names) (ov iv gv qv:Value) (n:Nat) (out inn:Nat→Nat) (gone:Nat→Bool) (q:List Nat):Prop where
 outs:f (1,0)=some (rowI ov (tab n out))
 inns:f (2,0)=some (rowI iv (tab n inn))
 gones:f (3,0)=some (rowV 4 gv (tabB n gone))
 queue:f (4,0)=some (rowI qv (castI q))
section
variable {B:Nat} {w:World} {f:Names} {ov iv gv qv:Value} {n:Nat} {out inn:Nat→Nat} {gone:Nat→Bool} {q:List Nat}
theorem LvN.mark (h:LvN f ov iv gv qv n out inn gone q) (hr:Rows B w f) (t:Nat) (ht:t<n):∃ f',Rows B (w.setCell (valAt gv t) (.bool true)) f'∧LvN f' ov iv gv qv n out inn (updN gone t true) q:=by
 have hs:=hr.setV h.gones t (by rw [tabB_len]; exact ht) (.bool true)
 rw [tabB_upd] at hs
 exact ⟨_,hs,⟨by rw [upd_ne _ _ (by simp)]; exact h.outs,by rw [upd_ne _ _ (by simp)]; exact h.inns,upd_same _ _ _,by rw [upd_ne _ _ (by simp)]; exact h.queue⟩⟩
theorem LvN.push (h:LvN f ov iv gv qv n out inn gone q) (hr:Rows B w f) {w1:World} {qv':Value} (t:Nat) (ho:OwnI B w1 qv' (castI q++[(t:Int)]))
 (hal:(roomOf qv'=roomOf qv∧w.grownBy w1 qv.ownBlock)∨(∃ k,qv'.ownBlock=some k∧w.heap.size≤k∧w.grownBy w1 none)):∃ f',Rows B w1 f'∧LvN f' ov iv gv qv' n out inn gone (q++[t]) :=
 ⟨_,row_push hr h.queue t ho hal,⟨by rw [upd_ne _ _ (by simp)]; exact h.outs,by rw [upd_ne _ _ (by simp)]; exact h.inns,by rw [upd_ne _ _ (by simp)]; exact h.gones,upd_same _ _ _⟩⟩
end
theorem tabB_none (n:Nat):tabB n (fun _=>false)=List.replicate n (.bool false):=by
 unfold tabB; apply List.ext_getElem<;>simp
theorem Box3.keep {B:Nat} {w w':World} {b:Nat} {x0 x1 x2:Value} (h:Box3 w b x0 x1 x2) (hb:Below B w w') (hlt:b<B):Box3 w' b x0 x1 x2:=h.belowB hb hlt
set_option maxHeartbeats 8000000
theorem indexFunc2_any (v b c:Value) (F:Nat) (xs:List Int) (p:Int→Bool) (w:World) (h:IntsAt w v xs)
 (eg:∀ args w,(callFunc F args).run Tryz.prog w=.ok (.enter F args) w)
 (hF:∀ x:Int,x∈xs→∀ n,Calls Tryz.prog F #[.int .i64 x,b,c] (w.drewN n) (RetB (p x) (w.drewN n))) :
 Calls Tryz.prog 293 #[v,.func (.func F) #[] #[b,c]] w fun e w'=>∃ n,e=.returned (.int .i64 (idxOf p xs))∧w'=w.drewN n:=by
 have hlen:=h.len
 have hm:=h.len_le
 replace hF:=Hd hF
 go_enter Tryz.func293,Tryz.ntmps293
 go_wp2
 go_loopw [8] (fun i wr=>(∃ k:Nat,k≤xs.length∧i=.int .i64 k∧∀ j (hj:j<xs.length),j<k→p xs[j]=false)∧∃ n,wr=w.drewN n) (fun i _=>xs.length-(intOf i).toNat)
 case atStart=>exact ⟨⟨0,by omega,rfl,by intro t _ h; omega⟩,0,rfl⟩
 case round =>
  obtain ⟨⟨k,hk,rfl,hp⟩,n,rfl⟩:=hrel
  replace hp:=Hd hp
  by_cases hlt:k<xs.length
  ·have hi:=h.idx k hlt
   have hc:(w.drewN n).cell? (valAt v k)=some (.int .i64 xs[k]):=h.cell k hlt
   have hf:=Hd (hF.out xs[k] (by simp) n)
   go_wp2_with fail
   refine hf.out.mono ?_
   rintro e w' ⟨n2,rfl,rfl⟩
   cases hpk:p xs[k]
   ·have HP:=Hd hpk
    go_wp2
    go_roundw
    case rel =>
     refine ⟨⟨k+1,by omega,by go_num,?_⟩,_,rfl⟩
     intro j hj hjk
     by_cases e:j=k
     ·subst e; exact HP.out
     ·exact hp.out j hj (by omega)
    case measure=>simp [intOf]; omega
   ·have HP:=Hd hpk
    go_wp2
    go_ret
    exact ⟨_,ret_int (idxOf_at k hlt HP.out fun j hj h=>hp.out j hj h).symm,rfl⟩
  ·go_wp2
   go_ret
   refine ⟨n,ret_int (idxOf_neg fun x hx=>?_).symm,rfl⟩
   obtain ⟨j,hj,rfl⟩:=List.mem_iff_getElem.1 hx
   exact hp.out j hj (by omega)
theorem idxOf_any (p:Int→Bool) (xs:List Int):(0≤idxOf p xs)↔∃ x∈xs,p x=true:=by
 rcases idxOf_cases p xs with ⟨h1,h2⟩ | ⟨k,h1,h2,h3,_⟩
 ·rw [h1]
  exact ⟨fun h=>by omega,fun ⟨x,hx,hp⟩=>by rw [h2 x hx] at hp; cases hp⟩
 ·rw [h1]
  exact ⟨fun _=>⟨_,List.getElem_mem h2,h3⟩,fun _=>by omega⟩
theorem containsFunc2_any (v b c:Value) (F:Nat) (xs:List Int) (p:Int→Bool) (w:World) (h:IntsAt w v xs)
 (eg:∀ args w,(callFunc F args).run Tryz.prog w=.ok (.enter F args) w)
 (hF:∀ x:Int,x∈xs→∀ n,Calls Tryz.prog F #[.int .i64 x,b,c] (w.drewN n) (RetB (p x) (w.drewN n))) :
 Calls Tryz.prog 278 #[v,.func (.func F) #[] #[b,c]] w (RetB (decide (0≤idxOf p xs)) w):=by
 have hI:=indexFunc2_any v b c F xs p w h eg hF
 clear hF eg
 go_enter Tryz.func278,Tryz.ntmps278
 go_wp2_with fail
 refine hI.mono ?_
 rintro e w' ⟨n,rfl,rfl⟩
 go_wp2
 go_ret
 exact ⟨n,ret_bool (by simp),rfl⟩
theorem loops1_any (t v bp bv:Nat) (pv:Value) (ps:List Int) (w:World) (hp:IntsAt w pv ps) (c1:w.cell? ⟨bp,0,none⟩=some pv) (c2:w.cell? ⟨bv,0,none⟩=some (.int .i64 v)) (ht:t<ps.length) (hv:v<ps.length) :
 Calls Tryz.prog 340 #[.int .i64 t,.pointer (some ⟨bp,0,none⟩),.pointer (some ⟨bv,0,none⟩)] w (RetB (decide (ps.getD t 0=ps.getD v 0)) w):=by
 have iT:=fun w'=>hp.idx t ht w'
 have cT:=hp.cellD t ht
 have iV:=fun w'=>hp.idx v hv w'
 have cV:=hp.cellD v hv
 generalize ps.getD t 0=a at *
 generalize ps.getD v 0=b at *
 have heq:(a==b)=decide (a=b):=by by_cases e:a=b<;>simp [e]
 generalize valAt pv t=ta at *
 generalize valAt pv v=va at *
 replace hp:=Hd hp
 replace heq:=Hd heq
 generalize hd:decide (a=b)=d at *
 go_enter Tryz.func340,Tryz.ntmps340
 go_upto_region 1 with fail
 refine wp_region_plan (fun w'=>w'.cell? ⟨bp,0,none⟩=some pv∧w'.cell? ⟨bv,0,none⟩=some (.int .i64 v)∧w'.cell? ta=some (.int .i64 a)∧w'.cell? va=some (.int .i64 b)) 9 [(0,true),(1,true),(2,true),(3,true),(4,true),(5,true),(6,true),(7,true),(8,true)] (by kernel_rfl) (by kernel_rfl) ?_
 have hS:w.drew.cell? ⟨bp,0,none⟩=some pv∧w.drew.cell? ⟨bv,0,none⟩=some (.int .i64 v)∧w.drew.cell? ta=some (.int .i64 a)∧w.drew.cell? va=some (.int .i64 b):=⟨c1,c2,cT,cV⟩
 refine pqY 5 hS ?_
 refine pqY 6 hS ?_
 refine pqY 7 hS ?_
 refine pqY 8 hS ?_
 refine pqY 9 hS ?_
 refine pqY 10 hS ?_
 refine pqY 11 hS ?_
 refine pqY 12 hS ?_
 refine pqY 13 hS ?_
 refine head0 ?_
 simp only [List.drop_succ_cons,List.drop_zero]
 clear hS
 go_wp2
 refine NoPanic.normal ?_
 go_wp2
 go_ret
 exact ⟨1,ret_bool heq.out,rfl⟩
theorem eg_loops1 (args:Array Value) (w:World):(callFunc 340 args).run Tryz.prog w=.ok (.enter 340 args) w:=by kernel_rfl
theorem loops14_any (r:Nat→Addr) (na:Option Addr) (nc:Nat) (G:List (List Int)) (w:World) (hg:Glob r w) (h:ListsAt w (.slice na G.length nc) G) (hsz:∀ k,k<G.length→(G.getD k []).length≤17592186044416) (hck:checkG G=none) (hok:GraphOk G) (hn:G.length≤8200) :
 Calls Tryz.prog 270 #[.slice na G.length nc] w (Ret2 (fun x y w'=>y=.nilIface∧∃ on:Nat→Bool,OwnV 4 w.heap.size w' x (tabB G.length on)∧∀ v,v<G.length→(on v=true↔OnLoop (adjOf G) v)) w):=by
 have hP:=parts_any r na nc G w hg h hsz
 have hlg:=h.len 3 w
 replace h:=Hd h
 replace hok:=Hd hok
 replace hck:=Hd hck
 go_enter Tryz.func270,Tryz.ntmps270
 go_wp2_with fail
 refine hP.mono ?_
 rintro e w1 ⟨pv,y,rfl,b1,hE,hps,-⟩
 rw [hck.out] at hE
 obtain rfl:=hE.none_eq
 obtain ⟨ps,hpo,ho⟩:=hps hck.out
 have hpl:=hpo.len
 obtain ⟨pa,pn,pc,rfl⟩:=ho.at.shape
 have b1a:=belowAlloc w1 (.cells #[.slice pa pn pc] 30)
 obtain ⟨W1,hW1⟩:∃ W1:World,W1=w1.alloc (.cells #[.slice pa pn pc] 30):=⟨_,rfl⟩
 have R1:=(Rows.void w.heap.size w).add (i:=(2,0)) (r':=rowI (.slice pa pn pc) ps) b1 ho (fun k hk=>(ho.lt k hk).1)
 have hbx:OwnV 30 w1.heap.size (w1.alloc (.cells #[.slice pa pn pc] 30)) (.slice (some ⟨w1.heap.size,0,none⟩) 1 1) [.slice pa pn pc] :=
  World.ownsRow_lit (base:=w1.heap.size) (e:=30) (size:=1) w1 #[.slice pa pn pc] 1 (Nat.le_refl _) (by decide) rfl
 have R2:=R1.add (i:=(3,0)) (r':=rowV 30 (.slice (some ⟨w1.heap.size,0,none⟩) 1 1) [.slice pa pn pc]) b1a (hbx.mono b1.size) (fun k hk=>by cases hk; exact Nat.le_refl _)
 rw [← hW1] at R2 b1a
 have bW1:=Below.step b1 b1a
 obtain ⟨ov,w2,mk,hin,hb2⟩:=run_makeW oneBoolG (G.length:Int) G.length W1 rfl (by omega)
 obtain ⟨oa,on',oc,rfl⟩:=hin.shape
 rw [← tabB_none] at hin
 have R3:=R2.add (i:=(1,0)) (r':=rowV 4 (.slice oa on' oc) (tabB G.length fun _=>false)) hb2 (hin.mono bW1.size) (fun k hk=>(hin.lt k hk).1)
 have bW2:=Below.step bW1 hb2
 have hf1:upd (upd (upd (fun _=>Option.none) (2,0) (some (rowI (.slice pa pn pc) ps))) (3,0) (some (rowV 30 (.slice (some ⟨w1.heap.size,0,none⟩) 1 1) [.slice pa pn pc]))) (1,0) (some (rowV 4 (.slice oa on' oc) (tabB G.length fun _=>false))) (2,0)=some (rowI (.slice pa pn pc) ps):=by rw [upd_ne _ _ (by simp),upd_ne _ _ (by simp),upd_same]
 have hf2:upd (upd (upd (fun _=>Option.none) (2,0) (some (rowI (.slice pa pn pc) ps))) (3,0) (some (rowV 30 (.slice (some ⟨w1.heap.size,0,none⟩) 1 1) [.slice pa pn pc]))) (1,0) (some (rowV 4 (.slice oa on' oc) (tabB G.length fun _=>false))) (3,0)=some (rowV 30 (.slice (some ⟨w1.heap.size,0,none⟩) 1 1) [.slice pa pn pc]):=by rw [upd_ne _ _ (by simp),upd_same]
 have hf3:upd (upd (upd (fun _=>Option.none) (2,0) (some (rowI (.slice pa pn pc) ps))) (3,0) (some (rowV 30 (.slice (some ⟨w1.heap.size,0,none⟩) 1 1) [.slice pa pn pc]))) (1,0) (some (rowV 4 (.slice oa on' oc) (tabB G.length fun _=>false))) (1,0)=some (rowV 4 (.slice oa on' oc) (tabB G.length fun _=>false)):=by rw [upd_same]
 generalize upd (upd (upd (fun _=>Option.none) (2,0) (some (rowI (.slice pa pn pc) ps))) (3,0) (some (rowV 30 (.slice (some ⟨w1.heap.size,0,none⟩) 1 1) [.slice pa pn pc]))) (1,0) (some (rowV 4 (.slice oa on' oc) (tabB G.length fun _=>false)))=f1 at *
 replace hf1:=Hd hf1
 replace hf2:=Hd hf2
 replace hf3:=Hd hf3
 replace R3:=Hd R3
 replace hpo:=Hd hpo
 replace hpl:=Hd hpl
 clear hE hps ho R1 R2 hbx hin hP
 go_upto_region 4 with fail
 rw [← hW1]
 replace hW1:=Hd hW1
 go_wp2_with fail
 clear mk
 go_loopw [22] (fun kv wr=>∃ (k:Nat) (F:Nat→Bool) (f:Names),k≤G.length∧kv=.int .i64 k∧Rows w.heap.size wr f∧Below w.heap.size w wr∧f (2,0)=some (rowI (.slice pa pn pc) ps)∧f (3,0)=some (rowV 30 (.slice (some ⟨w1.heap.size,0,none⟩) 1 1) [.slice pa pn pc])∧f (1,0)=some (rowV 4 (.slice oa on' oc) (tabB G.length F))∧∀ x,x<k→(F x=true↔OnLoop (adjOf G) x)) (fun kv _=>G.length-(intOf kv).toNat)
 case atStart=>exact ⟨0,_,f1,Nat.zero_le _,rfl,R3.out,bW2,hf1.out,hf2.out,hf3.out,fun x hx=>by omega⟩
 case round =>
  clear R3 hf1 hf2 hf3
  obtain ⟨k,F,f2,hk,rfl,hR,hB,g2,g3,g1,hF⟩:=hrel
  obtain ⟨wo,rfl⟩:∃ wo:World,wo=wr:=⟨_,rfl⟩
  by_cases hlt:k<G.length
  ·obtain ⟨mv,iR,cR0,hM0⟩:=h.out.row k hlt
   have cR:=(hB.cell (World.block_lt_of_cell? _ _ cR0)).trans cR0
   have hM:=hM0.below hB
   have hgp:=hok.out k hlt
   have hon:=onLoop_parts hok.out hpo.out hlt
   have hadj:adjOf G k=(G.getD k []).map Int.toNat:=rfl
   rw [hadj] at hon
   generalize G.getD k []=gx at *
   generalize valAt (.slice na G.length nc) k=ra at *
   obtain ⟨ma,mn,mc,rfl⟩:=hM.shape
   have ba:=belowAlloc wo (.cells #[.int .i64 (k:Int)] 3)
   have cV:(wo.alloc (.cells #[.int .i64 (k:Int)] 3)).cell? ⟨wo.heap.size,0,none⟩=some (.int .i64 k):=by simp [go_sem]
   obtain ⟨W,hW⟩:∃ W:World,W=(wo.alloc (.cells #[.int .i64 (k:Int)] 3)).drew:=⟨_,rfl⟩
   have bW:Below wo.heap.size wo W:=by rw [hW]; exact ba.drew
   have cVW:W.cell? ⟨wo.heap.size,0,none⟩=some (.int .i64 k):=by rw [hW]; exact cV
   have hRW:=hR.below bW
   have hpW:=(hRW.ownI g2).at
   have hMW:=hM.below bW
   have cP:W.cell? ⟨w1.heap.size,0,none⟩=some (.slice pa pn pc):=by
    have:=hRW.cell g3 (g:=w1.heap.size) (cap:=1) rfl 0 (by simp)
    simpa using this
   have hcl:∀ x:Int,x∈gx→∀ n,Calls Tryz.prog 340 #[.int .i64 x,.pointer (some ⟨w1.heap.size,0,none⟩),.pointer (some ⟨wo.heap.size,0,none⟩)] (W.drewN n) (RetB (decide (ps.getD x.toNat 0=ps.getD k 0)) (W.drewN n)):=fun x hx n=>by
    obtain ⟨p1,p2⟩:=hgp x hx
    obtain ⟨t,rfl⟩:∃ t:Nat,x=t:=Int.eq_ofNat_of_zero_le p1
    rw [Int.toNat_natCast]
    exact loops1_any t k w1.heap.size wo.heap.size (.slice pa pn pc) ps (W.drewN n) (hpW.drewN n) cP cVW (by rw [hpl.out]; omega) (by rw [hpl.out]; exact hlt)
   have hcf:=containsFunc2_any (.slice ma mn mc) (.pointer (some ⟨w1.heap.size,0,none⟩)) (.pointer (some ⟨wo.heap.size,0,none⟩)) 340 gx (fun x=>decide (ps.getD x.toNat 0=ps.getD k 0)) W hMW eg_loops1 hcl
   obtain ⟨bb,hbb⟩:∃ bb,decide (0≤idxOf (fun x=>decide (ps.getD x.toNat 0=ps.getD k 0)) gx)=bb:=⟨_,rfl⟩
   rw [hbb] at hcf
   have hF2:∀ x,x<k+1→(updN F k bb x=true↔OnLoop (adjOf G) x):=fun x hx=>by
    by_cases e:x=k
    ·subst e
     rw [updN_same,hon,← hbb,decide_eq_true_iff,idxOf_any]
     constructor
     ·rintro ⟨z,hz,hzp⟩
      exact ⟨z.toNat,List.mem_map.2 ⟨z,hz,rfl⟩,of_decide_eq_true hzp⟩
     ·rintro ⟨t,ht,htp⟩
      obtain ⟨z,hz,rfl⟩:=List.mem_map.1 ht
      exact ⟨z,hz,decide_eq_true htp⟩
    ·rw [updN_other _ _ _ e]; exact hF x (by omega)
   have hOV0:=hRW.ownV g1
   have iO:=fun w'=>hOV0.at.idx oneBoolG k (by rw [tabB_len]; exact hlt) w'
   replace hbb:=Hd hbb
   replace hF2:=Hd hF2
   replace hF:=Hd hF
   replace hcf:=Hd hcf
   replace hcl:=Hd hcl
   replace hon:=Hd hon
   replace hgp:=Hd hgp
   replace hadj:=Hd hadj
   replace hR:=Hd hR
   replace hRW:=Hd hRW
   replace hOV0:=Hd hOV0
   replace hM:=Hd hM
   replace hM0:=Hd hM0
   replace hMW:=Hd hMW
   replace hpW:=Hd hpW
   replace g1:=Hd g1
   replace g2:=Hd g2
   replace g3:=Hd g3
   clear cR0 cP
   go_upto_region 8 with fail
   refine wp_region_plan (fun w'=>w'.cell? ⟨wo.heap.size,0,none⟩=some (.int .i64 k)) 6 [(0,true),(1,true),(2,true),(3,true),(4,false),(5,true)] (by kernel_rfl) (by kernel_rfl) ?_
   rw [← hW]
   replace hW:=Hd hW
   have hS:W.cell? ⟨wo.heap.size,0,none⟩=some (.int .i64 k):=cVW
   refine pqY 27 hS ?_
   refine pqY 28 hS ?_
   refine pqY 29 hS ?_
   refine pqY 30 hS ?_
   refine headC rfl (fun KK hK=>?_)
   go_simp
   refine hcf.out.mono ?_
   rintro e w5 h5
   obtain ⟨n5,rfl,rfl⟩:=h5
   have hS5:(W.drewN n5).cell? ⟨wo.heap.size,0,none⟩=some (.int .i64 k):=cVW
   refine hK _ _ hS5 ?_
   clear hK KK
   refine pqY 32 hS5 ?_
   refine head0 ?_
   simp only [List.drop_succ_cons,List.drop_zero]
   clear hS hS5
   have b5:Below wo.heap.size wo (W.drewN n5):=below_drewN bW n5
   have hR5:=hRW.out.drewN n5
   have hOV:=hR5.ownV g1.out
   have cT:=hOV.at.cellV k (by rw [tabB_len]; exact hlt)
   rw [tabB_get _ _ _ hlt] at cT
   have fT:=hOV.frz k (by rw [tabB_len]; exact hlt)
   have kT:=(hOV.blkB k (by rw [tabB_len]; exact hlt)).2
   have hR6:=hR5.setV g1.out k (by rw [tabB_len]; exact hlt) (.bool bb)
   rw [tabB_upd] at hR6
   have b6:Below w.heap.size w ((W.drewN n5).setCell (valAt (.slice oa on' oc) k) (.bool bb)):=(hB.trans (b5.mono hB.size)).setCell kT _
   generalize valAt (.slice oa on' oc) k=ta at *
   replace hR5:=Hd hR5
   replace hR6:=Hd hR6
   replace hOV:=Hd hOV
   clear iO
   go_wp2
   refine NoPanic.normal ?_
   go_wp2
   go_roundw
   case measure=>simp [intOf]; omega
   case rel=>exact ⟨k+1,_,_,by omega,by go_num,hR6.out,b6,by rw [upd_ne _ _ (by simp)]; exact g2.out,by rw [upd_ne _ _ (by simp)]; exact g3.out,by rw [upd_same],hF2.out⟩
  ·obtain rfl:k=G.length:=by omega
   have hres:=hR.ownV g1
   replace hres:=Hd hres
   replace hF:=Hd hF
   replace hR:=Hd hR
   replace g1:=Hd g1
   replace g2:=Hd g2
   replace g3:=Hd g3
   go_wp2
   go_ret2
   exact ⟨_,_,rfl,hB,rfl,F,hres.out,hF.out⟩
end Go.Proofs.YtindfaehjoileaaGreatDoor
namespace Go.Proofs.YtindfaehjoileaaGreatDoor
def extQ (q:List Nat) (l:List Nat):List Nat:=l.foldl (fun q t=>if t∈q then q else q++[t]) q
theorem extQ_nil (q:List Nat):extQ q []=q:=rfl
theorem extQ_snoc (q l:List Nat) (t:Nat):extQ q (l++[t])=if t∈extQ q l then extQ q l else extQ q l++[t]:=by
 unfold extQ; rw [List.foldl_append]; rfl
def runQ (adj:Nat→List Nat) (v:Nat):Nat→List Nat
 | 0=>[v]
 | i+1=>match (runQ adj v i)[i]? with
  | some u=>extQ (runQ adj v i) (adj u)
  | none=>runQ adj v i
theorem runQ_succ {adj:Nat→List Nat} {v i u:Nat} (h:(runQ adj v i)[i]?=some u):runQ adj v (i+1)=extQ (runQ adj v i) (adj u):=by
 rw [runQ,h]
def NearIs (adj:Nat→List Nat) (P:Nat→Prop) (v u:Nat):Prop:=∃ i,(runQ adj v i)[i]?=some u∧P u∧∀ j,j<i→∀ x,(runQ adj v j)[j]?=some x→¬ P x
theorem NearIs.unique {adj:Nat→List Nat} {P:Nat→Prop} {v u w:Nat} (h:NearIs adj P v u) (k:NearIs adj P v w):u=w:=by
 obtain ⟨i,h1,h2,h3⟩:=h
 obtain ⟨j,k1,k2,k3⟩:=k
 rcases Nat.lt_trichotomy i j with e | e | e
 ·exact absurd h2 (k3 i e u h1)
 ·subst e; rw [h1] at k1; exact Option.some.inj k1
 ·exact absurd k2 (h3 j e w k1)
def NRun (adj:Nat→List Nat) (P:Nat→Prop) (v:Nat) (q:List Nat) (i:Nat):Prop:=q=runQ adj v i∧∀ j,j<i→∀ x,(runQ adj v j)[j]?=some x→¬ P x
def NRunIn (adj:Nat→List Nat) (P:Nat→Prop) (v:Nat) (q:List Nat) (i u j:Nat):Prop:=q=extQ (runQ adj v i) ((adj u).take j)∧(runQ adj v i)[i]?=some u∧¬ P u∧∀ j,j<i→∀ x,(runQ adj v j)[j]?=some x→¬ P x
theorem NRun.start (adj:Nat→List Nat) (P:Nat→Prop) (v:Nat):NRun adj P v [v] 0:=⟨rfl,fun _ h=>absurd h (Nat.not_lt_zero _)⟩
theorem NRun.hit {adj:Nat→List Nat} {P:Nat→Prop} {v:Nat} {q:List Nat} {i u:Nat} (h:NRun adj P v q i) (hu:q[i]?=some u) (hp:P u):NearIs adj P v u:=⟨i,by rw [← h.1]; exact hu,hp,h.2⟩
theorem NRun.enter {adj:Nat→List Nat} {P:Nat→Prop} {v:Nat} {q:List Nat} {i u:Nat} (h:NRun adj P v q i) (hu:q[i]?=some u) (hp:¬ P u):NRunIn adj P v q i u 0:=⟨by rw [List.take_zero,extQ_nil]; exact h.1,by rw [← h.1]; exact hu,hp,h.2⟩
theorem NRunIn.push {adj:Nat→List Nat} {P:Nat→Prop} {v:Nat} {q:List Nat} {i u j t:Nat} (h:NRunIn adj P v q i u j) (ht:(adj u)[j]?=some t) (hq:t∉q):NRunIn adj P v (q++[t]) i u (j+1):=by
 refine ⟨?_,h.2⟩
 rw [List.take_add_one,ht,Option.toList_some,extQ_snoc,← h.1,if_neg hq]
theorem NRunIn.old {adj:Nat→List Nat} {P:Nat→Prop} {v:Nat} {q:List Nat} {i u j t:Nat} (h:NRunIn adj P v q i u j) (ht:(adj u)[j]?=some t) (hq:t∈q):NRunIn adj P v q i u (j+1):=by
 refine ⟨?_,h.2⟩
 rw [List.take_add_one,ht,Option.toList_some,extQ_snoc,← h.1,if_pos hq]
theorem NRunIn.leave {adj:Nat→List Nat} {P:Nat→Prop} {v:Nat} {q:List Nat} {i u:Nat} (h:NRunIn adj P v q i u (adj u).length):NRun adj P v q (i+1):=by
 refine ⟨?_,fun j hj x hx=>?_⟩
 ·rw [runQ_succ h.2.1,h.1,List.take_length]
 ·by_cases e:j=i
  ·subst e
   rw [h.2.1] at hx
   obtain rfl:=Option.some.inj hx
   exact h.2.2.1
  ·exact h.2.2.2 j (by omega) x hx
end Go.Proofs.YtindfaehjoileaaGreatDoor
