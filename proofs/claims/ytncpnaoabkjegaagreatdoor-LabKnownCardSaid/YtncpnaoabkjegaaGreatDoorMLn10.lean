/-
  Texts that the proof leans on.
-/
import Derived.Test.YtncpnaoabkjegaaGreatDoorMLn9
import Derived.Deep.DeepCutAuto
import Derived.BigQuiet
import Derived.Deep.RegionWith
import Derived.Deep.CutBlock
namespace Go.Proofs.YtncpnaoabkjegaaGreatDoor
open Go.RowKit
set_option maxRecDepth 100000
set_option maxHeartbeats 8000000
theorem tnodes_any (N:Nat) (w:World) (hN1:1≤N) (hN:N≤81) :
 Calls Tryz.prog 115 #[.int .i64 ((N*N:Nat):Int)] w fun e w'=>e=.returned (.int .i64 N)∧w=w':=by
 have hM6:N*N≤6561:=Nat.mul_le_mul hN hN
 obtain ⟨M,hM⟩:∃ M,N*N=M:=⟨_,rfl⟩
 rw [hM] at hM6 ⊢
 replace hM:=Hd hM
 go_enter Tryz.func115,Tryz.ntmps115
 go_wp2_with fail
 go_loop [3] (fun nv=>∃ k:Nat,k≤N∧nv=.int .i64 k) (fun nv=>N-(intOf nv).toNat)
 case atStart=>exact ⟨1,hN1,rfl⟩
 case round =>
  obtain ⟨k,hk,rfl⟩:=hrel
  obtain ⟨kk,hkk⟩:∃ z,k*k=z:=⟨_,rfl⟩
  have hkk2:(k:Int)*(k:Int)=(kk:Int):=by rw [← hkk]; simp
  have hkkM:kk≤M:=by rw [← hkk,← hM.out]; exact Nat.mul_le_mul hk hk
  by_cases hlt:kk<M
  ·have hkN:k<N:=Nat.lt_of_le_of_ne hk (fun e=>by have:=hM.out; rw [e] at hkk; omega)
   replace hkk:=Hd hkk
   go_wp2
   go_round
   case measure=>simp [intOf]; omega
   case rel=>exact ⟨k+1,by omega,by go_num⟩
  ·have hkN:k=N:=by
    apply Classical.byContradiction
    intro e
    have h2:k*k<N*N:=Nat.mul_lt_mul_of_lt_of_lt (by omega) (by omega)
    rw [hkk,hM.out] at h2
    omega
   subst hkN
   replace hkk:=Hd hkk
   go_wp2
   go_ret
   exact ⟨rfl,rfl⟩
def sliceN:Value→Nat
 | .slice _ n _=>n
 | _=>0
theorem sliceN_of {w:World} {v:Value} {xs:List Int} (h:IntsAt w v xs):sliceN v=xs.length:=by
 obtain ⟨a,cap,rfl,_⟩:=h; rfl
def MeetPost (w:World) (N:Nat) (adj:Nat→List Nat) (x:Value) (w':World):Prop :=
 (∃ ws,MeetIs N adj ws∧ApartWay N adj ws∧(∀ u,ApartWay N adj u→ws.length≤u.length)∧ws.length≤20000∧OwnI w.heap.size w' x (castI ws))∨(x=.slice none 0 0∧∀ u,¬ ApartWay N adj u)
def diagsTo (N i:Nat):List Nat:=(List.range i).map fun u=>u*N+u
theorem diagsTo_succ (N i:Nat):diagsTo N (i+1)=diagsTo N i++[i*N+i]:=by simp [diagsTo,List.range_succ]
theorem meet_any (K N:Nat) (T:List Int) (ga:Option Addr) (gc:Nat) (w:World) (hk4:K≤4) (hN1:1≤N) (hN81:N≤81) (h:ListsAt w (.slice ga (pairG K N T).length gc) (pairG K N T)) :
 Calls Tryz.prog 52 #[.slice ga (pairG K N T).length gc] w (Ret1 (MeetPost w N (pairL K N T)) w):=by
 have hM6:N*N≤6561:=Nat.mul_le_mul hN81 hN81
 have hnodes:=tnodes_any N w hN1 hN81
 have lg:=h.len 3
 have hrow:=fun (p:Nat) (hp:p<N*N)=>h.row p (by rw [pairG_len]; exact hp)
 have hrow2:∀ p,p<N*N→(pairG K N T).getD p []=castI (pairL K N T p):=fun p hp=>pairG_row hp
 rw [pairG_len] at lg h ⊢
 obtain ⟨M,hM⟩:∃ M,N*N=M:=⟨_,rfl⟩
 have hMe:=hM
 rw [pairG_len] at hrow
 rw [hM] at hnodes hM6 lg h hrow hrow2 ⊢
 have b0:=belowAlloc w (.cells #[.int .i64 (-1)] 3)
 have hI:=(OwnI.lit w.heap.size w (Nat.le_refl _) [-1] (by simp [maxLen]) #[.int .i64 (-1)] rfl 1 rfl).at
 have hRep:=repeat_any _ (-1) M _ hI (by omega)
 replace hRep:=Hd hRep
 replace hI:=Hd hI
 replace hnodes:=Hd hnodes
 replace hM:=Hd hM
 replace hMe:=Hd hMe
 replace h:=Hd h
 replace hrow:=Hd hrow
 replace hrow2:=Hd hrow2
 go_enter Tryz.func52,Tryz.ntmps52
 go_wp2_with fail
 refine hnodes.out.mono ?_
 rintro e w' ⟨rfl,rfl⟩
 go_wp2_with fail
 refine hRep.out.mono ?_
 rintro e w1 ⟨cv,rfl,b1,hcv⟩
 obtain ⟨w0,hw0⟩:∃ w0:World,w0=w.alloc (.cells #[.int .i64 (-1)] 3):=⟨_,rfl⟩
 rw [← hw0] at b0 b1 hcv
 rw [← tabI_neg1] at hcv
 clear hRep hI hw0
 have b01:=Below.step b0 b1
 have R1:=(rowsE w.heap.size w0).add (i:=(1,0)) (r':=rowI cv (tabI M fun _=>-1)) b1 (hcv.mono b0.size) (fun k hk=>(hcv.lt k hk).1)
 have R2:=R1.add (i:=(2,0)) (r':=rowI (.slice none 0 0) []) (Below.refl _ _) (OwnI.nil _ _) (fun k hk=>by cases hk)
 obtain ⟨f0,hf0⟩:∃ f0,f0=upd (upd (fun _=>none) (1,0) (some (rowI cv (tabI M fun _=>-1)))) (2,0) (some (rowI (.slice none 0 0) [])):=⟨_,rfl⟩
 rw [← hf0] at R2
 have hF0:FN f0 cv (.slice none 0 0) M (fun _=>-1) (diagsTo N 0):=⟨by rw [hf0,upd_ne _ _ (by simp),upd_same],by rw [hf0,upd_same]; rfl⟩
 obtain ⟨ca,cn,cc,rfl⟩:=hcv.at.shape
 replace R2:=Hd R2
 replace hF0:=Hd hF0
 replace hcv:=Hd hcv
 clear R1 hf0
 go_wp2_with fail
 go_loopw [5,22] (fun qv iv wr=>∃ (i:Nat) (f:Names) (qw:Value),i≤N∧iv=.int .i64 i∧qw=qv∧Rows w.heap.size wr f∧Below w.heap.size w wr∧FN f (.slice ca cn cc) qw M (fun _=>-1) (diagsTo N i)) (fun _ iv _=>N-(intOf iv).toNat)
 case atStart=>exact ⟨0,f0,_,by omega,rfl,rfl,R2.out,b01,hF0.out⟩
 case round =>
  clear R2 hF0 hcv
  obtain ⟨i,f1,qv,hi,rfl,rfl,hr1,bI,hF⟩:=hrel
  obtain ⟨wo,rfl⟩:∃ wo:World,wo=wr:=⟨_,rfl⟩
  by_cases hil:i<N
  ·obtain ⟨m,hm⟩:∃ z,i*N=z:=⟨_,rfl⟩
   have hm2:(i:Int)*(N:Int)=(m:Int):=by rw [← hm]; simp
   have hml:m≤6561:=by rw [← hm]; exact Nat.le_trans (Nat.mul_le_mul (show i≤81 by omega) hN81) (by decide)
   obtain ⟨z,hz⟩:∃ z,m+i=z:=⟨_,rfl⟩
   have hz2:(m:Int)+(i:Int)=(z:Int):=by omega
   have hwm:IntKind.i64.wrap (m:Int)=m:=wrapK (by omega) (by omega)
   have hwz:IntKind.i64.wrap (z:Int)=z:=wrapK (by omega) (by omega)
   have hds:diagsTo N (i+1)=diagsTo N i++[z]:=by rw [diagsTo_succ,hm,hz]
   have hoQ:=hr1.ownI hF.queue
   have hB:=bI.size
   have hil2:=Hd hil
   have hlq:(castI (diagsTo N i)).length≤81:=by rw [castI_len]; simp [diagsTo]; omega
   replace hr1:=Hd hr1
   replace hF:=Hd hF
   replace hm:=Hd hm
   replace hz:=Hd hz
   replace hds:=Hd hds
   go_wp2_with (at_builtin; refine wpl_app1 rfl _ _ rfl w.heap.size qv _ z hoQ rfl rfl (by omega) hB ?_)
   intro qv' w7 ho7 b7 hal7
   obtain ⟨f8,hr8,h8,_⟩:=hF.out.push hr1.out z ho7 hal7
   obtain ⟨q1,q2,q3,rfl⟩:=ho7.at.shape
   replace hr8:=Hd hr8
   replace ho7:=Hd ho7
   clear hal7 hoQ
   go_wp2
   go_roundw
   case measure=>have:=hil2.out; simp [intOf]; omega
   case rel=>exact ⟨i+1,f8,_,by have:=hil2.out; omega,by go_num,rfl,hr8.out,bI.trans b7,by rw [hds.out]; exact h8⟩
  ·obtain rfl:i=N:=by omega
   have hO0:=MOut.init i (pairL K i T)
   have hC0:=CameOf.init i (pairL K i T)
   have hNz1:¬ (i:Int)=0:=by omega
   have hNz2:((i:Int)==0)=false:=by rw [beq_eq_false_iff_ne]; omega
   have hNz3:¬ i=0:=by omega
   replace hr1:=Hd hr1
   replace hF:=Hd hF
   replace hO0:=Hd hO0
   replace hC0:=Hd hC0
   go_wp2_with fail
   go_loopw [5,7] (fun qv iv wr=>∃ (j:Nat) (f:Names) (qw:Value) (came:Nat→Int) (q:List Nat) (D:Nat→Nat),j≤q.length∧iv=.int .i64 j∧qw=qv∧Rows w.heap.size wr f∧Below w.heap.size w wr∧FN f (.slice ca cn cc) qw M came q∧MOut i (pairL K i T) D q j∧CameOf i (pairL K i T) D q came∧stM i (pairL K i T) j=(came,q)∧∀ z,z<j→NoHit i (pairL K i T) z) (fun _ iv _=>M+1-(intOf iv).toNat)
   case atStart=>exact ⟨0,f1,_,_,_,_,by omega,rfl,rfl,hr1.out,bI,hF.out,hO0.out,hC0.out,rfl,fun z hz=>absurd hz (Nat.not_lt_zero _)⟩
   case round =>
    clear hr1 hF hO0 hC0 bI
    obtain ⟨j,f2,qv,came,q,D,hj,rfl,rfl,hr2,b2,hF2,hO,hC,hst,hnh⟩:=hrel
    obtain ⟨wo,rfl⟩:∃ wo:World,wo=wr:=⟨_,rfl⟩
    have hqlen:q.length≤M:=nodup_len M q hO.nodup (fun x hx=>by rw [← hM.out]; exact hO.low x hx)
    have hOQ:=hr2.ownI hF2.queue
    have lQ:=hOQ.at.len
    rw [castI_len] at lQ
    by_cases hjl:j<q.length
    ·obtain ⟨v,hv⟩:∃ v,q[j]?=some v:=⟨_,List.getElem?_eq_getElem hjl⟩
     have hvM:v<M:=by rw [← hM.out]; exact hO.low v (List.mem_of_getElem? hv)
     have iV:=fun w'=>hOQ.at.idx j (by rw [castI_len]; exact hjl) w'
     have cV:=hOQ.at.cellD j (by rw [castI_len]; exact hjl)
     rw [castI_get hv] at cV
     obtain ⟨mv,iR,cR,hMv⟩:=hrow.out v hvM
     rw [hrow2.out v hvM] at hMv
     have cR2:=(b2.cell (World.block_lt_of_cell? _ _ cR)).trans cR
     have lM:=hMv.len
     rw [castI_len] at lM
     have hadjl:(pairL K i T v).length≤16:=Nat.le_trans (pairL_len K i T v) (Nat.le_trans (Nat.mul_le_mul hk4 hk4) (by decide))
     obtain ⟨d1,d2,d3,d4,d5,d6⟩:=dm v i (by omega)
     obtain ⟨u1,hu1⟩:∃ z,v/i=z:=⟨_,rfl⟩
     obtain ⟨v1,hv1⟩:∃ z,v%i=z:=⟨_,rfl⟩
     rw [hu1] at d1 d3 d5
     rw [hv1] at d2 d4 d6
     have hvd:Diag i v↔u1=v1:=by unfold Diag; rw [hu1,hv1]
     have hin:=hO.enter hv
     have hjl2:=Hd hjl
     obtain ⟨L,hL⟩:∃ L,pairL K i T v=L:=⟨_,rfl⟩
     rw [hL] at hMv lM hadjl
     have hLlow:∀ t∈L,t<M:=fun t ht=>by
      rw [← hL] at ht
      rw [← hM.out]; exact ((mem_pairL (by omega)).1 ht).lt (by omega)
     generalize valAt qv j=qa at *
     generalize valAt (.slice ga M gc) v=ra at *
     obtain ⟨ap,hap⟩:∃ ap:Bool,ap=((u1:Int) != (v1:Int)):=⟨_,rfl⟩
     have hapd:ap=true↔¬ Diag i v:=by rw [hap,bne_iff_ne,hvd]; omega
     have hap2:((u1:Int) != (v1:Int))=ap:=hap.symm
     have hap3:(u1 != v1)=ap:=by rw [hap]; rw [Bool.eq_iff_iff,bne_iff_ne,bne_iff_ne]; omega
     replace hap:=Hd hap
     replace hu1:=Hd hu1
     replace hv1:=Hd hv1
     replace hvd:=Hd hvd
     replace hL:=Hd hL
     replace hMv:=Hd hMv
     replace hin:=Hd hin
     replace hr2:=Hd hr2
     replace hF2:=Hd hF2
     replace hO:=Hd hO
     replace hC:=Hd hC
     replace hOQ:=Hd hOQ
     replace hv:=Hd hv
     have hstv:(stM i (pairL K i T) j).2[j]?=some v:=by rw [hst]; exact hv.out
     replace hstv:=Hd hstv
     replace hst:=Hd hst
     replace hnh:=Hd hnh
     go_upto_region 13 with fail
     refine wp_region_plan (fun _=>True) 7 [(0,true),(1,true),(2,true),(3,true),(4,true),(5,true),(6,true)] (by kernel_rfl) (by kernel_rfl) ?_
     have hS:True:=trivial
     refine pqY 44 hS ?_
     refine pqY 45 hS ?_
     refine pqY 46 hS ?_
     refine pqY 47 hS ?_
     refine pqY 48 hS ?_
     refine pqY 49 hS ?_
     refine pqY 50 hS ?_
     refine head0 ?_
     simp only [List.drop_succ_cons,List.drop_zero]
     clear hS
     go_wp2
     refine NoPanic.normal ?_
     go_wp2_with fail
     clear cV iV cR2 lQ hap2 hap3
     go_loopw [5,56] (fun qv tv wr=>∃ (k:Nat) (f:Names) (qw:Value) (came:Nat→Int) (q:List Nat) (D:Nat→Nat),k≤L.length∧tv=.int .i64 k∧qw=qv∧Rows w.heap.size wr f∧Below w.heap.size w wr∧FN f (.slice ca cn cc) qw M came q∧j<q.length∧MIn i (pairL K i T) D q j v (L.take k)∧CameOf i (pairL K i T) D q came∧rowM i (pairL K i T) v (stM i (pairL K i T) j) k=(came,q)) (fun _ tv _=>L.length-(intOf tv).toNat)
     case atStart=>exact ⟨0,f2,_,came,q,D,by omega,rfl,rfl,hr2.out,by first | exact b2 | exact b2.drew,hF2.out,hjl2.out,hin.out,hC.out,hst.out⟩
     case round =>
      clear hr2 hF2 hO hC hOQ hin b2 hqlen hst
      obtain ⟨k,f3,qv,came,q,D,hk,rfl,rfl,hr3,b3,hF3,hjq,hIn,hC,hrm⟩:=hrel
      obtain ⟨wp',rfl⟩:∃ wo:World,wo=wr:=⟨_,rfl⟩
      have hqlen:q.length≤M:=nodup_len M q hIn.nodup (fun x hx=>by rw [← hM.out]; exact hIn.low x hx)
      by_cases hkl:k<L.length
      ·obtain ⟨t,ht⟩:∃ t,L[k]?=some t:=⟨_,List.getElem?_eq_getElem hkl⟩
       have htm:t∈pairL K i T v:=by rw [hL.out]; exact List.mem_of_getElem? ht
       have htM:t<M:=hLlow t (List.mem_of_getElem? ht)
       have hM3:=hMv.out.below b3
       have iT:=fun w'=>hM3.idx k (by rw [castI_len]; exact hkl) w'
       have cT:=hM3.cellD k (by rw [castI_len]; exact hkl)
       rw [castI_get ht] at cT
       have htk:L.take (k+1)=L.take k++[t]:=by rw [List.take_add_one,ht]; rfl
       have hrs:rowM i (pairL K i T) v (stM i (pairL K i T) j) (k+1)=stepM i v (came,q) t:=by rw [rowM_succ (t:=t) (by rw [hL.out]; exact ht),hrm]
       have hskip:(Diag i t∨¬ came t<0)→stepM i v (came,q) t=(came,q):=fun e=>by
        unfold stepM; rw [if_neg]; rintro ⟨e1,e2⟩; rcases e with e | e
        ·exact e1 e
        ·exact e e2
       have hpush:¬ Diag i t→came t<0→stepM i v (came,q) t=(updN came t (v:Int),q++[t]):=fun e1 e2=>by
        unfold stepM; rw [if_pos ⟨e1,e2⟩]
       replace hrs:=Hd hrs
       replace hskip:=Hd hskip
       replace hpush:=Hd hpush
       replace hrm:=Hd hrm
       obtain ⟨e1,e2,e3,e4,e5,e6⟩:=dm t i (by omega)
       obtain ⟨a,ha⟩:∃ z,t/i=z:=⟨_,rfl⟩
       obtain ⟨b,hb⟩:∃ z,t%i=z:=⟨_,rfl⟩
       have htd:Diag i t↔a=b:=by unfold Diag; rw [ha,hb]
       rw [ha] at e1 e3 e5
       rw [hb] at e2 e4 e6
       have hOC:=hr3.ownI hF3.came
       have iC:=fun w'=>hOC.at.idx t (by rw [tabI_len]; exact htM) w'
       have cC:=hOC.at.cellD t (by rw [tabI_len]; exact htM)
       rw [tabI_get _ _ _ htM] at cC
       have fC:=hOC.frz t (by rw [tabI_len]; exact htM)
       have kC:=(hOC.toV.blkB t (by rw [List.length_map,tabI_len]; exact htM)).2
       obtain ⟨f8,hr8,h8,hf8⟩:=hF3.set hr3 t htM (v:Int)
       obtain ⟨ct,hct⟩:∃ ct,came t=ct:=⟨_,rfl⟩
       rw [hct] at cC
       have hC1:=hC.1 t (by rw [hM.out]; exact htM)
       rw [hct] at hC1
       have hkl2:=Hd hkl
       have hBs:=b3.size
       generalize valAt mv k=ta at *
       generalize valAt (.slice ca cn cc) t=tc at *
       replace ha:=Hd ha
       replace hb:=Hd hb
       replace ht:=Hd ht
       replace hM3:=Hd hM3
       replace hOC:=Hd hOC
       replace hr3:=Hd hr3
       replace hF3:=Hd hF3
       replace hIn:=Hd hIn
       replace hC:=Hd hC
       replace hr8:=Hd hr8
       replace h8:=Hd h8
       replace htk:=Hd htk
       replace htm:=Hd htm
       replace hct:=Hd hct
       replace hC1:=Hd hC1
       by_cases hab:a=b
       ·have hq:((a:Int) != (b:Int))=false:=by rw [bne_eq_false_iff_eq]; omega
        have hq2:((a:Int)==(b:Int))=true:=by rw [beq_iff_eq]; omega
        have htD:=htd.2 hab
        replace htd:=Hd htd
        go_upto_region 17 with fail
        refine wp_region_plan (fun _=>True) 14 [(0,true),(1,true),(2,true),(3,true),(4,true),(5,true),(6,true),(7,true),(8,true),(9,true),(10,true),(11,true),(12,true),(13,true)] (by kernel_rfl) (by kernel_rfl) ?_
        have hS:True:=trivial
        refine pqY 61 hS ?_
        refine pqY 62 hS ?_
        refine pqY 63 hS ?_
        refine pqY 64 hS ?_
        refine pqY 65 hS ?_
        refine pqY 66 hS ?_
        refine pqY 67 hS ?_
        refine pqY 68 hS ?_
        refine pqN 69 hS ?_
        refine pqN 70 hS ?_
        refine pqN 71 hS ?_
        refine pqN 72 hS ?_
        refine pqN 73 hS ?_
        refine pqY 74 hS ?_
        refine head0 ?_
        simp only [List.drop_succ_cons,List.drop_zero]
        clear hS
        go_wp2
        refine NoPanic.normal ?_
        go_upto_region 20 with fail
        refine wp_region_plan (fun _=>True) 10 [(0,true),(1,true),(2,true),(3,true),(4,true),(5,true),(6,true),(7,true),(8,true),(9,true)] (by kernel_rfl) (by kernel_rfl) ?_
        have hS:True:=trivial
        refine pqY 84 hS ?_
        refine pqY 85 hS ?_
        refine pqY 86 hS ?_
        refine pqY 87 hS ?_
        refine pqY 88 hS ?_
        refine pqY 89 hS ?_
        refine pqY 90 hS ?_
        refine pqY 91 hS ?_
        refine pqY 92 hS ?_
        refine pqY 93 hS ?_
        refine head0 ?_
        simp only [List.drop_succ_cons,List.drop_zero]
        clear hS
        cases ap with
        | false =>
         have hvD:Diag i v:=by
          apply Classical.byContradiction
          intro e
          have:=hapd.2 e
          cases this
         have hsk:=hIn.out.skip (.inl ⟨htD,hvD⟩)
         rw [← htk.out] at hsk
         replace hsk:=Hd hsk
         clear hapd
         go_wp2
         refine NoPanic.normal ?_
         go_wp2
         go_roundw
         case measure=>have:=hkl2.out; simp [intOf]; omega
         case rel=>exact ⟨k+1,f3,_,came,q,D,by have:=hkl2.out; omega,by go_num,rfl,hr3.out.drew.drew,b3.drew.drew,hF3.out,hjq,hsk.out,hC.out,by rw [hrs.out,hskip.out (.inl htD)]⟩
        | true =>
         have hvD:¬ Diag i v:=hapd.1 rfl
         obtain ⟨c,hbw,hap1,hap2,hap3⟩:=hIn.out.met hC.out hvD htD (by rw [hM.out]; exact htM) htm.out
         have hmi:MeetIs i (pairL K i T) (c.reverse++[t]):=⟨j,v,k,t,c,hstv.out,by rw [hL.out]; exact ht.out,htD,hvD,by rw [hrm.out]; exact hbw,rfl,hnh.out,fun z x hz hx hd=>(hIn.out.now x (by rw [hL.out] at hx; exact List.mem_of_getElem? (by rw [List.getElem?_take,if_pos hz]; exact hx))).2 hd⟩
         have hDv:D v≤q.length:=hIn.out.bnd v (List.mem_of_getElem? hIn.out.at_)
         have hcl:c.length≤7000:=by
          have:(c.reverse++[t]).length=c.length+1:=by simp
          omega
         have hnx:=hbw.next (by rw [hM.out]; exact hvM)
         have hrc:castI (c.reverse++[t])=(castI (t::c)).reverse:=by rw [← castI_reverse,List.reverse_cons]
         obtain ⟨c',hc'⟩:=hbw.ne
         have hc0:c[0]?=some v:=by rw [hc']; rfl
         have hc1:0<c.length:=by rw [hc']; simp
         obtain ⟨W,hW⟩:∃ W:World,W=wp'.drew.drew:=⟨_,rfl⟩
         have bWp:Below wp'.heap.size wp' W:=by rw [hW]; exact (Below.refl _ _).drew.drew
         have hrW:Rows w.heap.size W f3:=by rw [hW]; exact hr3.out
         have bW:=b3.trans (bWp.mono b3.size)
         have bl:=belowAlloc W (.cells #[.int .i64 t] 3)
         have hlit:=OwnI.lit W.heap.size W (Nat.le_refl _) [(t:Int)] (by simp [maxLen]) #[.int .i64 (t:Int)] rfl 1 rfl
         replace hnx:=Hd hnx
         replace hbw:=Hd hbw
         replace hrc:=Hd hrc
         replace hap1:=Hd hap1
         replace hmi:=Hd hmi
         replace hap2:=Hd hap2
         replace hap3:=Hd hap3
         replace hc':=Hd hc'
         replace hc0:=Hd hc0
         replace hlit:=Hd hlit
         replace hrW:=Hd hrW
         clear hapd iT cT iC cC fC
         go_wp2
         refine NoPanic.normal ?_
         go_upto_region 21 with fail
         rw [← hW]
         replace hW:=Hd hW
         go_wp2_with fail
         go_loopw [12,13] (fun wv uv wr=>∃ (m:Nat) (ww:Value),m≤c.length∧ww=wv∧((m<c.length∧∃ y,c[m]?=some y∧uv=.int .i64 (y:Nat))∨(m=c.length∧uv=.int .i64 (-1)))∧OwnI W.heap.size wr ww (castI (t::c.take m))∧Below W.heap.size W wr) (fun wv _ _=>c.length+1-sliceN wv)
         case atStart=>exact ⟨0,_,by omega,rfl,.inl ⟨hc1,v,hc0.out,rfl⟩,hlit.out,bl⟩
         case round =>
          obtain ⟨m,ww,hm,rfl,hcase,hoW,bWr⟩:=hrel
          obtain ⟨wz,rfl⟩:∃ wo:World,wo=wr:=⟨_,rfl⟩
          have hwl:(castI (t::c.take m)).length=m+1:=by rw [castI_len,List.length_cons,List.length_take]; omega
          have hsn:sliceN ww=m+1:=by rw [sliceN_of hoW.at,hwl]
          rcases hcase with ⟨hmc,y,hy,rfl⟩ | ⟨hmc,rfl⟩
          ·obtain ⟨hyM,hnext⟩:=hnx.out m y hy
           rw [hM.out] at hyM
           have htk2:castI (t::c.take m)++[(y:Int)]=castI (t::c.take (m+1)):=by
            rw [← castI_snoc,List.take_add_one,hy]; rfl
           have hBW:=bWr.size
           replace hnext:=Hd hnext
           replace hy:=Hd hy
           replace hsn:=Hd hsn
           replace htk2:=Hd htk2
           go_wp2_with (at_builtin; go_loud (refine wpl_append1 rfl _ _ rfl W.heap.size ww _ y hoW rfl rfl (by omega) hBW ?_))
           intro v' w7 ho7 b7 _ _
           have bW7:=bWr.trans b7
           have hOC7:=(hrW.out.below bW7).ownI hF3.out.came
           have iY:=fun w'=>hOC7.at.idx y (by rw [tabI_len]; exact hyM) w'
           have cY:=hOC7.at.cellD y (by rw [tabI_len]; exact hyM)
           rw [tabI_get _ _ _ hyM] at cY
           rw [htk2.out] at ho7
           have hl7:(castI (t::c.take (m+1))).length=m+2:=by rw [castI_len,List.length_cons,List.length_take]; omega
           have hs7:sliceN v'=m+2:=by rw [sliceN_of ho7.at,hl7]
           obtain ⟨va,vn,vc,rfl⟩:=ho7.at.shape
           generalize valAt (.slice ca cn cc) y=ya at *
           obtain ⟨z,hz⟩:∃ z,came y=z:=⟨_,rfl⟩
           rw [hz] at cY
           have hnext2:(m+1<c.length∧∃ x,c[m+1]?=some x∧z=(x:Nat))∨(m+1=c.length∧z=-1):=by rw [← hz]; exact hnext.out
           replace ho7:=Hd ho7
           replace hOC7:=Hd hOC7
           replace hz:=Hd hz
           replace hs7:=Hd hs7
           replace hnext2:=Hd hnext2
           clear hoW
           go_wp2
           go_roundw
           case measure=>have:=hs7.out; have:=hsn.out; omega
           case rel =>
            refine ⟨m+1,_,by omega,rfl,?_,ho7.out,bW7⟩
            rcases hnext2.out with ⟨h1,x,h2,h3⟩ | ⟨h1,h2⟩
            ·exact .inl ⟨h1,x,h2,by rw [h3]⟩
            ·exact .inr ⟨h1,by rw [h2]⟩
          ·subst hmc
           rw [List.take_length] at hoW
           replace hoW:=Hd hoW
           replace hsn:=Hd hsn
           go_wp2_with fail
           refine (reverse_own W.heap.size ww _ wz hoW.out (by rw [castI_len,List.length_cons]; omega)).mono ?_
           rintro e w8 ⟨rfl,ho8,b8⟩
           rw [← hrc.out] at ho8
           have bE:=bW.trans ((bWr.trans b8).mono bW.size)
           have ho9:=ho8.mono (B':=w.heap.size) bW.size
           have hlen9:(c.reverse++[t]).length≤20000:=by simp; omega
           obtain ⟨va,vn,vc,rfl⟩:=ho8.at.shape
           replace ho8:=Hd ho8
           replace ho9:=Hd ho9
           go_wp2
           go_ret
           exact ⟨_,rfl,bE,.inl ⟨_,hmi.out,hap1.out,hap3.out,hlen9,ho9.out⟩⟩
       ·have hq:((a:Int) != (b:Int))=true:=by rw [bne_iff_ne]; omega
        have hq2:((a:Int)==(b:Int))=false:=by rw [beq_eq_false_iff_ne]; omega
        have htD:¬ Diag i t:=fun e=>hab (htd.1 e)
        replace htd:=Hd htd
        by_cases hneg:ct<0
        ·obtain rfl:=hC1.out.2 hneg
         have htq:t∉q:=(hC1.out.1.1 (by decide)).resolve_left htD
         have hadd:=hIn.out.add (by rw [hM.out]; exact htM) htD htq
         have hcadd:=hC.out.add hIn.out htD htq htm.out
         rw [← htk.out] at hadd
         replace hadd:=Hd hadd
         replace hcadd:=Hd hcadd
         replace htq:=Hd htq
         go_upto_region 17 with fail
         refine wp_region_plan (fun w'=>w'.cell? tc=some (.int .i64 (-1))) 14 [(0,true),(1,true),(2,true),(3,true),(4,true),(5,true),(6,true),(7,true),(8,true),(9,true),(10,true),(11,true),(12,true),(13,true)] (by kernel_rfl) (by kernel_rfl) ?_
         have hS:wp'.drew.cell? tc=some (.int .i64 (-1)):=cC
         refine pqY 61 hS ?_
         refine pqY 62 hS ?_
         refine pqY 63 hS ?_
         refine pqY 64 hS ?_
         refine pqY 65 hS ?_
         refine pqY 66 hS ?_
         refine pqY 67 hS ?_
         refine pqY 68 hS ?_
         refine pqY 69 hS ?_
         refine pqY 70 hS ?_
         refine pqY 71 hS ?_
         refine pqY 72 hS ?_
         refine pqY 73 hS ?_
         refine pqY 74 hS ?_
         refine head0 ?_
         simp only [List.drop_succ_cons,List.drop_zero]
         clear hS
         have hr8':Rows w.heap.size ((wp'.setCell tc (.int .i64 (v:Int))).drew) f8:=hr8.out
         have b8:Below w.heap.size w ((wp'.setCell tc (.int .i64 (v:Int))).drew):=(b3.setCell kC _).drew
         obtain ⟨W8,hW8⟩:∃ W:World,W=(wp'.setCell tc (.int .i64 (v:Int))).drew:=⟨_,rfl⟩
         rw [← hW8] at hr8' b8
         have hoQ8:=hr8'.ownI h8.out.queue
         have hB8:=b8.size
         have hlq:(castI q).length≤7000:=by rw [castI_len]; omega
         replace hr8':=Hd hr8'
         go_wp2
         refine NoPanic.normal ?_
         go_upto_region 19 with fail
         rw [← hW8]
         replace hW8:=Hd hW8
         go_wp2_with (at_builtin; go_loud (refine wpl_app1 rfl _ _ rfl w.heap.size qv _ t hoQ8 rfl rfl (by omega) hB8 ?_))
         intro qv' w9 ho9 b9 hal9
         obtain ⟨f9,hr9,h9,_⟩:=h8.out.push hr8'.out t ho9 hal9
         obtain ⟨q1,q2,q3,rfl⟩:=ho9.at.shape
         replace hr9:=Hd hr9
         replace ho9:=Hd ho9
         clear hal9 hoQ8
         go_wp2
         go_roundw
         case measure=>have:=hkl2.out; simp [intOf]; omega
         case rel=>exact ⟨k+1,f9,_,_,_,_,by have:=hkl2.out; omega,by go_num,rfl,hr9.out,b8.trans b9,h9,by simp; omega,hadd.out,hcadd.out,by rw [hrs.out,hpush.out htD (by rw [hct.out]; decide)]⟩
        ·obtain ⟨pc,rfl⟩:=Int.eq_ofNat_of_zero_le (show 0≤ct by omega)
         have htq:t∈q:=by
          apply Classical.byContradiction
          intro e
          exact hneg (hC1.out.1.2 (.inr e))
         have hsk:=hIn.out.skip (.inr ⟨htD,htq⟩)
         rw [← htk.out] at hsk
         replace hsk:=Hd hsk
         replace htq:=Hd htq
         go_upto_region 17 with fail
         refine wp_region_plan (fun w'=>w'.cell? tc=some (.int .i64 (pc:Nat))) 14 [(0,true),(1,true),(2,true),(3,true),(4,true),(5,true),(6,true),(7,true),(8,true),(9,true),(10,true),(11,true),(12,true),(13,true)] (by kernel_rfl) (by kernel_rfl) ?_
         have hS:wp'.drew.cell? tc=some (.int .i64 (pc:Nat)):=cC
         refine pqY 61 hS ?_
         refine pqY 62 hS ?_
         refine pqY 63 hS ?_
         refine pqY 64 hS ?_
         refine pqY 65 hS ?_
         refine pqY 66 hS ?_
         refine pqY 67 hS ?_
         refine pqY 68 hS ?_
         refine pqY 69 hS ?_
         refine pqY 70 hS ?_
         refine pqY 71 hS ?_
         refine pqY 72 hS ?_
         refine pqY 73 hS ?_
         refine pqY 74 hS ?_
         refine head0 ?_
         simp only [List.drop_succ_cons,List.drop_zero]
         clear hS
         go_wp2
         refine NoPanic.normal ?_
         go_upto_region 20 with fail
         refine wp_region_plan (fun _=>True) 10 [(0,true),(1,true),(2,true),(3,true),(4,true),(5,true),(6,true),(7,true),(8,true),(9,true)] (by kernel_rfl) (by kernel_rfl) ?_
         have hS:True:=trivial
         refine pqY 84 hS ?_
         refine pqY 85 hS ?_
         refine pqY 86 hS ?_
         refine pqY 87 hS ?_
         refine pqY 88 hS ?_
         refine pqY 89 hS ?_
         refine pqY 90 hS ?_
         refine pqY 91 hS ?_
         refine pqN 92 hS ?_
         refine pqY 93 hS ?_
         refine head0 ?_
         simp only [List.drop_succ_cons,List.drop_zero]
         clear hS
         go_wp2
         refine NoPanic.normal ?_
         go_wp2
         go_roundw
         case measure=>have:=hkl2.out; simp [intOf]; omega
         case rel=>exact ⟨k+1,f3,_,came,q,D,by have:=hkl2.out; omega,by go_num,rfl,hr3.out.drew.drew,b3.drew.drew,hF3.out,hjq,hsk.out,hC.out,by rw [hrs.out,hskip.out (.inr (by rw [hct.out]; omega))]⟩
      ·obtain rfl:k=L.length:=by omega
       rw [List.take_length] at hIn
       have hout:=hIn.leave hL.out.symm
       have hst2:stM i (pairL K i T) (j+1)=(came,q):=by rw [stM_succ hstv.out,hL.out,hrm]
       have hnh2:∀ z,z<j+1→NoHit i (pairL K i T) z:=fun z hz=>by
        by_cases e:z=j
        ·subst e
         intro v' hv' t ht htD
         rw [hstv.out] at hv'
         obtain rfl:=Option.some.inj hv'
         rw [hL.out] at ht
         exact (hIn.now t ht).2 htD
        ·exact hnh.out z (by omega)
       replace hst2:=Hd hst2
       replace hnh2:=Hd hnh2
       replace hout:=Hd hout
       replace hIn:=Hd hIn
       replace hr3:=Hd hr3
       replace hF3:=Hd hF3
       replace hC:=Hd hC
       go_wp2
       go_roundw
       case measure=>simp [intOf]; omega
       case rel=>exact ⟨j+1,f3,_,came,q,D,by omega,by go_num,rfl,hr3.out,b3,hF3.out,hout.out,hC.out,hst2.out,hnh2.out⟩
    ·obtain rfl:j=q.length:=by omega
     have hno:=hO.none (Nat.le_refl _)
     replace hno:=Hd hno
     replace hr2:=Hd hr2
     replace hF2:=Hd hF2
     replace hO:=Hd hO
     replace hC:=Hd hC
     replace hOQ:=Hd hOQ
     go_wp2
     go_ret
     exact ⟨_,rfl,b2,.inr ⟨rfl,hno.out⟩⟩
def FinPost (w:World) (K R:Nat) (T:List Int) (yes a b e:Value) (w':World):Prop :=
 e=.nilIface∧((yes=.bool true∧a=.slice none 0 0∧b=.slice none 0 0∧∀ x y,¬ IsTwins K R T x y) ∨
 (yes=.bool false∧∃ x y,FinIs K R T x y∧IsTwins K R T x y∧TwinLen K R T x.length∧x.length≤20010∧OwnI w.heap.size w' a x∧OwnI w.heap.size w' b y∧(a.ownBlock=none∨a.ownBlock≠b.ownBlock)))
theorem finite_zero (r:Nat→Addr) (K:Nat) (va:Option Addr) (vn vc:Nat) (T:List Int) (w:World) (hg:Glob r w) (h:IntsAt w (.slice va vn vc) T) (hr:RuleOk K 0 T) (hl:T.length≤256) :
 Calls Tryz.prog 15 #[.agg #[.int .i64 K,.int .i64 ((0:Nat):Int),.slice va vn vc]] w (Ret4 (FinPost w K 0 T) w):=by
 have b0:=belowAlloc w (.cells #[.int .i64 K,.int .i64 ((0:Nat):Int),.slice va vn vc] 24)
 have q:Box3 (w.alloc (.cells #[.int .i64 K,.int .i64 ((0:Nat):Int),.slice va vn vc] 24)) w.heap.size (.int .i64 K) (.int .i64 ((0:Nat):Int)) (.slice va vn vc):=by simp [Box3,go_sem]
 have hTK:T.length=K:=by rw [hr.len]; simp [pw]
 have hgraph:=fun (w':World) (hgl:Glob r w') (hT:IntsAt w' (.slice va vn vc) T)=>pgraph_ok r K 0 va vn vc T w' hgl hT hr hl
 replace hgraph:=Hd hgraph
 replace hTK:=Hd hTK
 replace hg:=Hd (hg.below b0)
 replace h:=Hd (h.below b0)
 replace hr:=Hd hr
 go_enter Tryz.func15,Tryz.ntmps15
 go_wp2_with fail
 refine (hgraph.out _ hg.out h.out).mono ?_
 rintro e w1 ⟨gv,y,rfl,b1,rfl,-⟩
 obtain ⟨⟨z0,z1,z2⟩,-,-,-⟩:=q.below b1
 have b01:=Below.step b0 b1
 have hs:=b01.size
 go_wp2_with fail
 refine (single_any K ((0:Nat):Int) va vn vc T w1 (h.out.below b1)).mono ?_
 rintro e w2 ⟨x,y,rfl,b2,hp⟩
 have b02:=Below.step b01 b2
 rcases hp with ⟨a,b,hsi,hoa,hob,hd⟩ | ⟨rfl,rfl,hno⟩
 ·have lx:=hoa.at.len
  obtain ⟨x1,x2,x3,rfl⟩:=hoa.at.shape
  obtain ⟨y1,y2,y3,rfl⟩:=hob.at.shape
  have htw:=hsi.twins hTK.out
  have htl:TwinLen K 0 T [(a:Int)].length:=⟨⟨_,_,htw,rfl⟩,fun c d hcd=>twins_pos hcd⟩
  replace hsi:=Hd hsi
  replace hoa:=Hd hoa
  replace hob:=Hd hob
  replace hd:=Hd hd
  replace htw:=Hd htw
  replace htl:=Hd htl
  clear z0 z1 z2
  go_wp2
  (try simp only [Exit.inBlock,Exit.then])
  refine bodyPost_ret (results_tmp4 rfl _ _ _) rfl ?_
  exact ⟨_,_,_,_,rfl,b02,rfl,.inr ⟨rfl,_,_,.inl ⟨rfl,a,b,hsi.out,rfl,rfl⟩,htw.out,htl.out,by simp,hoa.out.mono hs,hob.out.mono hs,hd.out⟩⟩
 ·have hn:=no_single (K:=K) hTK.out hno
  replace hn:=Hd hn
  clear hno z0 z1 z2
  go_wp2
  (try simp only [Exit.inBlock,Exit.then])
  refine bodyPost_ret (results_tmp4 rfl _ _ _) rfl ?_
  exact ⟨_,_,_,_,rfl,b02,rfl,.inl ⟨rfl,rfl,rfl,hn.out⟩⟩
theorem finite_pos (r:Nat→Addr) (K R:Nat) (va:Option Addr) (vn vc:Nat) (T:List Int) (w:World) (hg:Glob r w) (h:IntsAt w (.slice va vn vc) T) (hr:RuleOk K R T) (hl:T.length≤256) (hR:1≤R) :
 Calls Tryz.prog 15 #[.agg #[.int .i64 K,.int .i64 R,.slice va vn vc]] w (Ret4 (FinPost w K R T) w):=by
 have b0:=belowAlloc w (.cells #[.int .i64 K,.int .i64 R,.slice va vn vc] 24)
 have q:Box3 (w.alloc (.cells #[.int .i64 K,.int .i64 R,.slice va vn vc] 24)) w.heap.size (.int .i64 K) (.int .i64 R) (.slice va vn vc):=by simp [Box3,go_sem]
 have hk1:=hr.k1
 have hk4:=hr.k4
 have hR3:=hr.r3
 have hN81:=nodes_le hr hR hl
 have hN1:=pw_pos (K:=K) (2*R) hk1
 have hwR:wkR R=R:=if_neg (by omega)
 have hwT:wkT K R T=T:=if_neg (by omega)
 have hgraph:=fun (w':World) (hgl:Glob r w') (hT:IntsAt w' (.slice va vn vc) T)=>pgraph_ok r K R va vn vc T w' hgl hT hr hl
 have hwords:=fun (u:Value) (ns:List Nat) (w':World) (hgl:Glob r w') (hT:IntsAt w' (.slice va vn vc) T)=>pwords_way r K R va vn vc T u ns w' hgl hT hr hl
 rw [hwR,hwT] at hgraph hwords
 have hmeet:=fun (ga:Option Addr) (gc:Nat) (w':World)=>meet_any K (pw K (2*R)) T ga gc w' hk4 hN1 hN81
 have hR0:((R:Int)==0)=false:=by rw [beq_eq_false_iff_ne]; omega
 have hR1:¬ (R:Int)=0:=by omega
 have hR2:¬ R=0:=by omega
 have hR22:=Hd hR2
 have hRR:=Hd hR
 replace hgraph:=Hd hgraph
 replace hwords:=Hd hwords
 replace hmeet:=Hd hmeet
 replace hg:=Hd (hg.below b0)
 replace h:=Hd (h.below b0)
 replace hr:=Hd hr
 clear hwR hwT
 go_enter Tryz.func15,Tryz.ntmps15
 go_wp2_with fail
 refine (hgraph.out _ hg.out h.out).mono ?_
 rintro e w1 ⟨gv,y,rfl,b1,rfl,f,vals,hrows,hwn⟩
 have hL:ListsAt w1 gv (pairG K (pw K (2*R)) T):=hwn.lists hrows
 obtain ⟨ga,gc,rfl⟩:=hL.shape
 obtain ⟨⟨z0,z1,z2⟩,-,-,-⟩:=q.below b1
 have b01:=Below.step b0 b1
 replace hL:=Hd hL
 clear hrows hwn
 go_wp2_with fail
 refine (hmeet.out ga gc w1 hL.out).mono ?_
 rintro e w2 ⟨mv,rfl,b2,hp⟩
 have b12:=Below.step b1 b2
 have b02:=Below.step b01 b2
 clear z0 z1 z2
 obtain ⟨⟨z0,z1,z2⟩,-,-,-⟩:=q.below b12
 rcases hp with ⟨ws,hmi,haw,hmin,hws,how⟩ | ⟨rfl,hno⟩
 ·have hw3:=haw.len
  have hlow:∀ p∈ws,p<pw K (2*R)*pw K (2*R):=fun p hp=>by
   obtain ⟨i,hi,rfl⟩:=List.mem_iff_getElem.1 hp
   have:=haw.low i hi
   simpa [List.getD,hi] using this
  have hne:ws≠[]:=by intro e; rw [e] at hw3; simp at hw3
  have hfit:AllFit K (pw K (2*R)) T ws:=fun i hi=>(fits_iff hk1 hR (haw.low _ hi)).2 ((mem_pairL (by omega)).1 (haw.arr i hi))
  have htw:=haw.twins hk1 hR
  have htl:=way_twinLen hk1 hR haw hmin
  have lm:=how.at.len
  rw [castI_len] at lm
  have hln:(((ws.length:Nat):Int)==0)=false:=by rw [beq_eq_false_iff_ne]; omega
  have hln2:¬ ((ws.length:Nat):Int)=0:=by omega
  have hln3:¬ ws.length=0:=by omega
  obtain ⟨m1,m2,m3,rfl⟩:=how.at.shape
  replace hmi:=Hd hmi
  replace haw:=Hd haw
  replace hlow:=Hd hlow
  replace hne:=Hd hne
  replace hfit:=Hd hfit
  replace htw:=Hd htw
  replace htl:=Hd htl
  replace how:=Hd how
  have hws2:=Hd hws
  clear hmin
  go_wp2_with fail
  refine (hwords.out _ ws w2 (hg.out.below b12) (h.out.below b12) how.out.at hne.out hlow.out (by have:=hws2.out; omega)).mono ?_
  rintro e w3 ⟨x,y,z,rfl,b3,hpo⟩
  rcases hpo with ⟨_,rfl,hox,hoy,hd⟩ | ⟨hnf,_⟩
  ·obtain ⟨x1,x2,x3,rfl⟩:=hox.at.shape
   obtain ⟨y1,y2,y3,rfl⟩:=hoy.at.shape
   have hs:=b02.size
   replace hox:=Hd hox
   replace hoy:=Hd hoy
   replace hd:=Hd hd
   clear z0 z1 z2
   go_wp2
   (try simp only [Exit.inBlock,Exit.then])
   refine bodyPost_ret (results_tmp4 rfl _ _ _) rfl ?_
   refine ⟨_,_,_,_,rfl,Below.step b02 b3,rfl,.inr ⟨rfl,_,_,.inr ⟨hR22.out,ws,hmi.out,rfl,rfl⟩,htw.out,?_,?_,hox.out.mono hs,hoy.out.mono hs,hd.out⟩⟩
   ·rw [alongW_len]; exact htl.out
   ·rw [alongW_len]; have:=hws2.out; omega
  ·exact absurd hfit.out hnf
 ·have hn:=no_twins (K:=K) (R:=R) (T:=T) hk1 hR hno
  replace hn:=Hd hn
  clear hno z0 z1 z2
  go_wp2
  (try simp only [Exit.inBlock,Exit.then])
  refine bodyPost_ret (results_tmp4 rfl _ _ _) rfl ?_
  exact ⟨_,_,_,_,rfl,b02,rfl,.inl ⟨rfl,rfl,rfl,hn.out⟩⟩
theorem finite_ok (r:Nat→Addr) (K R:Nat) (va:Option Addr) (vn vc:Nat) (T:List Int) (w:World) (hg:Glob r w) (h:IntsAt w (.slice va vn vc) T) (hr:RuleOk K R T) (hl:T.length≤256) :
 Calls Tryz.prog 15 #[.agg #[.int .i64 K,.int .i64 R,.slice va vn vc]] w (Ret4 (FinPost w K R T) w):=by
 by_cases e:R=0
 ·subst e; exact finite_zero r K va vn vc T w hg h hr hl
 ·exact finite_pos r K R va vn vc T w hg h hr hl (by omega)
end Go.Proofs.YtncpnaoabkjegaaGreatDoor
namespace Go.Proofs.YtncpnaoabkjegaaGreatDoor
theorem find_some {K R:Nat} {T:List Int} {d:Nat} {S:List Int}:∀ m e,findF K R T m e=some (d,S)→e≤d∧d<e+m∧(tryF K R T d).1=true∧S=(tryF K R T d).2∧∀ c,e≤c→c<d→(tryF K R T c).1=false:=by
 intro m
 induction m with
 | zero=>intro e h; cases h
 | succ m ih =>
  intro e h
  unfold findF at h
  by_cases ht:(tryF K R T e).1=true
  ·rw [if_pos ht] at h
   simp only [Option.some.injEq,Prod.mk.injEq] at h
   obtain ⟨rfl,rfl⟩:=h
   exact ⟨Nat.le_refl _,by omega,ht,rfl,fun c h1 h2=>by omega⟩
  ·rw [if_neg ht] at h
   obtain ⟨h1,h2,h3,h4,h5⟩:=ih _ h
   refine ⟨by omega,by omega,h3,h4,fun c hc hcd=>?_⟩
   by_cases e2:c=e
   ·subst e2; simpa using ht
   ·exact h5 c (by omega) hcd
open Go.RowKit
set_option maxRecDepth 100000
set_option maxHeartbeats 8000000
structure GBox (w:World) (G:Nat) (K R:Nat) (Tv:Value) (d:Nat) (tv:Value):Prop where
 c0:w.cell? ⟨G,0,none⟩=some (.int .i64 K)
 c1:w.cell? ⟨G,1,none⟩=some (.int .i64 R)
 c2:w.cell? ⟨G,2,none⟩=some Tv
 c3:w.cell? ⟨G,3,none⟩=some (.int .i64 d)
 c4:w.cell? ⟨G,4,none⟩=some tv
theorem GBox.kept {w w':World} {G tb K R d:Nat} {Tv tv:Value} (h:GBox w G K R Tv d tv) (hg:w.grownBy w' (some tb)) (hne:G≠tb):GBox w' G K R Tv d tv:=by
 have k:∀ {i x},w.cell? ⟨G,i,none⟩=some x→w'.cell? ⟨G,i,none⟩=some x:=fun {i x} hc=>by
  rw [World.cell?_of_block (a:=⟨G,i,none⟩) (hg.block G (World.block_lt_of_cell? _ _ hc) (by simpa using hne))]; exact hc
 exact ⟨k h.c0,k h.c1,k h.c2,k h.c3,k h.c4⟩
theorem IntsAt.grown {w w':World} {v:Value} {xs:List Int} {tb:Nat} (h:IntsAt w v xs) (hg:w.grownBy w' (some tb)) (hoff:∀ i,i<xs.length→(valAt v i).block≠tb):IntsAt w' v xs :=
 h.cells_eq fun i hi=>World.cell?_of_block (hg.block _ (h.blk i hi) (by simpa using hoff i hi))
theorem setCell_grown {w:World} {v:Value} {i g n c:Nat} (hv:v=.slice (some ⟨g,0,none⟩) n c) (x:Value):w.grownBy (w.setCell (valAt v i) x) (some g):=by
 subst hv
 rw [valAt_row]
 exact ⟨rfl,rfl,rfl,by simp [World.setCell],fun k _ hk=>Below.heap_setCell _ _ _ _ (by simp at hk; omega)⟩
theorem drewN_grown (w:World) (n:Nat) (row:Option Nat):w.grownBy (w.drewN n) row:=⟨rfl,rfl,rfl,Nat.le_refl _,fun _ _ _=>rfl⟩
theorem fill_any (K R d G tb tn tc B:Nat) (va:Option Addr) (vn vc:Nat) (T:List Int) (hr:RuleOk K R T) (hl:T.length≤256) (hd:d≤3) (hne:G≠tb) (hoff:∀ i,i<T.length→(valAt (.slice va vn vc) i).block≠tb) :
 ∀ (f n front image middle:Nat) (w:World) (tab:List Int),n+f=2*(R+d)+1→FillOk K R T n front image→middle<K→GBox w G K R (.slice va vn vc) d (.slice (some ⟨tb,0,none⟩) tn tc)→IntsAt w (.slice va vn vc) T→OwnI B w (.slice (some ⟨tb,0,none⟩) tn tc) tab→tab.length=pw K (2*d+1) →
 Calls Tryz.prog 154 #[.pointer (some ⟨G,0,none⟩),.int .i64 front,.int .i64 image,.int .i64 middle,.int .i64 n] w fun e w' =>
  e=.returned (.bool (fillF K R (2*(R+d)+1) T f front image middle tab).1)∧OwnI B w' (.slice (some ⟨tb,0,none⟩) tn tc) (fillF K R (2*(R+d)+1) T f front image middle tab).2∧w.grownBy w' (some tb):=by
 have hk1:=hr.k1
 have hk4:=hr.k4
 have hr3:=hr.r3
 intro f
 induction f with
 | zero =>
  intro n front image middle w tab hn hf hm hbox hT ho htl
  have him:image<tab.length:=by
   have:=hf.2
   rw [htl,show 2*d+1=n-2*R by omega]; exact this
  have lT:=ho.at.len
  have iT:=fun w'=>ho.at.idx image him w'
  have cT:=ho.at.cellD image him
  have fT:=ho.frz image him
  obtain ⟨y,hy⟩:∃ y,tab.getD image 0=y:=⟨_,rfl⟩
  rw [hy] at cT
  have hset:=ho.set image him (middle:Int)
  have hgr:=setCell_grown (w:=w) (v:=.slice (some ⟨tb,0,none⟩) tn tc) (i:=image) rfl (.int .i64 (middle:Int))
  have hF:fillF K R (2*(R+d)+1) T 0 front image middle tab=if 0≤y∧y≠(middle:Int) then (false,tab) else (true,tab.set image middle):=by unfold fillF; rw [hy]
  obtain ⟨p,hp⟩:∃ p,valAt (.slice (some ⟨tb,0,none⟩) tn tc) image=p:=⟨_,rfl⟩
  rw [hp] at iT cT fT hset hgr
  obtain ⟨z0,z1,z2,z3,z4⟩:=id hbox
  have hn1:(2:Int)*((R:Int)+(d:Int))+1=(n:Int):=by omega
  have hnn:((n:Int)==(n:Int))=true:=by simp
  replace hr:=Hd hr
  replace hoff:=Hd hoff
  replace hf:=Hd hf
  replace hT:=Hd hT
  replace ho:=Hd ho
  replace hset:=Hd hset
  replace hgr:=Hd hgr
  replace hy:=Hd hy
  replace hp:=Hd hp
  replace hF:=Hd hF
  replace hbox:=Hd hbox
  replace htl:=Hd htl
  by_cases hy0:0≤y
  ·have d0:decide ((0:Int)≤y)=true:=decide_eq_true hy0
   by_cases hym:y=(middle:Int)
   ·have d1:(y != (middle:Int))=false:=by rw [hym]; simp
    rw [hF.out,if_neg (fun h=>h.2 hym)]
    go_enter Tryz.func154,Tryz.ntmps154
    go_upto_region 1 with fail
    go_quiet (fail)
    go_wp2
    go_ret
    exact ⟨rfl,hset.out,hgr.out.trans (drewN_grown _ nq _)⟩
   ·have d1:(y != (middle:Int))=true:=by rw [bne_iff_ne]; exact hym
    rw [hF.out,if_pos ⟨hy0,hym⟩]
    go_enter Tryz.func154,Tryz.ntmps154
    go_upto_region 1 with fail
    go_quiet (fail)
    go_wp2
    go_ret
    exact ⟨rfl,ho.out,drewN_grown w nq _⟩
  ·have d0:decide ((0:Int)≤y)=false:=decide_eq_false hy0
   rw [hF.out,if_neg (fun h=>hy0 h.1)]
   go_enter Tryz.func154,Tryz.ntmps154
   go_upto_region 1 with fail
   go_quiet (fail)
   go_wp2
   go_ret
   exact ⟨rfl,hset.out,hgr.out.trans (drewN_grown _ nq _)⟩
 | succ f ih =>
  intro n front image middle w tab hn hf hm hbox hT ho htl
  have lT:=hT.len
  obtain ⟨wd,hwd⟩:∃ wd,2*(R+d)+1=wd:=⟨_,rfl⟩
  have hw1:(2:Int)*((R:Int)+(d:Int))+1=(wd:Int):=by omega
  have hnw:((n:Int)==(wd:Int))=false:=by rw [beq_eq_false_iff_ne]; omega
  have hh1:(wd:Int).tdiv 2=((R+d:Nat):Int):=by rw [Int.tdiv_eq_ediv_of_nonneg (by omega)]; omega
  have hh2:(wd:Int)/2=((R+d:Nat):Int):=by omega
  have hnb:n≤12:=by omega
  have hnsub:2*(R+d)+1-(f+1)=n:=by omega
  have hhalf:(2*(R+d)+1)/2=R+d:=by omega
  obtain ⟨g,hg⟩:∃ g:Nat→List Int→Bool×List Int,g=fun s t=>fillF K R (2*(R+d)+1) T f ((front*K+s)%(T.length/K)) (if 2*R≤n then image*K+(T.getD (front*K+s) 0).toNat else image) (if n=R+d then s else middle) t:=⟨_,rfl⟩
  have hF:fillF K R (2*(R+d)+1) T (f+1) front image middle tab=fillL g (List.range K) tab:=by
   rw [hg]
   conv=>lhs; unfold fillF
   rw [hnsub,hhalf]
  rw [hF]
  have him:image<16384:=Nat.lt_of_lt_of_le hf.2 (pw_le hk1 hk4 (by omega))
  have hTl:T.length/K≤256:=Nat.le_trans (Nat.div_le_self _ _) hl
  have hf1:=hf.1
  have hfr:front<256:=by omega
  obtain ⟨z0,z1,z2,z3,z4⟩:=id hbox
  obtain ⟨tl,htl2⟩:∃ tl,T.length=tl:=⟨_,rfl⟩
  rw [htl2] at lT hl
  obtain ⟨Lq,hLq⟩:∃ q,tl/K=q:=⟨_,rfl⟩
  rw [htl2,hLq] at hTl hf1
  have hLz:¬ Lq=0:=by omega
  have hLz2:((Lq:Int)==0)=false:=by rw [beq_eq_false_iff_ne]; omega
  have hKz:¬ K=0:=by omega
  have hKz2:((K:Int)==0)=false:=by rw [beq_eq_false_iff_ne]; omega
  have e1:(tl:Int).tdiv (K:Int)=(Lq:Int):=by rw [Int.tdiv_eq_ediv_of_nonneg (by omega),← Int.natCast_ediv,hLq]
  have e2:(tl:Int)/(K:Int)=(Lq:Int):=by rw [← Int.natCast_ediv,hLq]
  replace hr:=Hd hr
  replace hoff:=Hd hoff
  replace hf:=Hd hf
  replace hT:=Hd hT
  replace ho:=Hd ho
  replace hF:=Hd hF
  replace hg:=Hd hg
  replace hbox:=Hd hbox
  replace htl:=Hd htl
  replace hwd:=Hd hwd
  replace htl2:=Hd htl2
  replace hLq:=Hd hLq
  replace ih:=Hd ih
  replace hhalf:=Hd hhalf
  replace hnsub:=Hd hnsub
  go_enter Tryz.func154,Tryz.ntmps154
  go_upto_region 1 with fail
  go_quiet (fail)
  go_wp2_with fail
  go_loopw [62] (fun iv wr=>∃ (s:Nat) (t:List Int),s≤K∧iv=.int .i64 s∧fillL g (List.range s) tab=(true,t)∧OwnI B wr (.slice (some ⟨tb,0,none⟩) tn tc) t∧w.grownBy wr (some tb)) (fun iv _=>K-(intOf iv).toNat)
  case atStart=>exact ⟨0,tab,Nat.zero_le _,rfl,rfl,ho.out,drewN_grown w nq _⟩
  case round =>
   clear z0 z1 z2 z3 z4
   obtain ⟨s,t,hs,rfl,hft,hO,hG⟩:=hrel
   obtain ⟨wo,rfl⟩:∃ wo:World,wo=wr:=⟨_,rfl⟩
   by_cases hsK:s<K
   ·have ds:decide ((s:Int)<(K:Int))=true:=decide_eq_true (by omega)
    obtain ⟨z0,z1,z2,z3,z4⟩:=hbox.out.kept hG hne
    have hTo:=hT.out.grown hG hoff.out
    have hwin:=hf.out.window hr.out hsK
    have hstep:=hf.out.step hr.out hsK
    have hgs:g s t=fillF K R (2*(R+d)+1) T f ((front*K+s)%(T.length/K)) (if 2*R≤n then image*K+(T.getD (front*K+s) 0).toNat else image) (if n=R+d then s else middle) t:=by rw [hg.out]
    have htlen:t.length=pw K (2*d+1):=by
     have:=fillL_len (g:=g) (fun s t=>by rw [hg.out]; exact fillF_len _ _ _ _ _ _ _ _ _) (List.range s) tab
     rw [hft] at this
     rw [← htl.out]; exact this
    have hxs:=getD_syms hr.out.syms hwin
    have iT:=fun w'=>hTo.idx (front*K+s) hwin w'
    have cT:=hTo.cellD (front*K+s) hwin
    obtain ⟨x,hx⟩:∃ x,T.getD (front*K+s) 0=x:=⟨_,rfl⟩
    rw [hx] at hxs cT hstep hgs
    obtain ⟨xn,rfl⟩:∃ m:Nat,x=(m:Int):=⟨x.toNat,by omega⟩
    rw [Int.toNat_natCast] at hstep hgs
    rw [htl2.out,hLq.out] at hstep hgs
    rw [htl2.out] at hwin
    obtain ⟨fk,hfk⟩:∃ q,front*K=q:=⟨_,rfl⟩
    have hfk1:(front:Int)*(K:Int)=(fk:Int):=by rw [← hfk]; simp
    rw [hfk] at iT cT hwin hstep hgs hx
    obtain ⟨win,hwn⟩:∃ q,fk+s=q:=⟨_,rfl⟩
    have hwn1:(fk:Int)+(s:Int)=(win:Int):=by omega
    rw [hwn] at iT cT hwin hstep hgs hx
    obtain ⟨wm,hwm⟩:∃ q,win%Lq=q:=⟨_,rfl⟩
    have hwml:wm<Lq:=by rw [← hwm]; exact Nat.mod_lt _ (by omega)
    have e3:(win:Int).tmod (Lq:Int)=(wm:Int):=by rw [Int.tmod_eq_emod_of_nonneg (by omega),← Int.natCast_emod,hwm]
    have e4:(win:Int)%(Lq:Int)=(wm:Int):=by rw [← Int.natCast_emod,hwm]
    rw [hwm] at hstep hgs
    have hik:image*K≤16384*4:=Nat.mul_le_mul (by omega) hk4
    obtain ⟨ik,hikn⟩:∃ q,image*K=q:=⟨_,rfl⟩
    have hik1:(image:Int)*(K:Int)=(ik:Int):=by rw [← hikn]; simp
    rw [hikn] at hstep hgs hik
    obtain ⟨px,hpx⟩:∃ p,valAt (.slice va vn vc) win=p:=⟨_,rfl⟩
    rw [hpx] at iT cT
    have hfkb:fk≤1024:=by rw [← hfk]; exact Nat.le_trans (Nat.mul_le_mul (show front≤256 by omega) hk4) (by decide)
    have hwinb:win≤1028:=by omega
    have wL:=wrapK (x:=(Lq:Int)) (by omega) (by omega)
    have wn1:=wrapK (x:=(n:Int)+1) (by omega) (by omega)
    replace hfk:=Hd hfk
    replace hwn:=Hd hwn
    replace hwm:=Hd hwm
    replace hikn:=Hd hikn
    replace hpx:=Hd hpx
    replace hx:=Hd hx
    replace hft:=Hd hft
    replace hO:=Hd hO
    replace hTo:=Hd hTo
    replace htlen:=Hd htlen
    by_cases hge:2*R≤n<;>by_cases hmid:n=R+d
    ·have hgs2:g s t=fillF K R (2*(R+d)+1) T f wm (ik+xn) s t:=by rw [hgs,if_pos hge,if_pos hmid]
     have hst2:FillOk K R T (n+1) wm (ik+xn):=by rw [if_pos hge] at hstep; exact hstep
     have dg:decide ((2:Int)*(R:Int)≤(n:Int))=true:=decide_eq_true (by omega)
     have dm:((n:Int)==((R+d:Nat):Int))=true:=by rw [beq_iff_eq]; omega
     have e5:((n+1:Nat):Int)=(n:Int)+1:=rfl
     have e6:(((ik+xn):Nat):Int)=(ik:Int)+(xn:Int):=Int.natCast_add _ _
     have hih:∀ (W:World) (t:List Int),GBox W G K R (.slice va vn vc) d (.slice (some ⟨tb,0,none⟩) tn tc)→IntsAt W (.slice va vn vc) T→OwnI B W (.slice (some ⟨tb,0,none⟩) tn tc) t→t.length=pw K (2*d+1) →
      Calls Tryz.prog 154 #[.pointer (some ⟨G,0,none⟩),.int .i64 (wm:Int),.int .i64 ((ik:Int)+(xn:Int)),.int .i64 (s:Int),.int .i64 ((n:Int)+1)] W fun e w' =>
       e=.returned (.bool (fillF K R (2*(R+d)+1) T f wm (ik+xn) s t).1)∧OwnI B w' (.slice (some ⟨tb,0,none⟩) tn tc) (fillF K R (2*(R+d)+1) T f wm (ik+xn) s t).2∧W.grownBy w' (some tb):=fun W t a1 a2 a3 a4=>by
      have:=ih.out (n+1) wm (ik+xn) s W t (by omega) hst2 (by omega) a1 a2 a3 a4
      rw [e5,e6] at this
      exact this
     clear e5 e6
     replace hmid:=Hd hmid
     replace hgs:=Hd hgs
     replace hgs2:=Hd hgs2
     replace hst2:=Hd hst2
     replace hstep:=Hd hstep
     replace hih:=Hd hih
     go_upto_region 13 with fail
     go_quiet (fail)
     go_upto_region 17 with fail
     refine wp_region_plan (fun w'=>w'.cell? ⟨G,0,none⟩=some (.int .i64 K)∧w'.cell? ⟨G,2,none⟩=some (.slice va vn vc)) 20 [(0,true),(1,true),(2,true),(3,true),(4,true),(5,true),(6,true),(7,true),(8,true),(9,true),(10,true),(11,true),(12,true),(13,true),(14,true),(15,true),(16,true),(17,true),(18,true),(19,false)] (by kernel_rfl) (by kernel_rfl) ?_
     obtain ⟨W1,hW1⟩:∃ W':World,(wo.drewN nq).drew=W':=⟨_,rfl⟩
     have hS1:W1.cell? ⟨G,0,none⟩=some (.int .i64 K)∧W1.cell? ⟨G,2,none⟩=some (.slice va vn vc):=by rw [← hW1]; exact ⟨z0,z2⟩
     have hg1:wo.grownBy W1 (some tb):=by rw [← hW1]; exact (drewN_grown wo nq _).trans (drewN_grown _ 1 _)
     have hO1:OwnI B W1 (.slice (some ⟨tb,0,none⟩) tn tc) t:=by rw [← hW1]; exact hO.out
     rw [hW1]
     replace hW1:=Hd hW1
     replace hO1:=Hd hO1
     refine pqY 105 hS1 ?_
     refine pqY 106 hS1 ?_
     refine pqY 107 hS1 ?_
     refine pqY 108 hS1 ?_
     refine pqY 109 hS1 ?_
     refine pqY 110 hS1 ?_
     refine pqY 111 hS1 ?_
     refine pqY 112 hS1 ?_
     refine pqY 113 hS1 ?_
     refine pqY 114 hS1 ?_
     refine pqY 115 hS1 ?_
     refine pqY 116 hS1 ?_
     refine pqY 117 hS1 ?_
     refine pqY 118 hS1 ?_
     refine pqY 119 hS1 ?_
     refine pqY 120 hS1 ?_
     refine pqY 121 hS1 ?_
     refine pqY 122 hS1 ?_
     refine pqY 123 hS1 ?_
     refine headC rfl (fun KK hK=>?_)
     go_simp
     have hcall:=hih.out W1 t (hbox.out.kept (hG.trans hg1) hne) (hT.out.grown (hG.trans hg1) hoff.out) hO1.out htlen.out
     rw [← hgs2.out] at hcall
     refine hcall.mono ?_
     rintro e W2 ⟨rfl,hO2,hg2⟩
     have hG2:=(hG.trans hg1).trans hg2
     have hb2:=hbox.out.kept hG2 hne
     refine hK _ _ ⟨hb2.c0,hb2.c2⟩ ?_
     clear hK KK hS1
     refine head0 ?_
     simp only [List.drop_succ_cons,List.drop_zero]
     replace hO2:=Hd hO2
     replace hb2:=Hd hb2
     cases hb:(g s t).1 with
     | true =>
      have hsu:=fillL_succ hft.out
      have hpr:g s t=(true,(g s t).2):=Prod.ext hb rfl
      replace hsu:=Hd hsu
      replace hpr:=Hd hpr
      replace hb:=Hd hb
      go_wp2
      refine NoPanic.normal ?_
      go_wp2
      go_roundw
      case measure=>simp [intOf]; omega
      case rel=>exact ⟨s+1,(g s t).2,by omega,by go_num,by rw [hsu.out]; exact hpr.out,hO2.out,hG2⟩
     | false =>
      have hso:=fillL_stop hsK hft.out hb
      replace hb:=Hd hb
      replace hso:=Hd hso
      go_wp2
      refine NoPanic.normal ?_
      go_wp2
      go_ret
      exact ⟨by rw [hso.out,hb.out]; rfl,by rw [hso.out]; exact hO2.out,hG2⟩
    ·have hgs2:g s t=fillF K R (2*(R+d)+1) T f wm (ik+xn) middle t:=by rw [hgs,if_pos hge,if_neg hmid]
     have hst2:FillOk K R T (n+1) wm (ik+xn):=by rw [if_pos hge] at hstep; exact hstep
     have dg:decide ((2:Int)*(R:Int)≤(n:Int))=true:=decide_eq_true (by omega)
     have dm:((n:Int)==((R+d:Nat):Int))=false:=by rw [beq_eq_false_iff_ne]; omega
     have e5:((n+1:Nat):Int)=(n:Int)+1:=rfl
     have e6:(((ik+xn):Nat):Int)=(ik:Int)+(xn:Int):=Int.natCast_add _ _
     have hih:∀ (W:World) (t:List Int),GBox W G K R (.slice va vn vc) d (.slice (some ⟨tb,0,none⟩) tn tc)→IntsAt W (.slice va vn vc) T→OwnI B W (.slice (some ⟨tb,0,none⟩) tn tc) t→t.length=pw K (2*d+1) →
      Calls Tryz.prog 154 #[.pointer (some ⟨G,0,none⟩),.int .i64 (wm:Int),.int .i64 ((ik:Int)+(xn:Int)),.int .i64 (middle:Int),.int .i64 ((n:Int)+1)] W fun e w' =>
       e=.returned (.bool (fillF K R (2*(R+d)+1) T f wm (ik+xn) middle t).1)∧OwnI B w' (.slice (some ⟨tb,0,none⟩) tn tc) (fillF K R (2*(R+d)+1) T f wm (ik+xn) middle t).2∧W.grownBy w' (some tb):=fun W t a1 a2 a3 a4=>by
      have:=ih.out (n+1) wm (ik+xn) middle W t (by omega) hst2 (by omega) a1 a2 a3 a4
      rw [e5,e6] at this
      exact this
     clear e5 e6
     replace hmid:=Hd hmid
     replace hgs:=Hd hgs
     replace hgs2:=Hd hgs2
     replace hst2:=Hd hst2
     replace hstep:=Hd hstep
     replace hih:=Hd hih
     go_upto_region 13 with fail
     go_quiet (fail)
     go_upto_region 17 with fail
     refine wp_region_plan (fun w'=>w'.cell? ⟨G,0,none⟩=some (.int .i64 K)∧w'.cell? ⟨G,2,none⟩=some (.slice va vn vc)) 20 [(0,true),(1,true),(2,true),(3,true),(4,true),(5,true),(6,true),(7,true),(8,true),(9,true),(10,true),(11,true),(12,true),(13,true),(14,true),(15,true),(16,true),(17,true),(18,true),(19,false)] (by kernel_rfl) (by kernel_rfl) ?_
     obtain ⟨W1,hW1⟩:∃ W':World,(wo.drewN nq).drew=W':=⟨_,rfl⟩
     have hS1:W1.cell? ⟨G,0,none⟩=some (.int .i64 K)∧W1.cell? ⟨G,2,none⟩=some (.slice va vn vc):=by rw [← hW1]; exact ⟨z0,z2⟩
     have hg1:wo.grownBy W1 (some tb):=by rw [← hW1]; exact (drewN_grown wo nq _).trans (drewN_grown _ 1 _)
     have hO1:OwnI B W1 (.slice (some ⟨tb,0,none⟩) tn tc) t:=by rw [← hW1]; exact hO.out
     rw [hW1]
     replace hW1:=Hd hW1
     replace hO1:=Hd hO1
     refine pqY 105 hS1 ?_
     refine pqY 106 hS1 ?_
     refine pqY 107 hS1 ?_
     refine pqY 108 hS1 ?_
     refine pqY 109 hS1 ?_
     refine pqY 110 hS1 ?_
     refine pqY 111 hS1 ?_
     refine pqY 112 hS1 ?_
     refine pqY 113 hS1 ?_
     refine pqY 114 hS1 ?_
     refine pqY 115 hS1 ?_
     refine pqY 116 hS1 ?_
     refine pqY 117 hS1 ?_
     refine pqY 118 hS1 ?_
     refine pqY 119 hS1 ?_
     refine pqY 120 hS1 ?_
     refine pqY 121 hS1 ?_
     refine pqY 122 hS1 ?_
     refine pqY 123 hS1 ?_
     refine headC rfl (fun KK hK=>?_)
     go_simp
     have hcall:=hih.out W1 t (hbox.out.kept (hG.trans hg1) hne) (hT.out.grown (hG.trans hg1) hoff.out) hO1.out htlen.out
     rw [← hgs2.out] at hcall
     refine hcall.mono ?_
     rintro e W2 ⟨rfl,hO2,hg2⟩
     have hG2:=(hG.trans hg1).trans hg2
     have hb2:=hbox.out.kept hG2 hne
     refine hK _ _ ⟨hb2.c0,hb2.c2⟩ ?_
     clear hK KK hS1
     refine head0 ?_
     simp only [List.drop_succ_cons,List.drop_zero]
     replace hO2:=Hd hO2
     replace hb2:=Hd hb2
     cases hb:(g s t).1 with
     | true =>
      have hsu:=fillL_succ hft.out
      have hpr:g s t=(true,(g s t).2):=Prod.ext hb rfl
      replace hsu:=Hd hsu
      replace hpr:=Hd hpr
      replace hb:=Hd hb
      go_wp2
      refine NoPanic.normal ?_
      go_wp2
      go_roundw
      case measure=>simp [intOf]; omega
      case rel=>exact ⟨s+1,(g s t).2,by omega,by go_num,by rw [hsu.out]; exact hpr.out,hO2.out,hG2⟩
     | false =>
      have hso:=fillL_stop hsK hft.out hb
      replace hb:=Hd hb
      replace hso:=Hd hso
      go_wp2
      refine NoPanic.normal ?_
      go_wp2
      go_ret
      exact ⟨by rw [hso.out,hb.out]; rfl,by rw [hso.out]; exact hO2.out,hG2⟩
    ·have hgs2:g s t=fillF K R (2*(R+d)+1) T f wm image s t:=by rw [hgs,if_neg hge,if_pos hmid]
     have hst2:FillOk K R T (n+1) wm image:=by rw [if_neg hge] at hstep; exact hstep
     have dg:decide ((2:Int)*(R:Int)≤(n:Int))=false:=decide_eq_false (by omega)
     have dm:((n:Int)==((R+d:Nat):Int))=true:=by rw [beq_iff_eq]; omega
     have e5:((n+1:Nat):Int)=(n:Int)+1:=rfl
     have e6:((image:Nat):Int)=(image:Int):=rfl
     have hih:∀ (W:World) (t:List Int),GBox W G K R (.slice va vn vc) d (.slice (some ⟨tb,0,none⟩) tn tc)→IntsAt W (.slice va vn vc) T→OwnI B W (.slice (some ⟨tb,0,none⟩) tn tc) t→t.length=pw K (2*d+1) →
      Calls Tryz.prog 154 #[.pointer (some ⟨G,0,none⟩),.int .i64 (wm:Int),.int .i64 ((image:Int)),.int .i64 (s:Int),.int .i64 ((n:Int)+1)] W fun e w' =>
       e=.returned (.bool (fillF K R (2*(R+d)+1) T f wm image s t).1)∧OwnI B w' (.slice (some ⟨tb,0,none⟩) tn tc) (fillF K R (2*(R+d)+1) T f wm image s t).2∧W.grownBy w' (some tb):=fun W t a1 a2 a3 a4=>by
      have:=ih.out (n+1) wm image s W t (by omega) hst2 (by omega) a1 a2 a3 a4
      rw [e5,e6] at this
      exact this
     clear e5 e6
     replace hmid:=Hd hmid
     replace hgs:=Hd hgs
     replace hgs2:=Hd hgs2
     replace hst2:=Hd hst2
     replace hstep:=Hd hstep
     replace hih:=Hd hih
     go_upto_region 17 with fail
     refine wp_region_plan (fun w'=>w'.cell? ⟨G,0,none⟩=some (.int .i64 K)∧w'.cell? ⟨G,2,none⟩=some (.slice va vn vc)) 20 [(0,true),(1,true),(2,true),(3,true),(4,true),(5,true),(6,true),(7,true),(8,true),(9,true),(10,true),(11,true),(12,true),(13,true),(14,true),(15,true),(16,true),(17,true),(18,true),(19,false)] (by kernel_rfl) (by kernel_rfl) ?_
     obtain ⟨W1,hW1⟩:∃ W':World,wo.drew=W':=⟨_,rfl⟩
     have hS1:W1.cell? ⟨G,0,none⟩=some (.int .i64 K)∧W1.cell? ⟨G,2,none⟩=some (.slice va vn vc):=by rw [← hW1]; exact ⟨z0,z2⟩
     have hg1:wo.grownBy W1 (some tb):=by rw [← hW1]; exact drewN_grown wo 1 _
     have hO1:OwnI B W1 (.slice (some ⟨tb,0,none⟩) tn tc) t:=by rw [← hW1]; exact hO.out
     rw [hW1]
     replace hW1:=Hd hW1
     replace hO1:=Hd hO1
     refine pqY 105 hS1 ?_
     refine pqY 106 hS1 ?_
     refine pqY 107 hS1 ?_
     refine pqY 108 hS1 ?_
     refine pqY 109 hS1 ?_
     refine pqY 110 hS1 ?_
     refine pqY 111 hS1 ?_
     refine pqY 112 hS1 ?_
     refine pqY 113 hS1 ?_
     refine pqY 114 hS1 ?_
     refine pqY 115 hS1 ?_
     refine pqY 116 hS1 ?_
     refine pqY 117 hS1 ?_
     refine pqY 118 hS1 ?_
     refine pqY 119 hS1 ?_
     refine pqY 120 hS1 ?_
     refine pqY 121 hS1 ?_
     refine pqY 122 hS1 ?_
     refine pqY 123 hS1 ?_
     refine headC rfl (fun KK hK=>?_)
     go_simp
     have hcall:=hih.out W1 t (hbox.out.kept (hG.trans hg1) hne) (hT.out.grown (hG.trans hg1) hoff.out) hO1.out htlen.out
     rw [← hgs2.out] at hcall
     refine hcall.mono ?_
     rintro e W2 ⟨rfl,hO2,hg2⟩
     have hG2:=(hG.trans hg1).trans hg2
     have hb2:=hbox.out.kept hG2 hne
     refine hK _ _ ⟨hb2.c0,hb2.c2⟩ ?_
     clear hK KK hS1
     refine head0 ?_
     simp only [List.drop_succ_cons,List.drop_zero]
     replace hO2:=Hd hO2
     replace hb2:=Hd hb2
     cases hb:(g s t).1 with
     | true =>
      have hsu:=fillL_succ hft.out
      have hpr:g s t=(true,(g s t).2):=Prod.ext hb rfl
      replace hsu:=Hd hsu
      replace hpr:=Hd hpr
      replace hb:=Hd hb
      go_wp2
      refine NoPanic.normal ?_
      go_wp2
      go_roundw
      case measure=>simp [intOf]; omega
      case rel=>exact ⟨s+1,(g s t).2,by omega,by go_num,by rw [hsu.out]; exact hpr.out,hO2.out,hG2⟩
     | false =>
      have hso:=fillL_stop hsK hft.out hb
      replace hb:=Hd hb
      replace hso:=Hd hso
      go_wp2
      refine NoPanic.normal ?_
      go_wp2
      go_ret
      exact ⟨by rw [hso.out,hb.out]; rfl,by rw [hso.out]; exact hO2.out,hG2⟩
    ·have hgs2:g s t=fillF K R (2*(R+d)+1) T f wm image middle t:=by rw [hgs,if_neg hge,if_neg hmid]
     have hst2:FillOk K R T (n+1) wm image:=by rw [if_neg hge] at hstep; exact hstep
     have dg:decide ((2:Int)*(R:Int)≤(n:Int))=false:=decide_eq_false (by omega)
     have dm:((n:Int)==((R+d:Nat):Int))=false:=by rw [beq_eq_false_iff_ne]; omega
     have e5:((n+1:Nat):Int)=(n:Int)+1:=rfl
     have e6:((image:Nat):Int)=(image:Int):=rfl
     have hih:∀ (W:World) (t:List Int),GBox W G K R (.slice va vn vc) d (.slice (some ⟨tb,0,none⟩) tn tc)→IntsAt W (.slice va vn vc) T→OwnI B W (.slice (some ⟨tb,0,none⟩) tn tc) t→t.length=pw K (2*d+1) →
      Calls Tryz.prog 154 #[.pointer (some ⟨G,0,none⟩),.int .i64 (wm:Int),.int .i64 ((image:Int)),.int .i64 (middle:Int),.int .i64 ((n:Int)+1)] W fun e w' =>
       e=.returned (.bool (fillF K R (2*(R+d)+1) T f wm image middle t).1)∧OwnI B w' (.slice (some ⟨tb,0,none⟩) tn tc) (fillF K R (2*(R+d)+1) T f wm image middle t).2∧W.grownBy w' (some tb):=fun W t a1 a2 a3 a4=>by
      have:=ih.out (n+1) wm image middle W t (by omega) hst2 (by omega) a1 a2 a3 a4
      rw [e5,e6] at this
      exact this
     clear e5 e6
     replace hmid:=Hd hmid
     replace hgs:=Hd hgs
     replace hgs2:=Hd hgs2
     replace hst2:=Hd hst2
     replace hstep:=Hd hstep
     replace hih:=Hd hih
     go_upto_region 17 with fail
     refine wp_region_plan (fun w'=>w'.cell? ⟨G,0,none⟩=some (.int .i64 K)∧w'.cell? ⟨G,2,none⟩=some (.slice va vn vc)) 20 [(0,true),(1,true),(2,true),(3,true),(4,true),(5,true),(6,true),(7,true),(8,true),(9,true),(10,true),(11,true),(12,true),(13,true),(14,true),(15,true),(16,true),(17,true),(18,true),(19,false)] (by kernel_rfl) (by kernel_rfl) ?_
     obtain ⟨W1,hW1⟩:∃ W':World,wo.drew=W':=⟨_,rfl⟩
     have hS1:W1.cell? ⟨G,0,none⟩=some (.int .i64 K)∧W1.cell? ⟨G,2,none⟩=some (.slice va vn vc):=by rw [← hW1]; exact ⟨z0,z2⟩
     have hg1:wo.grownBy W1 (some tb):=by rw [← hW1]; exact drewN_grown wo 1 _
     have hO1:OwnI B W1 (.slice (some ⟨tb,0,none⟩) tn tc) t:=by rw [← hW1]; exact hO.out
     rw [hW1]
     replace hW1:=Hd hW1
     replace hO1:=Hd hO1
     refine pqY 105 hS1 ?_
     refine pqY 106 hS1 ?_
     refine pqY 107 hS1 ?_
     refine pqY 108 hS1 ?_
     refine pqY 109 hS1 ?_
     refine pqY 110 hS1 ?_
     refine pqY 111 hS1 ?_
     refine pqY 112 hS1 ?_
     refine pqY 113 hS1 ?_
     refine pqY 114 hS1 ?_
     refine pqY 115 hS1 ?_
     refine pqY 116 hS1 ?_
     refine pqY 117 hS1 ?_
     refine pqY 118 hS1 ?_
     refine pqY 119 hS1 ?_
     refine pqY 120 hS1 ?_
     refine pqY 121 hS1 ?_
     refine pqY 122 hS1 ?_
     refine pqY 123 hS1 ?_
     refine headC rfl (fun KK hK=>?_)
     go_simp
     have hcall:=hih.out W1 t (hbox.out.kept (hG.trans hg1) hne) (hT.out.grown (hG.trans hg1) hoff.out) hO1.out htlen.out
     rw [← hgs2.out] at hcall
     refine hcall.mono ?_
     rintro e W2 ⟨rfl,hO2,hg2⟩
     have hG2:=(hG.trans hg1).trans hg2
     have hb2:=hbox.out.kept hG2 hne
     refine hK _ _ ⟨hb2.c0,hb2.c2⟩ ?_
     clear hK KK hS1
     refine head0 ?_
     simp only [List.drop_succ_cons,List.drop_zero]
     replace hO2:=Hd hO2
     replace hb2:=Hd hb2
     cases hb:(g s t).1 with
     | true =>
      have hsu:=fillL_succ hft.out
      have hpr:g s t=(true,(g s t).2):=Prod.ext hb rfl
      replace hsu:=Hd hsu
      replace hpr:=Hd hpr
      replace hb:=Hd hb
      go_wp2
      refine NoPanic.normal ?_
      go_wp2
      go_roundw
      case measure=>simp [intOf]; omega
      case rel=>exact ⟨s+1,(g s t).2,by omega,by go_num,by rw [hsu.out]; exact hpr.out,hO2.out,hG2⟩
     | false =>
      have hso:=fillL_stop hsK hft.out hb
      replace hb:=Hd hb
      replace hso:=Hd hso
      go_wp2
      refine NoPanic.normal ?_
      go_wp2
      go_ret
      exact ⟨by rw [hso.out,hb.out]; rfl,by rw [hso.out]; exact hO2.out,hG2⟩
   ·obtain rfl:s=K:=by omega
    have ds:decide ((s:Int)<(s:Int))=false:=decide_eq_false (by omega)
    replace hft:=Hd hft
    replace hO:=Hd hO
    go_wp2
    go_ret
    exact ⟨by rw [hft.out]; rfl,by rw [hft.out]; exact hO.out,hG⟩
end Go.Proofs.YtncpnaoabkjegaaGreatDoor
namespace Go.Proofs.YtncpnaoabkjegaaGreatDoor
open Go.RowKit
set_option maxRecDepth 100000
set_option maxHeartbeats 8000000
def sInverse:ByteArray:=⟨#[105,110,118,101,114,115,101]⟩
theorem inverse_wrong (r:Nat→Addr) (at_ n:Int) (w:World) (hg:Glob r w) (h1:1≤n) (h2:n≤11) :
 Calls Tryz.prog 153 #[.int .i64 at_,.int .i64 n] w (Ret1 (fun v w'=>ErrIs r w' (fresh sInverse at_ n) v) w):=by
 go_enter Tryz.func153,Tryz.ntmps153
 go_wp2_with fail
 refine (new_any r _ at_ n w hg h1 h2).mono ?_
 rintro e w' ⟨v,rfl,hb,he⟩
 go_wp2
 go_ret
 exact ⟨_,rfl,hb,he⟩
theorem OwnI.open {B:Nat} {w:World} {v:Value} {xs:List Int} (h:OwnI B w v xs) (hne:xs≠[]):∃ g n c,v=.slice (some ⟨g,0,none⟩) n c∧B≤g∧g<w.heap.size:=by
 rcases h.2 with ⟨_,hn⟩ | ⟨g,cap,cur,e,hb,hg,_⟩
 ·exact absurd (List.length_eq_zero_iff.1 hn) hne
 ·exact ⟨g,_,_,e,hb,(Array.getElem?_eq_some_iff.1 hg).1⟩
def FindPost (r:Nat→Addr) (w:World) (K R:Nat) (T:List Int) (x y:Value) (w':World):Prop :=
 (NotOne K R T∧x=zR∧ErrIs r w' (fresh sInverse 0 9) y)∨(¬ NotOne K R T∧findP K R T=none∧x=zR∧ErrIs r w' (fresh sInverse 0 4) y) ∨
   (¬ NotOne K R T∧∃ d S a n c,findP K R T=some (d,S)∧y=.nilIface∧x=.agg #[.int .i64 K,.int .i64 ((d:Nat):Int),.slice a n c]∧OwnI w.heap.size w' (.slice a n c) S)
theorem find_bad (r:Nat→Addr) (k R:Int) (va:Option Addr) (vn vc:Nat) (T:List Int) (t:Int×List (ByteArray×Int)) (w:World) (hg:Glob r w) (h:IntsAt w (.slice va vn vc) T) (hc:smallP k R T=some t) :
 Calls Tryz.prog 72 #[.agg #[.int .i64 k,.int .i64 R,.slice va vn vc]] w (Ret2 (fun x y w'=>x=zR∧ErrIs r w' (under sInverse 0 (under sInject 0 (under sPairs 0 (some t)))) y) w):=by
 have b0:=Below.step (belowAlloc w (.cells #[.int .i64 k,.int .i64 R,.slice va vn vc] 24)) (belowAlloc _ (.cells #[.int .i64 0,.int .i64 0,.slice none 0 0] 24))
 have qz:Box3 ((w.alloc (.cells #[.int .i64 k,.int .i64 R,.slice va vn vc] 24)).alloc (.cells #[.int .i64 0,.int .i64 0,.slice none 0 0] 24)) (w.heap.size+1) (.int .i64 0) (.int .i64 0) (.slice none 0 0):=by simp [Box3,go_sem]
 replace hg:=Hd (hg.below b0)
 replace h:=Hd (h.below b0)
 replace hc:=Hd hc
 go_enter Tryz.func72,Tryz.ntmps72
 go_wp2_with fail
 refine (one_bad r k R va vn vc T t _ hg.out h.out hc.out).mono ?_
 rintro e w1 ⟨_,_,_,y,rfl,b1,rfl,rfl,rfl,hy⟩
 have hy':=hy
 obtain ⟨T2,a2,rfl⟩:∃ T a,y=.iface T (.pointer (some a)):=by
  unfold under at hy'
  exact ErrIs.some_shape hy'
 have b2:=Below.step b1 (Below.step (belowAlloc w1 (.cells #[.int .i64 0,.slice none 0 0,.slice none 0 0,.slice none 0 0] 36)) (belowAlloc _ (.cells #[.int .i64 0,.slice none 0 0,.slice none 0 0,.slice none 0 0] 36)))
 have hy2:=hy.below (Below.step (belowAlloc w1 (.cells #[.int .i64 0,.slice none 0 0,.slice none 0 0,.slice none 0 0] 36)) (belowAlloc _ (.cells #[.int .i64 0,.slice none 0 0,.slice none 0 0,.slice none 0 0] 36)))
 replace hy:=Hd hy
 replace hy2:=Hd hy2
 go_wp2_with fail
 refine (under_any r _ _ _ _ _ hy2.out).mono ?_
 rintro e w3 ⟨u,rfl,b3,hu⟩
 have hu':=hu
 obtain ⟨T3,a3,rfl⟩:∃ T a,u=.iface T (.pointer (some a)):=by
  unfold under at hu'
  exact ErrIs.some_shape hu'
 have bE:=Below.step b0 (Below.step b2 b3)
 obtain ⟨⟨y0,y1,y2⟩,-,-,-⟩:=qz.below (Below.step b2 b3)
 obtain ⟨-,f0,f1,f2⟩:=qz.below (Below.step b2 b3)
 replace hu:=Hd hu
 clear hu'
 go_wp2
 rw [setCell_self3 y0 y1 y2]
 exact bodyPost_ret (v:=.tuple #[zR,.iface T3 (.pointer (some a3))]) (by simp [results,Tryz.results72,go_sem,y0,y1,y2]) rfl ⟨_,_,rfl,bE,rfl,hu.out⟩
theorem findF_succ (K R:Nat) (T:List Int) (m e:Nat):findF K R T (m+1) e=if (tryF K R T e).1=true then some (e,(tryF K R T e).2) else findF K R T m (e+1):=rfl
theorem minus_step (j n:Nat) (h:j<n):(List.replicate j (-1:Int)++List.replicate (n-j) 0).set j (-1)=List.replicate (j+1) (-1)++List.replicate (n-(j+1)) 0:=by
 rw [show n-j=(n-(j+1))+1 by omega,List.replicate_succ,List.set_append_right _ _ (by simp),List.length_replicate,Nat.sub_self,List.set_cons_zero,List.replicate_succ',List.append_assoc]
 rfl
theorem find_ok (r:Nat→Addr) (K R:Nat) (va:Option Addr) (vn vc:Nat) (T:List Int) (w:World) (hg:Glob r w) (h:IntsAt w (.slice va vn vc) T) (hr:RuleOk K R T) (hl:T.length≤256) :
 Calls Tryz.prog 72 #[.agg #[.int .i64 K,.int .i64 R,.slice va vn vc]] w (Ret2 (FindPost r w K R T) w):=by
 have b0:=Below.step (belowAlloc w (.cells #[.int .i64 K,.int .i64 R,.slice va vn vc] 24)) (belowAlloc _ (.cells #[.int .i64 0,.int .i64 0,.slice none 0 0] 24))
 have q:=(show Box3 ((w.alloc (.cells #[.int .i64 K,.int .i64 R,.slice va vn vc] 24)).alloc (.cells #[.int .i64 0,.int .i64 0,.slice none 0 0] 24)) w.heap.size (.int .i64 K) (.int .i64 R) (.slice va vn vc) by simp [Box3,go_sem])
 have qz:=(show Box3 ((w.alloc (.cells #[.int .i64 K,.int .i64 R,.slice va vn vc] 24)).alloc (.cells #[.int .i64 0,.int .i64 0,.slice none 0 0] 24)) (w.heap.size+1) (.int .i64 0) (.int .i64 0) (.slice none 0 0) by simp [Box3,go_sem])
 have hk1:=hr.k1
 have hk4:=hr.k4
 have hblk0:=fun i hi=>h.blk i hi
 have hs0:((w.alloc (.cells #[.int .i64 K,.int .i64 R,.slice va vn vc] 24)).alloc (.cells #[.int .i64 0,.int .i64 0,.slice none 0 0] 24)).heap.size=w.heap.size+2:=by simp
 replace hg:=Hd (hg.below b0)
 replace h:=Hd (h.below b0)
 replace hr:=Hd hr
 replace hl:=Hd hl
 replace hblk0:=Hd hblk0
 obtain ⟨W0,hW0⟩:∃ W0:World,(w.alloc (.cells #[.int .i64 K,.int .i64 R,.slice va vn vc] 24)).alloc (.cells #[.int .i64 0,.int .i64 0,.slice none 0 0] 24)=W0:=⟨_,rfl⟩
 rw [hW0] at b0 q qz hs0 hg h
 go_enter Tryz.func72,Tryz.ntmps72
 obtain ⟨⟨z0,z1,z2⟩,-,-,-⟩:=id q
 go_upto_region 1 with fail
 replace hW0:=Hd hW0
 go_wp2_with fail
 refine (one_ok r K R va vn vc T _ hg.out h.out hr.out hl.out).mono ?_
 rintro e w1 ⟨_,_,_,_,rfl,b1,hp⟩
 obtain ⟨rfl,Y,rfl,hY,a1,n1,c1,a2,n2,c2,a3,n3,c3,a4,n4,c4,a5,n5,c5,a6,n6,c6,rfl,rfl⟩:=hp.ans
 have b2:=Below.step b1 (Below.step (belowAlloc w1 (.cells #[.int .i64 0,.slice a1 n1 c1,.slice a2 n2 c2,.slice a3 n3 c3] 36)) (belowAlloc _ (.cells #[.int .i64 0,.slice a4 n4 c4,.slice a5 n5 c5,.slice a6 n6 c6] 36)))
 obtain ⟨w2,hw2⟩:∃ W:World,(w1.alloc (.cells #[.int .i64 0,.slice a1 n1 c1,.slice a2 n2 c2,.slice a3 n3 c3] 36)).alloc (.cells #[.int .i64 0,.slice a4 n4 c4,.slice a5 n5 c5,.slice a6 n6 c6] 36)=W:=⟨_,rfl⟩
 rw [hw2] at b2
 have q2:=q.below b2
 have qz2:=qz.below b2
 have hg2:=hg.out.below b2
 have h2:=h.out.below b2
 have bw2:=Below.step b0 b2
 have hs2:w.heap.size+2≤w2.heap.size:=by rw [← hs0]; exact b2.size
 replace hg2:=Hd hg2
 replace h2:=Hd h2
 clear hp z0 z1 z2
 cases Y with
 | false =>
  have hno:NotOne K R T:=Classical.byContradiction fun hc=>by have:=hY.2 hc; cases this
  go_upto_region 4 with fail
  replace hw2:=Hd hw2
  go_wp2_with fail
  refine (inverse_wrong r _ _ _ hg2.out (by decide) (by decide)).mono ?_
  rintro e w3 ⟨u,rfl,b3,hu⟩
  obtain ⟨T3,a3,rfl⟩:=ErrIs.some_shape hu
  obtain ⟨⟨y0,y1,y2⟩,f0,f1,f2⟩:=qz2.below b3
  have bE:=Below.step bw2 b3
  replace hu:=Hd hu
  replace hY:=Hd hY
  go_wp2
  rw [setCell_self3 y0 y1 y2]
  exact bodyPost_ret (v:=.tuple #[zR,.iface T3 (.pointer (some a3))]) (by simp [results,Tryz.results72,go_sem,y0,y1,y2]) rfl ⟨_,_,rfl,bE,.inl ⟨hno,rfl,hu.out⟩⟩
 | true =>
  have hone:¬ NotOne K R T:=hY.1 rfl
  replace hone:=Hd hone
  clear hY
  go_upto_region 4 with fail
  replace hw2:=Hd hw2
  go_wp2_with fail
  go_loopw [29] (fun iv wr=>∃ e:Nat,e≤4∧iv=.int .i64 e∧findP K R T=findF K R T (4-e) e∧Below w2.heap.size w2 wr) (fun iv _=>4-(intOf iv).toNat)
  case atStart=>exact ⟨0,by omega,rfl,rfl,Below.refl _ _⟩
  case round =>
   obtain ⟨e,he,rfl,hfp,hB⟩:=hrel
   obtain ⟨wo,rfl⟩:∃ wo:World,wo=wr:=⟨_,rfl⟩
   by_cases he4:e<4
   ·have de:decide ((e:Int)<4)=true:=decide_eq_true (by omega)
    obtain ⟨⟨z0,z1,z2⟩,-,-,-⟩:=q2.below hB
    replace hfp:=Hd hfp
    go_wp2_with fail
    refine (size_ok K e wo hk1 hk4 (by omega)).mono ?_
    rintro e' w' ⟨rfl,rfl⟩
    obtain ⟨n,hn⟩:∃ n,pw K (2*e+1)=n:=⟨_,rfl⟩
    have hn1:1≤n:=by rw [← hn]; exact pw_pos _ hk1
    have hnb:n≤16384:=by rw [← hn]; exact pw_le hk1 hk4 (by omega)
    rw [hn]
    replace hn:=Hd hn
    go_upto_region 10 with fail
    refine wp_region_plan (fun w'=>w'.cell? ⟨w.heap.size,0,none⟩=some (.int .i64 K)∧w'.cell? ⟨w.heap.size,1,none⟩=some (.int .i64 R)∧w'.cell? ⟨w.heap.size,2,none⟩=some (.slice va vn vc)) 6 [(0,true),(1,true),(2,true),(3,false),(4,true),(5,false)] (by kernel_rfl) (by kernel_rfl) ?_
    obtain ⟨W1,hW1⟩:∃ W':World,wo.drew=W':=⟨_,rfl⟩
    have bd:Below wo.heap.size wo W1:=by rw [← hW1]; exact (Below.refl _ _).drew
    have bB1:=Below.step hB bd
    rw [hW1]
    replace hW1:=Hd hW1
    have hS1:=(q2.below bB1).1
    refine pqY 39 hS1 ?_
    refine pqY 40 hS1 ?_
    refine pqY 41 hS1 ?_
    obtain ⟨tv,w3,mk,ho3,b3⟩:=run_makeI (n:Int) n W1 rfl (by omega)
    have bB3:=Below.step bB1 b3
    have hS3:=(q2.below bB3).1
    refine headC rfl (fun KK hK=>?_)
    go_simp
    refine hK _ _ hS3 ?_
    clear hK KK mk
    obtain ⟨tb,tn,tc,rfl,htb1,htb2⟩:=ho3.open (by intro e; have:=congrArg List.length e; simp at this; omega)
    refine pqY 43 hS3 ?_
    have ba:=belowAlloc w3 (.cells #[.int .i64 K,.int .i64 R,.slice va vn vc,.int .i64 e,.slice (some ⟨tb,0,none⟩) tn tc] 209)
    have bB4:=Below.step bB3 ba
    have hS4:=(q2.below bB4).1
    have hbox:GBox (w3.alloc (.cells #[.int .i64 K,.int .i64 R,.slice va vn vc,.int .i64 e,.slice (some ⟨tb,0,none⟩) tn tc] 209)) w3.heap.size K R (.slice va vn vc) e (.slice (some ⟨tb,0,none⟩) tn tc):=by
     refine ⟨?_,?_,?_,?_,?_⟩<;>simp [go_sem]
    have ho4:=ho3.below ba
    obtain ⟨W4,hW4⟩:∃ W':World,w3.alloc (.cells #[.int .i64 K,.int .i64 R,.slice va vn vc,.int .i64 e,.slice (some ⟨tb,0,none⟩) tn tc] 209)=W':=⟨_,rfl⟩
    rw [hW4] at ba bB4 hS4 hbox ho4
    obtain ⟨G,hG⟩:∃ G,w3.heap.size=G:=⟨_,rfl⟩
    rw [hG] at hbox htb2
    have hGt:G≠tb:=by omega
    refine headC rfl (fun KK hK=>?_)
    go_simp
    refine hK _ _ hS4 ?_
    clear hK KK hS1 hS3 hS4 z0 z1 z2
    refine head0 ?_
    simp only [List.drop_succ_cons,List.drop_zero]
    replace hW4:=Hd hW4
    have sB1:=bB1.size
    have hoff:∀ i,i<T.length→(valAt (.slice va vn vc) i).block≠tb:=fun i hi=>by
     have:=hblk0.out i hi
     omega
    have hT4:=h2.out.below bB4
    have q4:=q2.below bB4
    have lz:=ho4.at.len
    rw [List.length_replicate] at lz
    have z4:=hbox.c4
    replace hbox:=Hd hbox
    replace ho3:=Hd ho3
    replace ho4:=Hd ho4
    replace hT4:=Hd hT4
    replace hoff:=Hd hoff
    replace hG:=Hd hG
    go_wp2
    refine NoPanic.normal ?_
    go_wp2_with fail
    clear z4
    go_loopw [50] (fun jv wr=>∃ j:Nat,j≤n∧jv=.int .i64 j∧OwnI W1.heap.size wr (.slice (some ⟨tb,0,none⟩) tn tc) (List.replicate j (-1)++List.replicate (n-j) 0)∧W4.grownBy wr (some tb)) (fun jv _=>n-(intOf jv).toNat)
    case atStart=>exact ⟨0,Nat.zero_le _,rfl,by simpa using ho4.out,World.grownBy.refl _ _⟩
    case round =>
     obtain ⟨j,hj,rfl,hO,hGr⟩:=hrel
     obtain ⟨wi,rfl⟩:∃ wo:World,wo=wr:=⟨_,rfl⟩
     have hb4:=(hbox.out.kept hGr hGt)
     have z4:=hb4.c4
     by_cases hjn:j<n
     ·have dj:decide ((j:Int)<(n:Int))=true:=decide_eq_true (by omega)
      have hOl:(List.replicate j (-1:Int)++List.replicate (n-j) 0).length=n:=by simp; omega
      have iO:=fun w'=>hO.at.idx j (by rw [hOl]; exact hjn) w'
      have fO:=hO.frz j (by rw [hOl]; exact hjn)
      obtain ⟨c0,cO⟩:∃ z,wi.cell? (valAt (.slice (some ⟨tb,0,none⟩) tn tc) j)=some z:=⟨_,hO.at.cell j (by rw [hOl]; exact hjn)⟩
      have hset:=hO.set j (by rw [hOl]; exact hjn) (-1)
      rw [minus_step j n hjn] at hset
      have hgr:=setCell_grown (w:=wi) (v:=.slice (some ⟨tb,0,none⟩) tn tc) (i:=j) rfl (.int .i64 (-1))
      have hgr2:=hGr.trans hgr
      obtain ⟨p,hp⟩:∃ p,valAt (.slice (some ⟨tb,0,none⟩) tn tc) j=p:=⟨_,rfl⟩
      rw [hp] at iO fO cO hset hgr2
      replace hset:=Hd hset
      replace hgr2:=Hd hgr2
      replace hO:=Hd hO
      replace hb4:=Hd hb4
      replace hp:=Hd hp
      replace hOl:=Hd hOl
      clear hgr
      go_wp2
      go_roundw
      case measure=>simp [intOf]; omega
      case rel=>exact ⟨j+1,by omega,by go_num,hset.out,hgr2.out⟩
     ·obtain rfl:j=n:=by omega
      have dj:decide ((j:Int)<(j:Int))=false:=decide_eq_false (by omega)
      rw [Nat.sub_self,List.replicate_zero,List.append_nil] at hO
      have hfill:=fill_any K R e G tb tn tc W1.heap.size va vn vc T hr.out hl.out (by omega) hGt hoff.out (2*(R+e)+1) 0 0 0 0 wi _ (by omega) (FillOk.zero hr.out) (by omega) hb4 (hT4.out.grown hGr hoff.out) hO (by rw [List.length_replicate,← hn.out])
      rw [← hn.out,show fillF K R (2*(R+e)+1) T (2*(R+e)+1) 0 0 0 (List.replicate (pw K (2*e+1)) (-1))=tryF K R T e from rfl,show ((0:Nat):Int)=0 from rfl] at hfill
      obtain ⟨X,hX⟩:∃ X,tryF K R T e=X:=⟨_,rfl⟩
      rw [hX] at hfill
      have hfs:findF K R T (4-e) e=if X.1=true then some (e,X.2) else findF K R T (4-(e+1)) (e+1):=by
       rw [show 4-e=(4-(e+1))+1 by omega,findF_succ,hX]
      have sW4:=bB4.size
      replace hfill:=Hd hfill
      replace hO:=Hd hO
      replace hb4:=Hd hb4
      replace hfs:=Hd hfs
      replace hX:=Hd hX
      go_wp2_with fail
      refine hfill.out.mono ?_
      rintro e' w5 ⟨rfl,hO5,hg5⟩
      have hG5:=hGr.trans hg5
      have b5:Below w2.heap.size w2 w5:=bB4.grown hG5 sW4 (fun k hk=>by cases hk; omega)
      have hb5:=hbox.out.kept hG5 hGt
      obtain ⟨X1,X2⟩:=X
      have qE:=q2.below b5
      have qzE:=qz2.below b5
      cases X1 with
      | false =>
       replace hO5:=Hd hO5
       replace hb5:=Hd hb5
       clear z4
       go_wp2
       go_roundw
       case measure=>simp [intOf]; omega
       case rel=>exact ⟨e+1,by omega,by go_num,by rw [hfp.out,hfs.out]; rfl,b5⟩
      | true =>
       clear z4
       have hO5':=Hd hO5
       clear hO5
       have hb54:=hb5.c4
       replace hb5:=Hd hb5
       go_upto_region 17 with fail
       refine wp_region_plan (fun w'=>w'.cell? ⟨w.heap.size,0,none⟩=some (.int .i64 K)∧w'.cell? ⟨G,4,none⟩=some (.slice (some ⟨tb,0,none⟩) tn tc)) 8 [(0,true),(1,true),(2,true),(3,true),(4,true),(5,true),(6,true),(7,true)] (by kernel_rfl) (by kernel_rfl) ?_
       obtain ⟨W6,hW6⟩:∃ W':World,w5.drew=W':=⟨_,rfl⟩
       have bd6:Below w5.heap.size w5 W6:=by rw [← hW6]; exact (Below.refl _ _).drew
       have hS6:W6.cell? ⟨w.heap.size,0,none⟩=some (.int .i64 K)∧W6.cell? ⟨G,4,none⟩=some (.slice (some ⟨tb,0,none⟩) tn tc):=by rw [← hW6]; exact ⟨qE.1.1,hb54⟩
       have hO6:OwnI W1.heap.size W6 (.slice (some ⟨tb,0,none⟩) tn tc) X2:=by rw [← hW6]; exact hO5'.out
       rw [hW6]
       replace hW6:=Hd hW6
       have b6:=Below.step b5 bd6
       obtain ⟨⟨y0,y1,y2⟩,f0,f1,f2⟩:=qz2.below b6
       have bE:=Below.step bw2 b6
       refine pqY 62 hS6 ?_
       refine pqY 63 hS6 ?_
       refine pqY 64 hS6 ?_
       refine pqY 65 hS6 ?_
       refine pqY 66 hS6 ?_
       refine pqY 67 hS6 ?_
       refine pqY 68 hS6 ?_
       refine pqY 69 hS6 ?_
       refine head0 ?_
       simp only [List.drop_succ_cons,List.drop_zero]
       clear hS6 hb54
       replace hO6:=Hd hO6
       go_wp2
       refine NoPanic.normal ?_
       go_wp2
       refine bodyPost_ret (v:=.tuple #[.agg #[.int .i64 K,.int .i64 e,.slice (some ⟨tb,0,none⟩) tn tc],.nilIface]) (by simp [results,Tryz.results72,go_sem,y0,y1,y2]) rfl ⟨_,_,rfl,below_set3 bE (Nat.le_succ _) _ _ _,.inr (.inr ⟨hone.out,e,X2,_,_,_,by rw [hfp.out,hfs.out]; rfl,rfl,rfl,(hO6.out.set3 (b:=w.heap.size+1) (by omega) _ _ _).mono (by omega)⟩)⟩
   ·obtain rfl:e=4:=by omega
    have de:decide (((4:Nat):Int)<4)=false:=by decide
    have hnone:findP K R T=none:=by rw [hfp]; rfl
    replace hfp:=Hd hfp
    replace hnone:=Hd hnone
    go_wp2_with fail
    refine (inverse_wrong r _ _ _ (hg2.out.below hB) (by decide) (by decide)).mono ?_
    rintro e' w3 ⟨u,rfl,b3,hu⟩
    obtain ⟨T3,a3,rfl⟩:=ErrIs.some_shape hu
    obtain ⟨⟨y0,y1,y2⟩,f0,f1,f2⟩:=qz2.below (Below.step hB b3)
    have bE:=Below.step bw2 (Below.step hB b3)
    replace hu:=Hd hu
    go_wp2
    rw [setCell_self3 y0 y1 y2]
    exact bodyPost_ret (v:=.tuple #[zR,.iface T3 (.pointer (some a3))]) (by simp [results,Tryz.results72,go_sem,y0,y1,y2]) rfl ⟨_,_,rfl,bE,.inr (.inl ⟨hone.out,hnone.out,rfl,hu.out⟩)⟩
noncomputable def invE (k R:Int) (T:List Int):PErr:=open Classical in
 match smallP k R T with
 | some t=>under sInverse 0 (under sInject 0 (under sPairs 0 (some t)))
 | none=>if NotOne k.toNat R.toNat T then fresh sInverse 0 9 else match findP k.toNat R.toNat T with
  | none=>fresh sInverse 0 4
  | some _=>none
def InvIs (B:Nat) (w:World) (k R:Int) (T:List Int) (x:Value):Prop :=
 (invE k R T=none→∃ d S a n c,findP k.toNat R.toNat T=some (d,S)∧x=.agg #[.int .i64 k,.int .i64 ((d:Nat):Int),.slice a n c]∧OwnI B w (.slice a n c) S)∧(invE k R T≠none→x=zR)
theorem invE_bad {k R:Int} {T:List Int} {t:Int×List (ByteArray×Int)} (h:smallP k R T=some t):invE k R T=under sInverse 0 (under sInject 0 (under sPairs 0 (some t))):=by unfold invE; rw [h]
theorem smallP_of {k R:Int} {T:List Int} (h:smallP k R T=none):∃ K Q:Nat,k=K∧R=Q∧RuleOk K Q T∧T.length≤256:=by
 obtain ⟨hck,hl⟩:=smallP_none h
 obtain ⟨K,Q,h1,h2,hr⟩:=checkP_none hck
 exact ⟨K,Q,h1,h2,hr,hl⟩
theorem invE_ok {K Q:Nat} {T:List Int} (hr:RuleOk K Q T) (hl:T.length≤256):(NotOne K Q T→invE K Q T=fresh sInverse 0 9)∧(¬ NotOne K Q T→findP K Q T=none→invE K Q T=fresh sInverse 0 4)∧(¬ NotOne K Q T→findP K Q T≠none→invE K Q T=none):=by
 have hsm:smallP K Q T=none:=by rw [smallP_ok hr,if_neg (by omega)]
 refine ⟨fun h=>?_,fun h hf=>?_,fun h hf=>?_⟩
 ·unfold invE; rw [hsm]; simp only [Int.toNat_natCast]; rw [if_pos h]
 ·unfold invE; rw [hsm]; simp only [Int.toNat_natCast]; rw [if_neg h,hf]
 ·unfold invE; rw [hsm]; simp only [Int.toNat_natCast]; rw [if_neg h]
  cases hq:findP K Q T with
  | none=>exact absurd hq hf
  | some _=>rfl
theorem find_any (r:Nat→Addr) (k R:Int) (va:Option Addr) (vn vc:Nat) (T:List Int) (w:World) (hg:Glob r w) (h:IntsAt w (.slice va vn vc) T) :
 Calls Tryz.prog 72 #[.agg #[.int .i64 k,.int .i64 R,.slice va vn vc]] w (Ret2 (fun x y w'=>ErrIs r w' (invE k R T) y∧InvIs w.heap.size w' k R T x) w):=by
 cases hc:smallP k R T with
 | some t =>
  have e:=invE_bad hc
  refine (find_bad r k R va vn vc T t w hg h hc).mono ?_
  rintro e1 w' ⟨x,y,he,hb,hx,hy⟩
  exact ⟨x,y,he,hb,by rw [e]; exact hy,fun q=>(by rw [e] at q; cases q),fun _=>hx⟩
 | none =>
  obtain ⟨K,Q,rfl,rfl,hr,hl⟩:=smallP_of hc
  obtain ⟨i1,i2,i3⟩:=invE_ok hr hl
  refine (find_ok r K Q va vn vc T w hg h hr hl).mono ?_
  rintro e1 w' ⟨x,y,he,hb,hp⟩
  refine ⟨x,y,he,hb,?_⟩
  rcases hp with ⟨h1,hx,hy⟩ | ⟨h1,h2,hx,hy⟩ | ⟨h1,d,S,a,n,c,hf,hy,hx,ho⟩
  ·rw [i1 h1]; exact ⟨hy,fun q=>(by rw [i1 h1] at q; cases q),fun _=>hx⟩
  ·rw [i2 h1 h2]; exact ⟨hy,fun q=>(by rw [i2 h1 h2] at q; cases q),fun _=>hx⟩
  ·have e:=i3 h1 (by rw [hf]; simp)
   rw [e]
   exact ⟨hy,fun _=>⟨d,S,a,n,c,by rw [Int.toNat_natCast,Int.toNat_natCast]; exact hf,hx,ho⟩,fun q=>absurd e q⟩
theorem InvIs.shape {B:Nat} {w:World} {k R:Int} {T:List Int} {x:Value} (h:InvIs B w k R T x):∃ k' q a n c,x=.agg #[.int .i64 k',.int .i64 q,.slice a n c]:=by
 by_cases e:invE k R T=none
 ·obtain ⟨d,S,a,n,c,_,hx,_⟩:=h.1 e
  exact ⟨_,_,_,_,_,hx⟩
 ·exact ⟨0,0,none,0,0,h.2 e⟩
theorem InvIs.set3 {B b:Nat} {w:World} {k R:Int} {T:List Int} {x:Value} (h:InvIs B w k R T x) (hb:b<B) (x0 x1 x2:Value):InvIs B (((w.setCell ⟨b,0,none⟩ x0).setCell ⟨b,1,none⟩ x1).setCell ⟨b,2,none⟩ x2) k R T x :=
 ⟨fun e=>by
   obtain ⟨d,S,a,n,c,hf,hx,ho⟩:=h.1 e
   exact ⟨d,S,a,n,c,hf,hx,ho.set3 hb _ _ _⟩,h.2⟩
theorem InvIs.mono {B B':Nat} {w:World} {k R:Int} {T:List Int} {x:Value} (h:InvIs B w k R T x) (hb:B'≤B):InvIs B' w k R T x :=
 ⟨fun e=>by
   obtain ⟨d,S,a,n,c,hf,hx,ho⟩:=h.1 e
   exact ⟨d,S,a,n,c,hf,hx,ho.mono hb⟩,h.2⟩
theorem ErrIs.open2 {r:Nat→Addr} {w:World} {t:PErr} {v:Value} (h:ErrIs r w t v):v=.nilIface∨∃ T a,v=.iface T (.pointer (some a)):=by
 cases t with
 | none=>exact .inl h.none_eq
 | some t=>exact .inr h.some_shape
noncomputable def radN (k R:Int) (T:List Int):Int:=match invE k R T with
 | some _=>0
 | none=>match findP k.toNat R.toNat T with
  | some (d,_)=>d
  | none=>0
theorem inv_radius (r:Nat→Addr) (k R:Int) (va:Option Addr) (vn vc:Nat) (T:List Int) (w:World) (hg:Glob r w) (h:IntsAt w (.slice va vn vc) T) :
 Calls Tryz.prog 62 #[.agg #[.int .i64 k,.int .i64 R,.slice va vn vc]] w (Ret2 (fun x y w'=>ErrIs r w' (invE k R T) y∧x=.int .i64 (radN k R T)) w):=by
 have b0:=belowAlloc w (.cells #[.int .i64 k,.int .i64 R,.slice va vn vc] 24)
 replace hg:=Hd (hg.below b0)
 replace h:=Hd (h.below b0)
 go_enter Tryz.func62,Tryz.ntmps62
 go_wp2_with fail
 refine (find_any r k R va vn vc T _ hg.out h.out).mono ?_
 rintro e w1 ⟨x,y,rfl,b1,hy,hx⟩
 have hn:∃ k' a n c,x=.agg #[.int .i64 k',.int .i64 (radN k R T),.slice a n c]:=by
  unfold radN
  cases he:invE k R T with
  | none =>
   obtain ⟨d,S,a,n,c,hf,hxx,_⟩:=hx.1 he
   rw [hf]
   exact ⟨_,_,_,_,hxx⟩
  | some t=>exact ⟨0,none,0,0,hx.2 (by rw [he]; simp)⟩
 obtain ⟨k',a,n,c,rfl⟩:=hn
 obtain ⟨N,hN⟩:∃ N,radN k R T=N:=⟨_,rfl⟩
 rw [hN]
 have b2:=belowAlloc w1 (.cells #[.int .i64 k',.int .i64 N,.slice a n c] 24)
 have bE:=Below.step b0 (Below.step b1 b2)
 have hy2:=hy.below b2
 have q:Box3 (w1.alloc (.cells #[.int .i64 k',.int .i64 N,.slice a n c] 24)) w1.heap.size (.int .i64 k') (.int .i64 N) (.slice a n c):=by simp [Box3,go_sem]
 obtain ⟨⟨z0,z1,z2⟩,-,-,-⟩:=q
 replace hx:=Hd hx
 replace hN:=Hd hN
 replace hy:=Hd hy
 replace hy2:=Hd hy2
 rcases hy.out.open2 with rfl | ⟨T3,a3,rfl⟩
 ·go_wp2
  go_ret2
  exact ⟨_,_,rfl,bE,hy2.out,by rw [hN.out]; rfl⟩
 ·go_wp2
  go_ret2
  exact ⟨_,_,rfl,bE,hy2.out,by rw [hN.out]; rfl⟩
theorem of_ok (K R:Nat) (v:Value) (xs:List Int) (w:World) (h:IntsAt w v xs) (hr:RuleOk K R xs) :
 Calls Tryz.prog 57 #[.agg #[.int .i64 K,.int .i64 R,v]] w (Ret3 (fun x y z w'=>z=.nilIface∧y=.bool (isSum K R xs)∧(isSum K R xs=true→OwnI w.heap.size w' x (facs K R xs))∧(isSum K R xs=false→x=.slice none 0 0)) w):=by
 obtain ⟨va,vn,vc,hv⟩:=h.shape
 subst hv
 have hb0:=(Below.refl w.heap.size w).alloc (Nat.le_refl _) (.cells #[.int .i64 K,.int .i64 R,.slice va vn vc] 24)
 have h0:=Hd (h.below hb0)
 clear h
 have hk1:=hr.k1
 have hk4:=hr.k4
 have hr3:=hr.r3
 replace hr:=Hd hr
 obtain ⟨n,hn⟩:∃ n,n=2*R+1:=⟨_,rfl⟩
 have hn7:n≤7:=by omega
 have hnc:(2*(R:Int)+1)=(n:Int):=by omega
 replace hn:=Hd hn
 go_enter Tryz.func57,Tryz.ntmps57
 go_wp2_with fail
 refine (check_ok K R _ xs _ h0.out hr.out).mono ?_
 rintro e w1 ⟨x,rfl,hb,rfl⟩
 obtain ⟨z0,z1,z2,f0,f1,f2⟩:=cells3 hb
 go_wp2_with (at_make; refine wpl_make rfl _ _ rfl _ rfl rfl (by omega) (by omega) ?_)
 intro fv w2 ho hb2
 clear z0 z1 z2 f0 f1 f2
 have hfl:∀ w',(Builtin.len_ #[22] 3 #[fv]).run Tryz.prog w'=.ok (.int .i64 n) w':=by have:=ho.at.len; rwa [List.length_replicate] at this
 go_wp2
 go_loopw [7,22] (fun g i wr=>∃ j:Nat,j≤n∧i=.int .i64 j∧g=.int .i64 (wI K j)∧OwnI w1.heap.size wr fv (facI K n xs j)∧Below w1.heap.size w1 wr) (fun _ i _=>n-(intOf i).toNat)
 case atStart=>exact ⟨0,by omega,rfl,by unfold wI; split<;>rfl,by rw [facI_zero]; exact ho,hb2⟩
 case round =>
  obtain ⟨j,hj,rfl,rfl,ho,hbr⟩:=hrel
  obtain ⟨wo,rfl⟩:∃ wo:World,wo=wr:=⟨_,rfl⟩
  have hbw:=hb.trans (hbr.mono hb.size)
  obtain ⟨z0,z1,z2,f0,f1,f2⟩:=cells3 hbw
  by_cases hlt:j<n
  ·by_cases hK:1<K
   ·have hxl:pw K j<xs.length:=by rw [hr.out.len,← hn.out]; exact pw_lt hK hlt
    have ha:=h0.out.below hbw
    have i1:=ha.idx (pw K j) hxl
    have c1:=ha.cell (pw K j) hxl
    have i2:∀ w',(Instr.indexAt 22 fv (.int .i64 ((n:Int)-1-(j:Int)))).run Tryz.prog w'=.ok (.pointer (some (valAt fv (n-1-j)))) w':=by
     intro w'
     have:=ho.at.idxI ((n:Int)-1-(j:Int)) (by omega) (by rw [facI_length]; omega) w'
     rwa [show ((n:Int)-1-(j:Int)).toNat=n-1-j by omega] at this
    have c2:=ho.at.cell (n-1-j) (by rw [facI_length]; omega)
    have g2:=ho.frz (n-1-j) (by rw [facI_length]; omega)
    have hset:=Hd (ho.set (n-1-j) (by rw [facI_length]; omega) xs[pw K j])
    have hsb:=Hd (ho.setBelow hbr (n-1-j) (by rw [facI_length]; omega) (.int .i64 xs[pw K j]))
    have hne:∀ o,(valAt fv (n-1-j)=⟨w.heap.size,o,none⟩)=False:=by
     intro o
     have hbk:=ho.blkB (n-1-j) (by rw [facI_length]; omega)
     have hs:=hb.size
     simp at hs
     apply eq_false
     intro e
     rw [e] at hbk
     simp at hbk
     omega
    have hfe:Hid ((facI K n xs j).set (n-1-j) xs[pw K j]=facI K n xs (j+1)):=by
     show _=_
     simp only [facI,if_pos hK]
     exact facL_succ K n xs j hlt hxl
    have hwj:wI K j=pw K j:=if_pos hK
    have hwj1:Hid (wI K (j+1)=pw K j*K):=by show _=_; rw [wI,if_pos hK,pw_succ]
    rw [hwj]
    clear hwj
    have hb1:0≤(pw K j:Int)*(K:Int):=Int.mul_nonneg (by omega) (by omega)
    have hb2:(pw K j:Int)*(K:Int)≤16384:=by
     have:=pw_le (i:=j+1) hk1 hk4 (by omega)
     rw [pw_succ] at this
     exact_mod_cast this
    go_wp2
    go_roundw
    case rel =>
     refine ⟨j+1,by omega,by go_num,by rw [hwj1.out]; simp,?_,hsb.out⟩
     rw [← hfe.out]; exact hset.out
    case measure=>simp [intOf]; omega
   ·have hfe:Hid (facI K n xs (j+1)=facI K n xs j):=by show _=_; simp only [facI,if_neg hK]
    have hwj1:Hid (wI K (j+1)=1):=if_neg hK
    have hwj:wI K j=1:=if_neg hK
    rw [hwj]
    clear hwj
    have hK1:K=1:=by omega
    clear hK
    have hKK:(K:Int)≤1:=by omega
    have hKK1:(1:Int)≤K:=by omega
    clear hK1
    go_wp2
    go_roundw
    case rel =>
     refine ⟨j+1,by omega,by go_num,?_,by rw [hfe.out]; exact ho,hbr⟩
     rw [hwj1.out]
    case measure=>simp [intOf]; omega
  ·obtain rfl:j=n:=by omega
   have ha:=h0.out.below hbw
   have hfac:facI K j xs j=facs K R xs:=by rw [hn.out]; rfl
   rw [hfac] at ho
   clear hfac
   replace ha:=Hd ha
   replace ho:=Hd ho
   have hfs:=Hd (facs_syms hr.out)
   have hsz:w.heap.size<wo.heap.size:=World.block_lt_of_cell? _ _ z0
   have hf7:(facs K R xs).length≤7:=by rw [facs_length]; omega
   have hfd:=field_T
   go_wp2
   go_region_held3 (fun w'=>w'.cell? ⟨w.heap.size,0,none⟩=some (.int .i64 K)∧w'.cell? ⟨w.heap.size,2,none⟩=some (.slice va vn vc)) (go_keep)
    (first | (go_at_call 133; refine (sum_any K fv (facs K R xs) _ (by exact ho.out.at) hfs.out hk1 hk4 hf7).mono ?_; rintro e w3 ⟨x,rfl,hb3,ua,un,uc,rfl,hu⟩; have y0:=(hb3.cell (p:=⟨w.heap.size,0,none⟩) (by simp; omega)).trans z0; have y2:=(hb3.cell (p:=⟨w.heap.size,2,none⟩) (by simp; omega)).trans z2) | (go_at_call 134; refine (equal_any _ _ (sumT K (facs K R xs)) xs _ (by exact hu.at) (by exact ha.out.drew.below hb3)).mono ?_; rintro e w4 hq; obtain ⟨rfl,hb4⟩:=hq.below; have y4:=(hb4.cell (p:=⟨w.heap.size,0,none⟩) (World.block_lt_of_cell? _ _ y0)).trans y0; have y5:=(hb4.cell (p:=⟨w.heap.size,2,none⟩) (World.block_lt_of_cell? _ _ y2)).trans y2))
   have hball:Below w.heap.size w w4:=(hb0.trans ((hbw.drew.trans (hb3.mono (by have:=hbw.size; simp at this ⊢; omega))).mono (by simp))).trans (hb4.mono (by have:=hb3.size; simp at this; omega))
   have hown:OwnI w.heap.size w4 fv (facs K R xs):=(((ho.out.drew).below hb3).below hb4).mono (by have:=hb.size; simp at this; omega)
   replace hball:=Hd hball
   replace hown:=Hd hown
   clear y0 y2 y4 y5 hq
   cases hs:isSum K R xs
   ·rw [show decide (sumT K (facs K R xs)=xs)=false from hs]
    replace hs:=Hd hs
    go_wp2
    go_ret3
    exact ⟨_,_,_,rfl,hball.out,rfl,(by rw [hs.out]; rfl),(fun h=>by rw [hs.out] at h; cases h),fun _=>rfl⟩
   ·rw [show decide (sumT K (facs K R xs)=xs)=true from hs]
    replace hs:=Hd hs
    go_wp2
    go_ret3
    exact ⟨_,_,_,rfl,hball.out,rfl,(by rw [hs.out]; rfl),fun _=>hown.out,(fun h=>by rw [hs.out] at h; cases h)⟩
theorem OntoPost.parts {r:Nat→Addr} {B:Nat} {s:SubR} {x y z:Value} {w:World} (h:OntoPost r B s x y z w):(∃ a n c,y=.slice a n c∧OwnI B w (.slice a n c) (orphL s)):=by
 cases s with
 | on _ _=>obtain ⟨rfl,rfl,rfl⟩:=h; exact ⟨_,_,_,rfl,OwnI.nil _ _⟩
 | orphan wd=>obtain ⟨rfl,rfl,ho⟩:=h; obtain ⟨a,n,c,rfl⟩:=ho.at.shape; exact ⟨_,_,_,rfl,ho⟩
 | big=>obtain ⟨rfl,rfl,he⟩:=h; exact ⟨_,_,_,rfl,OwnI.nil _ _⟩
theorem idx5_0 (w:World):(Instr.index 101 (.agg #[.nilIface,.nilIface,.nilIface,.nilIface,.nilIface]) (.int .i64 0)).run Tryz.prog w=.ok .nilIface w:=by kernel_rfl
theorem idx5_1 (w:World):(Instr.index 101 (.agg #[.nilIface,.nilIface,.nilIface,.nilIface,.nilIface]) (.int .i64 1)).run Tryz.prog w=.ok .nilIface w:=by kernel_rfl
theorem idx5_2 (w:World):(Instr.index 101 (.agg #[.nilIface,.nilIface,.nilIface,.nilIface,.nilIface]) (.int .i64 2)).run Tryz.prog w=.ok .nilIface w:=by kernel_rfl
theorem idx5_3 (w:World):(Instr.index 101 (.agg #[.nilIface,.nilIface,.nilIface,.nilIface,.nilIface]) (.int .i64 3)).run Tryz.prog w=.ok .nilIface w:=by kernel_rfl
theorem idx5_4 (w:World):(Instr.index 101 (.agg #[.nilIface,.nilIface,.nilIface,.nilIface,.nilIface]) (.int .i64 4)).run Tryz.prog w=.ok .nilIface w:=by kernel_rfl
noncomputable def radL (K R:Nat) (T:List Int):Int:=if invE K R T=none then radN K R T else -1
def facR (K R:Nat) (T:List Int):List Int:=if isSum K R T=true then facs K R T else []
def RepIs (B:Nat) (w:World) (K R:Nat) (T:List Int) (v:Value):Prop :=
 ∃ (Y F:Bool) (oa:Option Addr) (on oc:Nat) (fa:Option Addr) (fn fc:Nat),(Y=true↔¬ NotOne K R T)∧(F=true↔∀ x y,¬ IsTwins K R T x y) ∧
  v=.agg #[.int .i64 (ontoN (subR K (pw K (2*R)) T)),.slice oa on oc,.bool Y,.bool F,.int .i64 (radL K R T),.bool (isSum K R T),.slice fa fn fc,.bool (unlikeP K T (T.length/K)),.bool (unlikeP K T 1)] ∧
  OwnI B w (.slice oa on oc) (orphL (subR K (pw K (2*R)) T))∧OwnI B w (.slice fa fn fc) (facR K R T)∧((Value.slice oa on oc).ownBlock=none∨(Value.slice oa on oc).ownBlock≠(Value.slice fa fn fc).ownBlock)
theorem look_ok (r:Nat→Addr) (K R:Nat) (va:Option Addr) (vn vc:Nat) (T:List Int) (w:World) (hg:Glob r w) (hG:GlobE w) (h:IntsAt w (.slice va vn vc) T) (hr:RuleOk K R T) (hl:T.length≤256) :
 Calls Tryz.prog 23 #[.agg #[.int .i64 K,.int .i64 R,.slice va vn vc]] w (Ret2 (fun x y w'=>y=.nilIface∧RepIs w.heap.size w' K R T x) w):=by
 have b0:=belowAlloc w (.cells #[.int .i64 K,.int .i64 R,.slice va vn vc] 24)
 have q:Box3 (w.alloc (.cells #[.int .i64 K,.int .i64 R,.slice va vn vc] 24)) w.heap.size (.int .i64 K) (.int .i64 R) (.slice va vn vc):=by simp [Box3,go_sem]
 obtain ⟨f0,hR0,n45,-⟩:=(Rows.void w.heap.size w).mkN (45,0) (Nat.le_refl _) 24 3 #[.int .i64 K,.int .i64 R,.slice va vn vc] rfl
 obtain ⟨f1,hR1,n42,o1⟩:=hR0.mkN (42,0) (by simp) 46 9 #[.int .i64 0,.slice none 0 0,.bool false,.bool false,.int .i64 0,.bool false,.slice none 0 0,.bool false,.bool false] rfl
 replace n45:=(o1 _ (by decide)).trans n45
 have b1:=belowAlloc (w.alloc (.cells #[.int .i64 K,.int .i64 R,.slice va vn vc] 24)) (.cells #[.int .i64 0,.slice none 0 0,.bool false,.bool false,.int .i64 0,.bool false,.slice none 0 0,.bool false,.bool false] 46)
 have hsz:(w.alloc (.cells #[.int .i64 K,.int .i64 R,.slice va vn vc] 24)).heap.size=w.heap.size+1:=by simp
 rw [hsz] at n42
 replace q:=q.below b1
 have b01:=Below.step b0 b1
 obtain ⟨w1,hw1⟩:∃ W:World,(w.alloc (.cells #[.int .i64 K,.int .i64 R,.slice va vn vc] 24)).alloc (.cells #[.int .i64 0,.slice none 0 0,.bool false,.bool false,.int .i64 0,.bool false,.slice none 0 0,.bool false,.bool false] 46)=W:=⟨_,rfl⟩
 have hs1:((w.alloc (.cells #[.int .i64 K,.int .i64 R,.slice va vn vc] 24)).alloc (.cells #[.int .i64 0,.slice none 0 0,.bool false,.bool false,.int .i64 0,.bool false,.slice none 0 0,.bool false,.bool false] 46)).heap.size=w.heap.size+2:=by simp
 rw [hw1] at q b01 hR1 hs1
 have hsm:=smallP_small hr hl
 have hg1:=Hd (hg.below b01)
 have hG1:=Hd (hG.below b01)
 have hT1:=Hd (h.below b01)
 obtain ⟨S,hS⟩:∃ S,subR K (pw K (2*R)) T=S:=⟨_,rfl⟩
 obtain ⟨i1,i2,i3⟩:=invE_ok hr hl
 obtain ⟨L,hL⟩:∃ L,unlikeP K T (T.length/K)=L:=⟨_,rfl⟩
 obtain ⟨P,hP⟩:∃ P,unlikeP K T 1=P:=⟨_,rfl⟩
 have hsum:(isSum K R T=true→facR K R T=facs K R T)∧(isSum K R T=false→facR K R T=[]):=⟨fun e=>by unfold facR; rw [if_pos e],fun e=>by unfold facR; rw [e]; rfl⟩
 have hrad:(invE K R T=none→radL K R T=radN K R T)∧(invE K R T≠none→radL K R T=-1):=⟨fun e=>by unfold radL; rw [if_pos e],fun e=>by unfold radL; rw [if_neg e]⟩
 have hB:w.heap.size≤w1.heap.size:=b01.size
 replace hg:=Hd hg
 replace hG:=Hd hG
 replace h:=Hd h
 replace hr:=Hd hr
 replace hsm:=Hd hsm
 replace hS:=Hd hS
 replace i1:=Hd i1
 replace i2:=Hd i2
 replace i3:=Hd i3
 replace hL:=Hd hL
 replace hP:=Hd hP
 replace hsum:=Hd hsum
 replace hrad:=Hd hrad
 replace hR1:=Hd hR1
 replace n42:=Hd n42
 replace n45:=Hd n45
 replace hw1:=Hd hw1
 replace hsz:=Hd hsz
 clear b0 b1 o1 hR0
 obtain ⟨⟨z0,z1,z2⟩,-,-,-⟩:=id q
 go_enter Tryz.func23,Tryz.ntmps23
 go_upto_region 1 with fail
 rw [hw1.out]
 go_wp2_with fail
 refine (small_any r K R va vn vc T w1 hg1.out hT1.out).mono ?_
 rintro e w2 ⟨x,rfl,b2,he⟩
 rw [hsm.out] at he
 obtain rfl:=he.none_eq
 clear he z0 z1 z2
 have b12:=Below.step b01 b2
 -- the boxes of the report and of the errors
 obtain ⟨f3,hR3,n40,o3⟩:=(hR1.out.below b2).mkN (40,0) b12.size 46 9 #[.int .i64 0,.slice none 0 0,.bool false,.bool false,.int .i64 0,.bool false,.slice none 0 0,.bool false,.bool false] rfl
 have b3:=belowAlloc w2 (.cells #[.int .i64 0,.slice none 0 0,.bool false,.bool false,.int .i64 0,.bool false,.slice none 0 0,.bool false,.bool false] 46)
 have b13:=Below.step b12 b3
 obtain ⟨f4,hR4,n41,o4⟩:=hR3.mkN (41,0) b13.size 101 5 #[.nilIface,.nilIface,.nilIface,.nilIface,.nilIface] rfl
 have b4:=belowAlloc (w2.alloc (.cells #[.int .i64 0,.slice none 0 0,.bool false,.bool false,.int .i64 0,.bool false,.slice none 0 0,.bool false,.bool false] 46)) (.cells #[.nilIface,.nilIface,.nilIface,.nilIface,.nilIface] 101)
 have hsz3:(w2.alloc (.cells #[.int .i64 0,.slice none 0 0,.bool false,.bool false,.int .i64 0,.bool false,.slice none 0 0,.bool false,.bool false] 46)).heap.size=w2.heap.size+1:=by simp
 rw [hsz3] at n41
 have b24:=Below.step b3 b4
 have b14:=Below.step b12 b24
 obtain ⟨w4,hw4⟩:∃ W:World,(w2.alloc (.cells #[.int .i64 0,.slice none 0 0,.bool false,.bool false,.int .i64 0,.bool false,.slice none 0 0,.bool false,.bool false] 46)).alloc (.cells #[.nilIface,.nilIface,.nilIface,.nilIface,.nilIface] 101)=W:=⟨_,rfl⟩
 rw [hw4] at hR4 b14 b24
 have A4:LkAt w.heap.size w4 w.heap.size w2.heap.size (w2.heap.size+1) (w.heap.size+1) [.int .i64 K,.int .i64 R,.slice va vn vc] [.int .i64 0,.slice none 0 0,.bool false,.bool false,.int .i64 0,.bool false,.slice none 0 0,.bool false,.bool false] [.nilIface,.nilIface,.nilIface,.nilIface,.nilIface] [.int .i64 0,.slice none 0 0,.bool false,.bool false,.int .i64 0,.bool false,.slice none 0 0,.bool false,.bool false] (.slice none 0 0) (.slice none 0 0) [] []:=by
  obtain ⟨f5,hR5,n43,o5⟩:=hR4.addE (43,0) (r':=rowI (.slice none 0 0) []) (Below.refl _ _) (OwnI.nil _ _) (fun k hk=>by cases hk)
  obtain ⟨f6,hR6,n44,o6⟩:=hR5.addE (44,0) (r':=rowI (.slice none 0 0) []) (Below.refl _ _) (OwnI.nil _ _) (fun k hk=>by cases hk)
  exact ⟨f6,hR6,(o6 _ (by decide)).trans ((o5 _ (by decide)).trans ((o4 _ (by decide)).trans n40)),(o6 _ (by decide)).trans ((o5 _ (by decide)).trans n41),(o6 _ (by decide)).trans ((o5 _ (by decide)).trans ((o4 _ (by decide)).trans ((o3 _ (by decide)).trans n42.out))),(o6 _ (by decide)).trans n43,n44,(o6 _ (by decide)).trans ((o5 _ (by decide)).trans ((o4 _ (by decide)).trans ((o3 _ (by decide)).trans n45.out)))⟩
 obtain ⟨x,hx⟩:∃ x,w2.heap.size=x:=⟨_,rfl⟩
 obtain ⟨ee,hee⟩:∃ x,w2.heap.size+1=x:=⟨_,rfl⟩
 obtain ⟨o,ho⟩:∃ x,w.heap.size+1=x:=⟨_,rfl⟩
 rw [hee,hx,ho] at A4
 have hs2:=b2.size
 have hxe:¬ (x=ee):=by omega
 have hex:¬ (ee=x):=by omega
 have hxo:¬ (x=o):=by omega
 have hox:¬ (o=x):=by omega
 have heo:¬ (ee=o):=by omega
 have hoe:¬ (o=ee):=by omega
 clear hs1 hs2
 clear hR3 hR4 n40 n41 o3 o4 b3 b4 b13 hsz3 f3 f4
 replace A4:=Hd A4
 replace hw4:=Hd hw4
 replace hx:=Hd hx
 replace hee:=Hd hee
 replace ho:=Hd ho
 clear hR1 n42 n45 hsz hw1 q
 go_upto_region 7 with fail
 rw [hw4.out,hee.out,hx.out,ho.out]
 clear hw4
 have z0:=A4.out.cr 0 (by decide)
 have z1:=A4.out.cr 1 (by decide)
 have z2:=A4.out.cr 2 (by decide)
 have lowx:=A4.out.low
 go_wp2_with fail
 refine (sub_onto r K R va vn vc T w4 (hg.out.below b14) (hG.out.below b14) (h.out.below b14) hr.out hl).mono ?_
 rintro e w5 ⟨xv,_,zv,rfl,b5,hon⟩
 clear z0 z1 z2
 rw [hS.out] at hon
 obtain ⟨oa,on,oc,rfl,hor⟩:=hon.parts
 obtain ⟨xb,rfl⟩:∃ b,xv=.bool b:=by
  cases S with
  | on _ _=>exact ⟨_,hon.1⟩
  | orphan _=>exact ⟨_,hon.1⟩
  | big=>exact ⟨_,hon.1⟩
 have hcz:(zv=.nilIface∧(xb=true→ontoN S=1)∧(xb=false→ontoN S=2))∨∃ p,zv=.iface 119 (.pointer (some p))∧ErrIs r w5 (fresh sSubset 0 4) zv∧ontoN S=3:=by
  cases S with
  | on _ _=>obtain ⟨h1,-,h3⟩:=hon; injection h1 with h1; exact .inl ⟨h3,fun _=>rfl,fun q=>by rw [h1] at q; cases q⟩
  | orphan _=>obtain ⟨h1,h3,-⟩:=hon; injection h1 with h1; exact .inl ⟨h3,(fun q=>by rw [h1] at q; cases q),fun _=>rfl⟩
  | big =>
   obtain ⟨-,-,h3⟩:=hon
   have h4:=h3
   obtain ⟨p,u,rfl,-⟩:=h4
   exact .inr ⟨_,rfl,h3,rfl⟩
 clear hon
 have A5:=A4.out.orphan b5 b14.size hor
 have c5:=Below.step b14 b5
 replace hor:=Hd hor
 rcases hcz with ⟨rfl,k1,k2⟩ | ⟨zp,rfl,hze,k3⟩
 case' inl =>
  have g1:=A5.cx 1 (by decide)
  have h1:=A5.fx 1
  have S1:=A5.sx 1 (.slice oa on oc)
  have d1:=c5.setCell (p:=⟨x,1,none⟩) lowx.1 (.slice oa on oc)
  have g2:=S1.ce 0 (by decide)
  have h2:=S1.fe 0
  have S2:=S1.se 0 (.nilIface)
  have d2:=d1.setCell (p:=⟨ee,0,none⟩) lowx.2.1 (.nilIface)
  replace k1:=Hd k1
  replace k2:=Hd k2
  go_upto_block 0 with fail
  clear g1 h1 g2 h2
  go_cut [] from 27 (fun wx=>Below w.heap.size w wx∧LkAt w.heap.size wx w.heap.size x ee o [.int .i64 K,.int .i64 R,.slice va vn vc] [.int .i64 (ontoN S),.slice oa on oc,.bool false,.bool false,.int .i64 0,.bool false,.slice none 0 0,.bool false,.bool false] [.nilIface,.nilIface,.nilIface,.nilIface,.nilIface] [.int .i64 0,.slice none 0 0,.bool false,.bool false,.int .i64 0,.bool false,.slice none 0 0,.bool false,.bool false] (.slice oa on oc) (.slice none 0 0) (orphL S) [])
  case first =>
   have tb:=(hg.out.below d2).c4
   have e1:=S2.ce 0 (by decide)
   go_wp2_with fail
   refine (Errs.is_nil _ _ _).mono ?_
   rintro e w6 ⟨rfl,rfl⟩
   clear e1
   cases xb with
   | true =>
    have g3:=S2.cx 0 (by decide)
    have h3:=S2.fx 0
    have S3:=S2.sx 0 (.int .i64 1)
    have d3:=d2.setCell (p:=⟨x,0,none⟩) lowx.1 (.int .i64 1)
    have RK:=S3
    have Rb:=d3
    have hfin:Below w.heap.size w (((w5.setCell ⟨x,1,none⟩ (.slice oa on oc)).setCell ⟨ee,0,none⟩ .nilIface).setCell ⟨x,0,none⟩ (.int .i64 1))∧LkAt w.heap.size (((w5.setCell ⟨x,1,none⟩ (.slice oa on oc)).setCell ⟨ee,0,none⟩ .nilIface).setCell ⟨x,0,none⟩ (.int .i64 1)) w.heap.size x ee o [.int .i64 K,.int .i64 R,.slice va vn vc] [.int .i64 (ontoN S),.slice oa on oc,.bool false,.bool false,.int .i64 0,.bool false,.slice none 0 0,.bool false,.bool false] [.nilIface,.nilIface,.nilIface,.nilIface,.nilIface] [.int .i64 0,.slice none 0 0,.bool false,.bool false,.int .i64 0,.bool false,.slice none 0 0,.bool false,.bool false] (.slice oa on oc) (.slice none 0 0) (orphL S) []:=by rw [k1.out rfl]; exact ⟨Rb,RK⟩
    clear RK Rb k1 k2
    replace hfin:=Hd hfin
    go_wp2
    go_meet
    case rel=>exact hfin.out
   | false =>
    have g3:=S2.cx 0 (by decide)
    have h3:=S2.fx 0
    have S3:=S2.sx 0 (.int .i64 2)
    have d3:=d2.setCell (p:=⟨x,0,none⟩) lowx.1 (.int .i64 2)
    have RK:=S3
    have Rb:=d3
    have hfin:Below w.heap.size w (((w5.setCell ⟨x,1,none⟩ (.slice oa on oc)).setCell ⟨ee,0,none⟩ .nilIface).setCell ⟨x,0,none⟩ (.int .i64 2))∧LkAt w.heap.size (((w5.setCell ⟨x,1,none⟩ (.slice oa on oc)).setCell ⟨ee,0,none⟩ .nilIface).setCell ⟨x,0,none⟩ (.int .i64 2)) w.heap.size x ee o [.int .i64 K,.int .i64 R,.slice va vn vc] [.int .i64 (ontoN S),.slice oa on oc,.bool false,.bool false,.int .i64 0,.bool false,.slice none 0 0,.bool false,.bool false] [.nilIface,.nilIface,.nilIface,.nilIface,.nilIface] [.int .i64 0,.slice none 0 0,.bool false,.bool false,.int .i64 0,.bool false,.slice none 0 0,.bool false,.bool false] (.slice oa on oc) (.slice none 0 0) (orphL S) []:=by rw [k2.out rfl]; exact ⟨Rb,RK⟩
    clear RK Rb k1 k2
    replace hfin:=Hd hfin
    go_wp2
    go_meet
    case rel=>exact hfin.out
 case' inr =>
  have g1:=A5.cx 1 (by decide)
  have h1:=A5.fx 1
  have S1:=A5.sx 1 (.slice oa on oc)
  have d1:=c5.setCell (p:=⟨x,1,none⟩) lowx.1 (.slice oa on oc)
  have g2:=S1.ce 0 (by decide)
  have h2:=S1.fe 0
  have S2:=S1.se 0 ((.iface 119 (.pointer (some zp))))
  have d2:=d1.setCell (p:=⟨ee,0,none⟩) lowx.2.1 ((.iface 119 (.pointer (some zp))))
  replace k3:=Hd k3
  go_upto_block 0 with fail
  clear g1 h1 g2 h2
  go_cut [] from 27 (fun wx=>Below w.heap.size w wx∧LkAt w.heap.size wx w.heap.size x ee o [.int .i64 K,.int .i64 R,.slice va vn vc] [.int .i64 (ontoN S),.slice oa on oc,.bool false,.bool false,.int .i64 0,.bool false,.slice none 0 0,.bool false,.bool false] [.nilIface,.nilIface,.nilIface,.nilIface,.nilIface] [.int .i64 0,.slice none 0 0,.bool false,.bool false,.int .i64 0,.bool false,.slice none 0 0,.bool false,.bool false] (.slice oa on oc) (.slice none 0 0) (orphL S) [])
  case first =>
   have tb:=(hg.out.below d2).c4
   have his:=Errs.is_any r 4 _ _ _ ((hze.set (b:=x) (i:=1) (fun s q=>by rw [A5.cx 0 (by decide)] at q; cases q) (.slice oa on oc)).set (b:=ee) (i:=0) (fun s q=>by rw [S1.ce 0 (by decide)] at q; cases q) (.iface 119 (.pointer (some zp))))
   have e1:=S2.ce 0 (by decide)
   replace hze:=Hd hze
   go_wp2_with fail
   refine his.mono ?_
   rintro e w6 ⟨rfl,rfl⟩
   clear his
   clear e1
   have g3:=S2.cx 0 (by decide)
   have h3:=S2.fx 0
   have S3:=S2.sx 0 (.int .i64 3)
   have d3:=d2.setCell (p:=⟨x,0,none⟩) lowx.1 (.int .i64 3)
   have g4:=S3.ce 0 (by decide)
   have h4:=S3.fe 0
   have S4:=S3.se 0 (.nilIface)
   have d4:=d3.setCell (p:=⟨ee,0,none⟩) lowx.2.1 (.nilIface)
   have RK:=S4
   have Rb:=d4
   have hfin:Below w.heap.size w ((((w5.setCell ⟨x,1,none⟩ (.slice oa on oc)).setCell ⟨ee,0,none⟩ (.iface 119 (.pointer (some zp)))).setCell ⟨x,0,none⟩ (.int .i64 3)).setCell ⟨ee,0,none⟩ .nilIface)∧LkAt w.heap.size ((((w5.setCell ⟨x,1,none⟩ (.slice oa on oc)).setCell ⟨ee,0,none⟩ (.iface 119 (.pointer (some zp)))).setCell ⟨x,0,none⟩ (.int .i64 3)).setCell ⟨ee,0,none⟩ .nilIface) w.heap.size x ee o [.int .i64 K,.int .i64 R,.slice va vn vc] [.int .i64 (ontoN S),.slice oa on oc,.bool false,.bool false,.int .i64 0,.bool false,.slice none 0 0,.bool false,.bool false] [.nilIface,.nilIface,.nilIface,.nilIface,.nilIface] [.int .i64 0,.slice none 0 0,.bool false,.bool false,.int .i64 0,.bool false,.slice none 0 0,.bool false,.bool false] (.slice oa on oc) (.slice none 0 0) (orphL S) []:=by rw [k3.out]; exact ⟨Rb,RK⟩
   clear RK Rb k3
   replace hfin:=Hd hfin
   go_wp2
   go_meet
   case rel=>exact hfin.out
 all_goals
  obtain ⟨bc,AC⟩:=hcut
  clear S1 S2 d1 d2 A5 c5 b14 A4 lowx
  have lowx:=AC.low
  have hBx:=bc.size
  have z0:=AC.cr 0 (by decide)
  have z1:=AC.cr 1 (by decide)
  have z2:=AC.cr 2 (by decide)
  go_wp2_with fail
  refine (one_ok r K R va vn vc T _ (hg.out.below bc) (h.out.below bc) hr.out hl).mono ?_
  rintro e w7 ⟨_,_,_,_,rfl,b7,hp⟩
  clear z0 z1 z2
  obtain ⟨rfl,Y,rfl,hY,e1,f1,g1,e2,f2,g2,e3,f3,g3,e4,f4,g4,e5,f5,g5,e6,f6,g6,rfl,rfl⟩:=hp.ans
  clear hp
  replace hY:=Hd hY
  have A7:=AC.below b7
  have c7:=Below.step bc b7
  have g11:=A7.cx 2 (by decide)
  have h11:=A7.fx 2
  have S11:=A7.sx 2 (.bool Y)
  have d11:=c7.setCell (p:=⟨x,2,none⟩) lowx.1 (.bool Y)
  have g12:=S11.ce 1 (by decide)
  have h12:=S11.fe 1
  have S12:=S11.se 1 (.nilIface)
  have d12:=d11.setCell (p:=⟨ee,1,none⟩) lowx.2.1 (.nilIface)
  have z0:=S12.cr 0 (by decide)
  have z1:=S12.cr 1 (by decide)
  have z2:=S12.cr 2 (by decide)
  go_wp2_with fail
  refine (finite_ok r K R va vn vc T _ (hg.out.below d12) (h.out.below d12) hr.out hl).mono ?_
  rintro e w8 ⟨fy,fa9,fb9,_,rfl,b8,hf⟩
  clear g11 h11 g12 h12 z0 z1 z2
  obtain ⟨F,rfl,hF⟩:∃ F:Bool,fy=.bool F∧(F=true↔∀ x y,¬ IsTwins K R T x y):=by
   obtain ⟨-,⟨rfl,-,-,hn⟩ | ⟨rfl,x1,y1,-,ht,-⟩⟩:=hf
   ·exact ⟨true,rfl,⟨fun _=>hn,fun _=>rfl⟩⟩
   ·exact ⟨false,rfl,⟨fun q=>(by cases q),fun q=>absurd ht (q x1 y1)⟩⟩
  obtain ⟨⟨qa1,qa2,qa3,rfl⟩,qb1,qb2,qb3,rfl⟩:(∃ a n c,fa9=.slice a n c)∧∃ a n c,fb9=.slice a n c:=by
   obtain ⟨-,⟨-,rfl,rfl,-⟩ | ⟨-,x1,y1,-,-,-,-,o1,o2,-⟩⟩:=hf
   ·exact ⟨⟨_,_,_,rfl⟩,_,_,_,rfl⟩
   ·exact ⟨o1.at.shape,o2.at.shape⟩
  obtain rfl:=hf.1
  clear hf
  replace hF:=Hd hF
  have A8:=S12.below b8
  have c8:=Below.step d12 b8
  have g13:=A8.cx 3 (by decide)
  have h13:=A8.fx 3
  have S13:=A8.sx 3 (.bool F)
  have d13:=c8.setCell (p:=⟨x,3,none⟩) lowx.1 (.bool F)
  have g14:=S13.ce 2 (by decide)
  have h14:=S13.fe 2
  have S14:=S13.se 2 (.nilIface)
  have d14:=d13.setCell (p:=⟨ee,2,none⟩) lowx.2.1 (.nilIface)
  have z0:=S14.cr 0 (by decide)
  have z1:=S14.cr 1 (by decide)
  have z2:=S14.cr 2 (by decide)
  go_wp2_with fail
  refine (inv_radius r K R va vn vc T _ (hg.out.below d14) (h.out.below d14)).mono ?_
  rintro e w9 ⟨_,ev,rfl,b9,hev,rfl⟩
  clear g13 h13 g14 h14 z0 z1 z2
  have A9:=S14.below b9
  have c9:=Below.step d14 b9
  obtain ⟨N,hN⟩:∃ N,radN K R T=N:=⟨_,rfl⟩
  rw [hN]
  replace hN:=Hd hN
  have hev2:=hev.open2
  go_upto_block 1 with fail
  go_cut [] from 61 (fun wx=>Below w.heap.size w wx∧LkAt w.heap.size wx w.heap.size x ee o [.int .i64 K,.int .i64 R,.slice va vn vc] [.int .i64 (ontoN S),.slice oa on oc,.bool Y,.bool F,.int .i64 (radL K R T),.bool false,.slice none 0 0,.bool false,.bool false] [.nilIface,.nilIface,.nilIface,.nilIface,.nilIface] [.int .i64 0,.slice none 0 0,.bool false,.bool false,.int .i64 0,.bool false,.slice none 0 0,.bool false,.bool false] (.slice oa on oc) (.slice none 0 0) (orphL S) [])
  case first =>
   by_cases hE:invE K R T=none
   ·rw [hE] at hev
    obtain rfl:=hev.none_eq
    have hrd:=hrad.out.1 hE
    rw [hN.out] at hrd
    clear hev2
    replace hE:=Hd hE
    replace hev:=Hd hev
    have g15:=A9.cx 4 (by decide)
    have h15:=A9.fx 4
    have S15:=A9.sx 4 (.int .i64 N)
    have d15:=c9.setCell (p:=⟨x,4,none⟩) lowx.1 (.int .i64 N)
    have RK:=S15
    have Rb:=d15
    have hfin:LkAt w.heap.size (w9.setCell ⟨x,4,none⟩ (.int .i64 N)) w.heap.size x ee o [.int .i64 K,.int .i64 R,.slice va vn vc] [.int .i64 (ontoN S),.slice oa on oc,.bool Y,.bool F,.int .i64 (radL K R T),.bool false,.slice none 0 0,.bool false,.bool false] [.nilIface,.nilIface,.nilIface,.nilIface,.nilIface] [.int .i64 0,.slice none 0 0,.bool false,.bool false,.int .i64 0,.bool false,.slice none 0 0,.bool false,.bool false] (.slice oa on oc) (.slice none 0 0) (orphL S) []:=by rw [hrd]; exact RK
    clear RK hrd
    replace hfin:=Hd hfin
    replace Rb:=Hd Rb
    go_wp2
    go_meet
    case rel=>exact ⟨Rb.out,hfin.out⟩
   ·have hrd:=hrad.out.2 hE
    have hcode:invE K R T=fresh sInverse 0 9∨invE K R T=fresh sInverse 0 4:=by
     by_cases hno:NotOne K R T
     ·exact .inl (i1.out hno)
     ·refine .inr (i2.out hno (Classical.byContradiction fun q=>hE (i3.out hno q)))
    have tb:=(hg.out.below c9).c4
    have tn:=(hg.out.below c9).c9
    have hgw:=hg.out.below c9
    clear hev2
    replace hE:=Hd hE
    replace hgw:=Hd hgw
    rcases hcode with hc | hc
    ·rw [hc] at hev
     have hev':=hev
     obtain ⟨zp,zu,rfl,-⟩:=hev'
     replace hc:=Hd hc
     replace hev:=Hd hev
     go_wp2_with fail
     refine (Errs.is_any r 9 _ _ _ hev.out).mono ?_
     rintro e w11 ⟨rfl,rfl⟩
     have g15:=A9.cx 4 (by decide)
     have h15:=A9.fx 4
     have S15:=A9.sx 4 (.int .i64 (-1))
     have d15:=c9.setCell (p:=⟨x,4,none⟩) lowx.1 (.int .i64 (-1))
     have RK:=S15
     have Rb:=d15
     have hfin:LkAt w.heap.size (w9.setCell ⟨x,4,none⟩ (.int .i64 (-1))) w.heap.size x ee o [.int .i64 K,.int .i64 R,.slice va vn vc] [.int .i64 (ontoN S),.slice oa on oc,.bool Y,.bool F,.int .i64 (radL K R T),.bool false,.slice none 0 0,.bool false,.bool false] [.nilIface,.nilIface,.nilIface,.nilIface,.nilIface] [.int .i64 0,.slice none 0 0,.bool false,.bool false,.int .i64 0,.bool false,.slice none 0 0,.bool false,.bool false] (.slice oa on oc) (.slice none 0 0) (orphL S) []:=by rw [hrd]; exact RK
     clear RK hrd
     replace hfin:=Hd hfin
     replace Rb:=Hd Rb
     go_wp2
     go_meet
     case rel=>exact ⟨Rb.out,hfin.out⟩
    ·rw [hc] at hev
     have hev':=hev
     obtain ⟨zp,zu,rfl,-⟩:=hev'
     replace hc:=Hd hc
     replace hev:=Hd hev
     go_wp2_with fail
     refine (Errs.is_no r 4 9 _ _ _ hgw.out hev.out (by decide) (by decide) (by decide)).mono ?_
     rintro e w11 ⟨rfl,rfl⟩
     go_wp2_with fail
     refine (Errs.is_any r 4 _ _ _ hev.out).mono ?_
     rintro e w11 ⟨rfl,rfl⟩
     have g15:=A9.cx 4 (by decide)
     have h15:=A9.fx 4
     have S15:=A9.sx 4 (.int .i64 (-1))
     have d15:=c9.setCell (p:=⟨x,4,none⟩) lowx.1 (.int .i64 (-1))
     have RK:=S15
     have Rb:=d15
     have hfin:LkAt w.heap.size (w9.setCell ⟨x,4,none⟩ (.int .i64 (-1))) w.heap.size x ee o [.int .i64 K,.int .i64 R,.slice va vn vc] [.int .i64 (ontoN S),.slice oa on oc,.bool Y,.bool F,.int .i64 (radL K R T),.bool false,.slice none 0 0,.bool false,.bool false] [.nilIface,.nilIface,.nilIface,.nilIface,.nilIface] [.int .i64 0,.slice none 0 0,.bool false,.bool false,.int .i64 0,.bool false,.slice none 0 0,.bool false,.bool false] (.slice oa on oc) (.slice none 0 0) (orphL S) []:=by rw [hrd]; exact RK
     clear RK hrd
     replace hfin:=Hd hfin
     replace Rb:=Hd Rb
     go_wp2
     go_meet
     case rel=>exact ⟨Rb.out,hfin.out⟩
  case rest =>
   obtain ⟨bd,AD⟩:=hcut
   clear hev hev2
   clear lowx
   have lowx:=AD.low
   have hBd:=bd.size
   have z0:=AD.cr 0 (by decide)
   have z1:=AD.cr 1 (by decide)
   have z2:=AD.cr 2 (by decide)
   go_wp2_with fail
   refine (of_ok K R _ T _ (h.out.below bd) hr.out).mono ?_
   rintro e w12 ⟨fv9,_,_,rfl,b12,rfl,rfl,hs1,hs0⟩
   clear z0 z1 z2
   obtain ⟨fa,fn,fc,rfl,hfo⟩:∃ a n c,fv9=.slice a n c∧OwnI wc.heap.size w12 (.slice a n c) (facR K R T):=by
    cases hi:isSum K R T with
    | true=>have ho:=hs1 hi; rw [← hsum.out.1 hi] at ho; obtain ⟨a,n,c,rfl⟩:=ho.at.shape; exact ⟨_,_,_,rfl,ho⟩
    | false=>rw [hs0 hi,hsum.out.2 hi]; exact ⟨_,_,_,rfl,OwnI.nil _ _⟩
   clear hs1 hs0
   have A12:=AD.facs b12 bd.size hfo
   have c12:=Below.step bd b12
   replace hfo:=Hd hfo
   have g21:=A12.cx 6 (by decide)
   have h21:=A12.fx 6
   have S21:=A12.sx 6 (.slice fa fn fc)
   have d21:=c12.setCell (p:=⟨x,6,none⟩) lowx.1 (.slice fa fn fc)
   have g22:=S21.cx 5 (by decide)
   have h22:=S21.fx 5
   have S22:=S21.sx 5 (.bool (isSum K R T))
   have d22:=d21.setCell (p:=⟨x,5,none⟩) lowx.1 (.bool (isSum K R T))
   have g23:=S22.ce 3 (by decide)
   have h23:=S22.fe 3
   have S23:=S22.se 3 (.nilIface)
   have d23:=d22.setCell (p:=⟨ee,3,none⟩) lowx.2.1 (.nilIface)
   have z0:=S23.cr 0 (by decide)
   have z1:=S23.cr 1 (by decide)
   have z2:=S23.cr 2 (by decide)
   go_wp2_with fail
   refine (sides_ok K R va vn vc T _ (h.out.below d23) hr.out).mono ?_
   rintro e w13 ⟨_,_,_,rfl,b13,rfl,rfl,rfl⟩
   clear g21 h21 g22 h22 g23 h23 z0 z1 z2
   rw [hL.out,hP.out]
   have A13:=S23.below b13
   have c13:=Below.step d23 b13
   have g24:=A13.cx 7 (by decide)
   have h24:=A13.fx 7
   have S24:=A13.sx 7 (.bool L)
   have d24:=c13.setCell (p:=⟨x,7,none⟩) lowx.1 (.bool L)
   have g25:=S24.cx 8 (by decide)
   have h25:=S24.fx 8
   have S25:=S24.sx 8 (.bool P)
   have d25:=d24.setCell (p:=⟨x,8,none⟩) lowx.1 (.bool P)
   have g26:=S25.ce 4 (by decide)
   have h26:=S25.fe 4
   have S26:=S25.se 4 (.nilIface)
   have d26:=d25.setCell (p:=⟨ee,4,none⟩) lowx.2.1 (.nilIface)
   have AE:=S26
   have bE:=d26
   obtain ⟨WE,hWE⟩:∃ W:World,(((w13.setCell ⟨x,7,none⟩ (.bool L)).setCell ⟨x,8,none⟩ (.bool P)).setCell ⟨ee,4,none⟩ .nilIface)=W:=⟨_,rfl⟩
   rw [hWE] at AE bE
   replace AE:=Hd AE
   replace bE:=Hd bE
   replace hWE:=Hd hWE
   go_upto_region 23 with fail
   rw [hWE.out]
   replace AE:=AE.out
   replace bE:=bE.out
   clear g24 h24 g25 h25 g26 h26
   clear hWE
   have ce0:=AE.ce 0 (by decide)
   have ce1:=AE.ce 1 (by decide)
   have ce2:=AE.ce 2 (by decide)
   have ce3:=AE.ce 3 (by decide)
   have ce4:=AE.ce 4 (by decide)
   have cx0:=AE.cx 0 (by decide)
   have co0:=AE.co 0 (by decide)
   have cf0:=AE.fo 0
   have cx1:=AE.cx 1 (by decide)
   have co1:=AE.co 1 (by decide)
   have cf1:=AE.fo 1
   have cx2:=AE.cx 2 (by decide)
   have co2:=AE.co 2 (by decide)
   have cf2:=AE.fo 2
   have cx3:=AE.cx 3 (by decide)
   have co3:=AE.co 3 (by decide)
   have cf3:=AE.fo 3
   have cx4:=AE.cx 4 (by decide)
   have co4:=AE.co 4 (by decide)
   have cf4:=AE.fo 4
   have cx5:=AE.cx 5 (by decide)
   have co5:=AE.co 5 (by decide)
   have cf5:=AE.fo 5
   have cx6:=AE.cx 6 (by decide)
   have co6:=AE.co 6 (by decide)
   have cf6:=AE.fo 6
   have cx7:=AE.cx 7 (by decide)
   have co7:=AE.co 7 (by decide)
   have cf7:=AE.fo 7
   have cx8:=AE.cx 8 (by decide)
   have co8:=AE.co 8 (by decide)
   have cf8:=AE.fo 8
   have AF:=(((((((((AE.so 0 (.int .i64 (ontoN S))).so 1 (.slice oa on oc)).so 2 (.bool Y)).so 3 (.bool F)).so 4 (.int .i64 (radL K R T))).so 5 (.bool (isSum K R T))).so 6 (.slice fa fn fc)).so 7 (.bool L)).so 8 (.bool P))
   have bF:=(((((((((bE.setCell (p:=⟨o,0,none⟩) lowx.2.2 (.int .i64 (ontoN S))).setCell (p:=⟨o,1,none⟩) lowx.2.2 (.slice oa on oc)).setCell (p:=⟨o,2,none⟩) lowx.2.2 (.bool Y)).setCell (p:=⟨o,3,none⟩) lowx.2.2 (.bool F)).setCell (p:=⟨o,4,none⟩) lowx.2.2 (.int .i64 (radL K R T))).setCell (p:=⟨o,5,none⟩) lowx.2.2 (.bool (isSum K R T))).setCell (p:=⟨o,6,none⟩) lowx.2.2 (.slice fa fn fc)).setCell (p:=⟨o,7,none⟩) lowx.2.2 (.bool L)).setCell (p:=⟨o,8,none⟩) lowx.2.2 (.bool P))
   obtain ⟨WF,hWF⟩:∃ W:World,(((((((((WE.setCell ⟨o,0,none⟩ (.int .i64 (ontoN S))).setCell ⟨o,1,none⟩ (.slice oa on oc)).setCell ⟨o,2,none⟩ (.bool Y)).setCell ⟨o,3,none⟩ (.bool F)).setCell ⟨o,4,none⟩ (.int .i64 (radL K R T))).setCell ⟨o,5,none⟩ (.bool (isSum K R T))).setCell ⟨o,6,none⟩ (.slice fa fn fc)).setCell ⟨o,7,none⟩ (.bool L)).setCell ⟨o,8,none⟩ (.bool P))=W:=⟨_,rfl⟩
   rw [hWF] at AF bF
   have cr0:=AF.co 0 (by decide)
   have cr1:=AF.co 1 (by decide)
   have cr2:=AF.co 2 (by decide)
   have cr3:=AF.co 3 (by decide)
   have cr4:=AF.co 4 (by decide)
   have cr5:=AF.co 5 (by decide)
   have cr6:=AF.co 6 (by decide)
   have cr7:=AF.co 7 (by decide)
   have cr8:=AF.co 8 (by decide)
   replace hWF:=Hd hWF
   replace cr0:=Hd cr0
   replace cr1:=Hd cr1
   replace cr2:=Hd cr2
   replace cr3:=Hd cr3
   replace cr4:=Hd cr4
   replace cr5:=Hd cr5
   replace cr6:=Hd cr6
   replace cr7:=Hd cr7
   replace cr8:=Hd cr8
   obtain ⟨l1,l2,l3⟩:=AF.lists
   have hrep:RepIs w.heap.size WF K R T (.agg #[.int .i64 (ontoN S),.slice oa on oc,.bool Y,.bool F,.int .i64 (radL K R T),.bool (isSum K R T),.slice fa fn fc,.bool L,.bool P]):=⟨Y,F,oa,on,oc,fa,fn,fc,hY.out,hF.out,by rw [hS.out,hL.out,hP.out],by rw [hS.out]; exact l1,l2,l3⟩
   clear AE AF l1 l2 l3 bE hg1 hG1 hT1 hB i1 i2 i3 hsum hrad hsm AC AD bc bd hN
   replace hrep:=Hd hrep
   replace bF:=Hd bF
   have ix0:=idx5_0
   have ix1:=idx5_1
   have ix2:=idx5_2
   have ix3:=idx5_3
   have ix4:=idx5_4
   go_wp2
   refine wp_loop_rounds 6 ?_
   iterate 6
    rw [rounds_succ]
    go_wp2
   rw [hWF.out]
   exact bodyPost_ret (v:=.tuple #[.agg #[.int .i64 (ontoN S),.slice oa on oc,.bool Y,.bool F,.int .i64 (radL K R T),.bool (isSum K R T),.slice fa fn fc,.bool L,.bool P],.nilIface]) (by simp [results,Tryz.results23,go_sem,cr0.out,cr1.out,cr2.out,cr3.out,cr4.out,cr5.out,cr6.out,cr7.out,cr8.out]) rfl ⟨_,_,rfl,bF.out,rfl,hrep.out⟩
end Go.Proofs.YtncpnaoabkjegaaGreatDoor
namespace Go.Proofs.YtncpnaoabkjegaaGreatDoor
theorem twins_swap {K R:Nat} {T a b:List Int} (h:IsTwins K R T a b) {k:Nat}:∀ j,j≤k→∀ x,Syms K x→x.length=k*a.length+2*R→∃ x',Syms K x'∧x'.length=x.length∧imgP K R T x'=imgP K R T x∧∀ i,i<j→(x'.drop (i*a.length)).take a.length≠a
 | 0,_,x,sx,_=>⟨x,sx,rfl,rfl,fun _ hi=>absurd hi (Nat.not_lt_zero _)⟩
 | j+1,hj,x,sx,lx=>by
  obtain ⟨y,sy,ly,ey,hy⟩:=twins_swap h j (by omega) x sx lx
  by_cases e:(y.drop (j*a.length)).take a.length=a
  ·have hle:j*a.length+a.length≤k*a.length:=by rw [← Nat.succ_mul]; exact Nat.mul_le_mul_right _ hj
   have hsplit:y=y.take (j*a.length)++a++y.drop (j*a.length+a.length):=by
    have h1:=(List.take_append_drop (j*a.length) y).symm
    have h2:=(List.take_append_drop a.length (y.drop (j*a.length))).symm
    rw [e,List.drop_drop] at h2
    rw [List.append_assoc,← h2,← h1]
   have hlu:(y.take (j*a.length)).length=j*a.length:=by rw [List.length_take]; omega
   have hc:=h.context (y.take (j*a.length)) (y.drop (j*a.length+a.length))
   refine ⟨y.take (j*a.length)++b++y.drop (j*a.length+a.length),?_,?_,?_,fun i hi=>?_⟩
   ·intro z hz
    rcases List.mem_append.1 hz with hz | hz
    ·rcases List.mem_append.1 hz with hz | hz
     ·exact sy z (List.mem_of_mem_take hz)
     ·exact h.sb z hz
    ·exact sy z (List.mem_of_mem_drop hz)
   ·rw [← ly]
    have:=congrArg List.length hsplit
    simp only [List.length_append] at this ⊢
    rw [← h.len]; omega
   ·rw [← hc,← hsplit,ey]
   ·rcases Nat.lt_or_ge i j with hij | hij
    ·have hle2:i*a.length+a.length≤j*a.length:=by rw [← Nat.succ_mul]; exact Nat.mul_le_mul_right _ hij
     have e1:((y.take (j*a.length)++b++y.drop (j*a.length+a.length)).drop (i*a.length)).take a.length=(y.drop (i*a.length)).take a.length:=by
      rw [List.append_assoc,List.drop_append_of_le_length (by omega),List.take_append_of_le_length (by rw [List.length_drop,hlu]; omega)]
      rw [List.drop_take,List.take_take,Nat.min_eq_left (by omega)]
     rw [e1]; exact hy i hij
    ·obtain rfl:i=j:=by omega
     have e1:((y.take (i*a.length)++b++y.drop (i*a.length+a.length)).drop (i*a.length)).take a.length=b:=by
      rw [List.append_assoc,List.drop_left' hlu,List.take_left' h.len.symm]
     rw [e1]; exact h.ne.symm
  ·refine ⟨y,sy,ly,ey,fun i hi=>?_⟩
   rcases Nat.lt_or_ge i j with hij | hij
   ·exact hy i hij
   ·obtain rfl:i=j:=by omega
    exact e
theorem IsTwins.not_onto {K R:Nat} {T a b:List Int} (hr:RuleOk K R T) (h:IsTwins K R T a b):¬ Onto K R T:=fun ho=>by
 have hK:=hr.k1
 obtain ⟨k,hk⟩:=few (pw K a.length) (pw K (2*R)) (pw_pos _ hK)
 have ham:a∈wordsL K a.length:=(mem_wordsL hK).2 ⟨h.sa,rfl⟩
 have hsub:wordsL K (k*a.length) ⊆ (avoid K a.length (2*R) a k).map (imgP K R T):=by
  intro y hy
  obtain ⟨sy,ly⟩:=(mem_wordsL hK).1 hy
  obtain ⟨x,sx,lx,ex⟩:=ho y sy
  rw [ly] at lx
  obtain ⟨x',sx',lx',ex',hx'⟩:=twins_swap h k (Nat.le_refl _) x sx lx
  exact List.mem_map.2 ⟨x',mem_avoid hK k _ sx' (by rw [lx',lx]) hx',by rw [ex',ex]⟩
 have:=nodup_sub (wordsL_nodup (m:=k*a.length) hK) hsub
 rw [List.length_map,wordsL_len,avoid_len ham,pw_mul] at this
 omega
theorem onto_iff_no_twins {K R:Nat} {T:List Int} (hr:RuleOk K R T):Onto K R T↔∀ a b,¬ IsTwins K R T a b :=
 ⟨fun ho _ _ t=>t.not_onto hr ho,onto_of_no_twins hr⟩
theorem sub_on_twins {K R:Nat} {T:List Int} (hr:RuleOk K R T) {a:List (List Bool)} {b:List (List Int)} (h:subR K (pw K (2*R)) T=.on a b):∀ x y,¬ IsTwins K R T x y:=(onto_iff_no_twins hr).1 (sub_on hr h)
theorem sub_orphan_twins {K R:Nat} {T:List Int} (hr:RuleOk K R T) {w:List Int} (h:subR K (pw K (2*R)) T=.orphan w):∃ x y,IsTwins K R T x y :=
 Classical.byContradiction fun q=>sub_not_onto hr h (onto_of_no_twins hr fun x y t=>q ⟨x,y,t⟩)
end Go.Proofs.YtncpnaoabkjegaaGreatDoor
