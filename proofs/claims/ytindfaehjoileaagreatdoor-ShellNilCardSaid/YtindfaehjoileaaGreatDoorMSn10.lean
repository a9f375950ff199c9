/-
  Texts that the proof leans on.
-/
import Derived.Test.YtindfaehjoileaaGreatDoorMSn9
import Derived.ArgAppend
namespace Go.Proofs.YtindfaehjoileaaGreatDoor
open Go.RowKit
set_option maxRecDepth 100000
set_option maxHeartbeats 8000000
structure NInv (n:Nat) (adj:Nat→List Nat) (v:Nat) (on m:Nat→Bool) (q:List Nat) (i:Nat):Prop where
 nd:q.Nodup
 low:∀ x∈q,x<n∧Goes adj v x
 seen:∀ x,x<n→(m x=true↔x∈q)
 st:v∈q
 dn:∀ j x,j<i→q[j]?=some x→on x=false∧∀ t∈adj x,t∈q
theorem NInv.start {n:Nat} {adj:Nat→List Nat} {v:Nat} {on:Nat→Bool} (hv:v<n):NInv n adj v on (updN (fun _=>false) v true) [v] 0 :=
 ⟨by simp,fun x hx=>by rw [List.mem_singleton] at hx; subst hx; exact ⟨hv,.refl _⟩,fun x _=>by
   by_cases e:x=v
   ·subst e; simp [updN_same]
   ·rw [updN_other _ _ _ e]; simp [e],by simp,fun j x h=>absurd h (Nat.not_lt_zero _)⟩
theorem NInv.len {n:Nat} {adj:Nat→List Nat} {v:Nat} {on m:Nat→Bool} {q:List Nat} {i:Nat} (h:NInv n adj v on m q i):q.length≤n:=nodup_len n q h.nd fun x hx=>(h.low x hx).1
theorem NInv.push {n:Nat} {adj:Nat→List Nat} {v:Nat} {on m:Nat→Bool} {q:List Nat} {i u t:Nat} (h:NInv n adj v on m q i) (hu:u∈q) (ht:t∈adj u) (htn:t<n) (hm:m t=false) (hi:i≤q.length):NInv n adj v on (updN m t true) (q++[t]) i:=by
 have hnt:t∉q:=fun e=>by have:=(h.seen t htn).2 e; rw [hm] at this; cases this
 refine ⟨List.nodup_append.2 ⟨h.nd,by simp,fun a ha b hb e=>by rw [List.mem_singleton] at hb; subst hb; subst e; exact hnt ha⟩,fun x hx=>?_,fun x hx=>?_,List.mem_append_left _ h.st,fun j x hj hx=>?_⟩
 ·rcases List.mem_append.1 hx with hx | hx
  ·exact h.low x hx
  ·rw [List.mem_singleton] at hx; subst hx; exact ⟨htn,(h.low u hu).2.step ht⟩
 ·rw [List.mem_append,List.mem_singleton]
  by_cases e:x=t
  ·subst e; simp [updN_same]
  ·rw [updN_other _ _ _ e,h.seen x hx]; simp [e]
 ·rw [List.getElem?_append_left (by omega)] at hx
  obtain ⟨h1,h2⟩:=h.dn j x hj hx
  exact ⟨h1,fun s hs=>List.mem_append_left _ (h2 s hs)⟩
theorem NInv.next {n:Nat} {adj:Nat→List Nat} {v:Nat} {on m:Nat→Bool} {q:List Nat} {i u:Nat} (h:NInv n adj v on m q i) (hu:q[i]?=some u) (ho:on u=false) (ha:∀ t∈adj u,t∈q):NInv n adj v on m q (i+1) :=
 ⟨h.nd,h.low,h.seen,h.st,fun j x hj hx=>by
   by_cases e:j=i
   ·subst e; rw [hu] at hx; cases hx; exact ⟨ho,ha⟩
   ·exact h.dn j x (by omega) hx⟩
theorem NInv.stop {n:Nat} {adj:Nat→List Nat} {v:Nat} {on m:Nat→Bool} {q:List Nat} (h:NInv n adj v on m q q.length) {u:Nat} (ho:on u=true) (hg:Goes adj v u):False:=by
 have hc:u∈q:=Goes.closed (P:=fun x=>x∈q) (fun x hx t ht=>by
  obtain ⟨j,hj,e⟩:=List.mem_iff_getElem.1 hx
  exact (h.dn j x hj (by rw [List.getElem?_eq_getElem hj,e])).2 t ht) hg h.st
 obtain ⟨j,hj,e⟩:=List.mem_iff_getElem.1 hc
 have:=(h.dn j u hj (by rw [List.getElem?_eq_getElem hj,e])).1
 rw [ho] at this; cases this
structure NB (f:Names) (sv qv:Value) (n:Nat) (m:Nat→Bool) (q:List Nat):Prop where
 outs:f (1,0)=some (rowV 4 sv (tabB n m))
 queue:f (2,0)=some (rowI qv (castI q))
section
variable {B:Nat} {w:World} {f:Names} {ov qv:Value} {n:Nat} {m:Nat→Bool} {q:List Nat}
theorem NB.mark (h:NB f ov qv n m q) (hr:Rows B w f) (t:Nat) (ht:t<n):∃ f',Rows B (w.setCell (valAt ov t) (.bool true)) f'∧NB f' ov qv n (updN m t true) q:=by
 have hs:=hr.setV h.outs t (by rw [tabB_len]; exact ht) (.bool true)
 rw [tabB_upd] at hs
 exact ⟨_,hs,⟨upd_same _ _ _,by rw [upd_ne _ _ (by simp)]; exact h.queue⟩⟩
theorem NB.push (h:NB f ov qv n m q) (hr:Rows B w f) {w1:World} {qv':Value} (t:Nat) (ho:OwnI B w1 qv' (castI q++[(t:Int)]))
 (hal:(roomOf qv'=roomOf qv∧w.grownBy w1 qv.ownBlock)∨(∃ k,qv'.ownBlock=some k∧w.heap.size≤k∧w.grownBy w1 none)):∃ f',Rows B w1 f'∧NB f' ov qv' n m (q++[t]):=by
 have hO:=hr.ownI h.queue
 have hg:w.grownBy w1 qv.ownBlock:=grown_via (hal.imp (·.2) (fun ⟨_,_,_,q⟩=>q))
 have hob:qv'.ownBlock=qv.ownBlock∨∃ k,qv'.ownBlock=some k∧w.heap.size≤k:=by
  rcases hal with ⟨q,_⟩ | ⟨k,h1,h2,_⟩
  ·obtain ⟨a1,n1,c1,e1⟩:=hO.at.shape
   obtain ⟨a2,n2,c2,e2⟩:=ho.at.shape
   exact .inl (ownBlock_of_room e1 e2 q)
  ·exact .inr ⟨k,h1,h2⟩
 exact ⟨_,hr.grown (r':=rowI qv' (castI q++[(t:Int)])) h.queue hg ho hob,⟨by rw [upd_ne _ _ (by simp)]; exact h.outs,by rw [upd_same,castI_snoc]⟩⟩
end
theorem near_any (na:Option Addr) (nc:Nat) (G:List (List Int)) (bv:Value) (on:Nat→Bool) (v:Nat) (w:World) (h:ListsAt w (.slice na G.length nc) G) (hok:GraphOk G) (hn:G.length≤8200) (hb:ValsAt w bv (tabB G.length on)) (hv:v<G.length)
 (hex:∃ u,on u=true∧Goes (adjOf G) v u) (P:Nat→Prop) (hP:∀ x,x<G.length→(on x=true↔P x)) :
 Calls Tryz.prog 271 #[.slice na G.length nc,bv,.int .i64 v] w (Ret1 (fun x _=>∃ u,x=.int .i64 ((u:Nat):Int)∧u<G.length∧on u=true∧Goes (adjOf G) v u∧NearIs (adjOf G) P v u) w):=by
 obtain ⟨sv,w1,mk,hin,hb1⟩:=run_makeW oneBoolG (G.length:Int) G.length w rfl (by omega)
 obtain ⟨sa,sn,sc,rfl⟩:=hin.shape
 rw [← tabB_none] at hin
 have R1:=(Rows.void w.heap.size w).add (i:=(1,0)) (r':=rowV 4 (.slice sa sn sc) (tabB G.length fun _=>false)) hb1 hin (fun k hk=>(hin.lt k hk).1)
 have hOV:=R1.ownV (upd_same _ _ _)
 have iV:=fun w'=>hOV.at.idx oneBoolG v (by rw [tabB_len]; exact hv) w'
 have cV:=hOV.at.cellV v (by rw [tabB_len]; exact hv)
 have fV:=hOV.frz v (by rw [tabB_len]; exact hv)
 have kV:=(hOV.blkB v (by rw [tabB_len]; exact hv)).2
 rw [tabB_get _ _ _ hv] at cV
 have R2:=R1.setV (upd_same _ _ _) v (by rw [tabB_len]; exact hv) (.bool true)
 rw [tabB_upd] at R2
 have b2:Below w.heap.size w (w1.setCell (valAt (.slice sa sn sc) v) (.bool true)):=hb1.setCell kV _
 generalize valAt (.slice sa sn sc) v=va at *
 obtain ⟨W2,hW2⟩:∃ W2:World,W2=w1.setCell va (.bool true):=⟨_,rfl⟩
 rw [← hW2] at R2 b2
 have hB2:=b2.size
 have bL:=belowAlloc W2 (.cells #[.int .i64 (v:Int)] 3)
 have R3:=R2.add (i:=(2,0)) (r':=rowI (.slice (some ⟨W2.heap.size,0,none⟩) 1 1) (castI [v])) bL (OwnI.lit w.heap.size W2 hB2 (castI [v]) (by simp [maxLen,castI]) #[.int .i64 (v:Int)] rfl 1 rfl) (fun k hk=>by cases hk; exact Nat.le_refl _)
 have h3:NB (upd (upd (upd (fun _=>Option.none) (1,0) (some (rowV 4 (.slice sa sn sc) (tabB G.length fun _=>false)))) (1,0) (some (rowV 4 (.slice sa sn sc) (tabB G.length (updN (fun _=>false) v true))))) (2,0) (some (rowI (.slice (some ⟨W2.heap.size,0,none⟩) 1 1) (castI [v])))) (.slice sa sn sc) (.slice (some ⟨W2.heap.size,0,none⟩) 1 1) G.length (updN (fun _=>false) v true) [v]:=⟨by rw [upd_ne _ _ (by simp),upd_same],by rw [upd_same]⟩
 generalize upd (upd (upd (fun _=>Option.none) (1,0) (some (rowV 4 (.slice sa sn sc) (tabB G.length fun _=>false)))) (1,0) (some (rowV 4 (.slice sa sn sc) (tabB G.length (updN (fun _=>false) v true))))) (2,0) (some (rowI (.slice (some ⟨W2.heap.size,0,none⟩) 1 1) (castI [v])))=f3 at *
 have b3:=b2.trans (bL.mono hB2)
 replace hex:=Hd hex
 replace hP:=Hd hP
 replace h:=Hd h
 replace hok:=Hd hok
 replace hb:=Hd hb
 replace R3:=Hd R3
 replace h3:=Hd h3
 replace hW2:=Hd hW2
 have hlg:=h.out.len 3 w
 clear R1 R2 hOV hin
 go_enter Tryz.func271,Tryz.ntmps271
 go_upto_region 3 with fail
 rw [← hW2.out]
 clear mk iV cV fV
 go_wp2_with fail
 go_loopw [8,9] (fun qv iv wr=>∃ (i:Nat) (m:Nat→Bool) (q:List Nat) (f:Names) (qw:Value),qw=qv∧iv=.int .i64 i∧i≤q.length∧Rows w.heap.size wr f∧Below w.heap.size w wr∧NB f (.slice sa sn sc) qw G.length m q∧NInv G.length (adjOf G) v on m q i∧NRun (adjOf G) P v q i) (fun _ iv _=>G.length-(intOf iv).toNat)
 case atStart=>exact ⟨0,_,_,f3,_,rfl,rfl,Nat.zero_le _,R3.out,b3,h3.out,NInv.start hv,NRun.start _ _ _⟩
 case round =>
  clear h3 R3 b3
  obtain ⟨i,m,q,f4,qv,rfl,rfl,hi,hr4,b4,h4,hI,hN⟩:=hrel
  obtain ⟨wo,rfl⟩:∃ wo:World,wo=wr:=⟨_,rfl⟩
  have hql:=hI.len
  have hOQ:=hr4.ownI h4.queue
  have lQ:=hOQ.at.len
  rw [castI_len] at lQ
  by_cases hil:i<q.length
  ·obtain ⟨u,hu⟩:∃ u,q[i]?=some u:=⟨_,List.getElem?_eq_getElem hil⟩
   have hum:=List.mem_of_getElem? hu
   obtain ⟨hun,hug⟩:=hI.low u hum
   have iQ:=fun w'=>hOQ.at.idx i (by rw [castI_len]; exact hil) w'
   have cQ:=hOQ.at.cellD i (by rw [castI_len]; exact hil)
   rw [castI_get hu] at cQ
   have hbo:=hb.out.below b4
   have iB:=fun w'=>hbo.idx oneBoolG u (by rw [tabB_len]; exact hun) w'
   have cB:=hbo.cellV u (by rw [tabB_len]; exact hun)
   rw [tabB_get _ _ _ hun] at cB
   generalize valAt qv i=qa at *
   generalize valAt bv u=ba at *
   obtain ⟨bo,hbo2⟩:∃ bo,on u=bo:=⟨_,rfl⟩
   rw [hbo2] at cB
   replace hOQ:=Hd hOQ
   replace hbo:=Hd hbo
   cases bo with
   | true =>
    have hnr:=hN.hit hu ((hP.out u hun).1 hbo2)
    replace hnr:=Hd hnr
    replace hN:=Hd hN
    replace hI:=Hd hI
    replace hr4:=Hd hr4
    replace hu:=Hd hu
    replace hum:=Hd hum
    replace hbo2:=Hd hbo2
    replace hug:=Hd hug
    go_wp2
    go_ret
    exact ⟨_,rfl,b4,u,rfl,hun,hbo2.out,hug.out,hnr.out⟩
   | false =>
    have hent:=hN.enter hu (fun e=>by have:=(hP.out u hun).2 e; rw [hbo2] at this; cases this)
    replace hent:=Hd hent
    replace hN:=Hd hN
    obtain ⟨xv,iR,cR0,hM0⟩:=h.out.row u hun
    have cR:=(b4.cell (World.block_lt_of_cell? _ _ cR0)).trans cR0
    have hM:=hM0.below b4
    have hgp:=hok.out u hun
    have hadj:adjOf G u=(G.getD u []).map Int.toNat:=rfl
    generalize G.getD u []=gx at *
    have lM:=hM.len
    have hglen:=hM.len_le
    generalize valAt (.slice na G.length nc) u=ra at *
    replace hM:=Hd hM
    replace hM0:=Hd hM0
    replace hgp:=Hd hgp
    replace hadj:=Hd hadj
    replace hI:=Hd hI
    replace hr4:=Hd hr4
    replace hu:=Hd hu
    replace hum:=Hd hum
    replace hbo2:=Hd hbo2
    replace hug:=Hd hug
    have hil2:=Hd hil
    go_wp2_with fail
    clear iQ cQ iB cB iR cR lM lQ
    go_loopw [8,41] (fun qv jv wr=>∃ (j:Nat) (m:Nat→Bool) (q:List Nat) (f:Names) (qw:Value),qw=qv∧jv=.int .i64 j∧j≤gx.length∧Rows w.heap.size wr f∧Below w.heap.size w wr∧NB f (.slice sa sn sc) qw G.length m q∧NInv G.length (adjOf G) v on m q i∧q[i]?=some u∧(∀ s,s<j→(gx.getD s 0).toNat∈q)∧NRunIn (adjOf G) P v q i u j) (fun _ jv _=>gx.length-(intOf jv).toNat)
    case atStart=>exact ⟨0,m,q,f4,_,rfl,rfl,by omega,hr4.out,b4,h4,hI.out,hu.out,(fun s hs=>by omega),hent.out⟩
    case round =>
     clear hr4 h4 b4 hI hu hum hi hil hil2 hql hOQ hbo hM hN hent
     obtain ⟨j,m,q,f5,qv,rfl,rfl,hj,hr5,b5,h5,hI,hu,hdone,hNI⟩:=hrel
     obtain ⟨wo,rfl⟩:∃ wo:World,wo=wr:=⟨_,rfl⟩
     have hum:=List.mem_of_getElem? hu
     have hil:i<q.length:=(List.getElem?_eq_some_iff.1 hu).1
     have hql:=hI.len
     by_cases hjl:j<gx.length
     ·have hMj:=hM0.out.below b5
      have hgj:=hgp.out gx[j] (List.getElem_mem hjl)
      obtain ⟨t,hu2⟩:∃ t:Nat,gx[j]=t:=Int.eq_ofNat_of_zero_le hgj.1
      have htn:t<G.length:=by rw [hu2] at hgj; omega
      have hgd:gx.getD j 0=(t:Int):=by rw [List.getD_eq_getElem?_getD,List.getElem?_eq_getElem hjl,hu2]; rfl
      have hta:t∈adjOf G u:=by
       rw [hadj.out]
       exact List.mem_map.2 ⟨gx[j],List.getElem_mem hjl,by rw [hu2]; rfl⟩
      have htj:(adjOf G u)[j]?=some t:=by
       rw [hadj.out,List.getElem?_map,List.getElem?_eq_getElem hjl,hu2]; rfl
      have iJ:=fun w'=>hMj.idx j hjl w'
      have cJ:=hMj.cellD j hjl
      rw [hgd] at cJ
      have hOV:=(hr5.ownV h5.outs)
      have iT:=fun w'=>hOV.at.idx oneBoolG t (by rw [tabB_len]; exact htn) w'
      have cT:=hOV.at.cellV t (by rw [tabB_len]; exact htn)
      rw [tabB_get _ _ _ htn] at cT
      have fT:=hOV.frz t (by rw [tabB_len]; exact htn)
      have kT:=(hOV.blkB t (by rw [tabB_len]; exact htn)).2
      obtain ⟨f6,hr6,h6⟩:=h5.mark hr5 t htn
      have b6:Below w.heap.size w (wo.setCell (valAt (.slice sa sn sc) t) (.bool true)):=b5.setCell kT _
      generalize valAt xv j=ja at *
      generalize valAt (.slice sa sn sc) t=ta at *
      obtain ⟨bt,hbt⟩:∃ bt,m t=bt:=⟨_,rfl⟩
      rw [hbt] at cT
      cases bt with
      | false =>
       have hpush:=hI.push hum hta htn hbt (by omega)
       have hnp:=hNI.push htj (fun e=>by have:=(hI.seen t htn).2 e; rw [hbt] at this; cases this)
       replace hnp:=Hd hnp
       replace hNI:=Hd hNI
       replace htj:=Hd htj
       have hu3:(q++[t])[i]?=some u:=by rw [List.getElem?_append_left hil]; exact hu
       have hdone2:∀ s,s<j+1→(gx.getD s 0).toNat∈q++[t]:=fun s hs=>by
        by_cases e:s=j
        ·subst e; rw [hgd]; simp
        ·exact List.mem_append_left _ (hdone s (by omega))
       replace hpush:=Hd hpush
       replace hu3:=Hd hu3
       replace hdone2:=Hd hdone2
       replace hdone:=Hd hdone
       replace hI:=Hd hI
       replace hbt:=Hd hbt
       replace hr5:=Hd hr5
       replace hr6:=Hd hr6
       replace hOV:=Hd hOV
       replace hMj:=Hd hMj
       replace hgd:=Hd hgd
       replace hgj:=Hd hgj
       replace hu2:=Hd hu2
       replace hu:=Hd hu
       replace hum:=Hd hum
       replace hta:=Hd hta
       go_upto_region 15 with fail
       obtain ⟨W6,hW6⟩:∃ W6:World,W6=wo.setCell ta (.bool true):=⟨_,rfl⟩
       rw [← hW6]
       rw [← hW6] at hr6 b6
       clear hW6 iJ cJ iT cT fT
       have hOQ:=hr6.out.ownI h6.queue
       have hB6:w.heap.size≤W6.heap.size:=b6.size
       go_wp2_with (at_builtin; refine wpl_app1 rfl _ _ rfl w.heap.size qv (castI q) t hOQ rfl rfl (by rw [castI_len]; omega) hB6 ?_)
       intro qv' w7 ho7 b7 hal7
       obtain ⟨f7,hr7,h7⟩:=h6.push hr6.out t ho7 hal7
       replace hr7:=Hd hr7
       replace ho7:=Hd ho7
       clear hal7
       go_wp2
       go_roundw
       case measure=>simp [intOf]; omega
       case rel=>exact ⟨j+1,updN m t true,q++[t],f7,qv',rfl,by go_num,by omega,hr7.out,b6.trans b7,h7,hpush.out,hu3.out,hdone2.out,hnp.out⟩
      | true =>
       have hnp:=hNI.old htj ((hI.seen t htn).1 hbt)
       replace hnp:=Hd hnp
       replace hNI:=Hd hNI
       replace htj:=Hd htj
       have hdone2:∀ s,s<j+1→(gx.getD s 0).toNat∈q:=fun s hs=>by
        by_cases e:s=j
        ·subst e; rw [hgd]; exact (hI.seen t htn).1 hbt
        ·exact hdone s (by omega)
       replace hdone2:=Hd hdone2
       replace hdone:=Hd hdone
       replace hI:=Hd hI
       replace hbt:=Hd hbt
       replace hr5:=Hd hr5
       replace hr6:=Hd hr6
       replace hOV:=Hd hOV
       replace hMj:=Hd hMj
       replace hgd:=Hd hgd
       replace hgj:=Hd hgj
       replace hu2:=Hd hu2
       replace hu:=Hd hu
       replace hum:=Hd hum
       replace hta:=Hd hta
       go_wp2
       go_roundw
       case measure=>simp [intOf]; omega
       case rel=>exact ⟨j+1,m,q,f5,qv,rfl,by go_num,by omega,hr5.out,b5,h5,hI.out,hu.out,hdone2.out,hnp.out⟩
     ·obtain rfl:j=gx.length:=by omega
      have hfin:=hI.next hu hbo2.out (fun t ht=>by
       rw [hadj.out] at ht
       obtain ⟨x,hx,rfl⟩:=List.mem_map.1 ht
       obtain ⟨s,hs,rfl⟩:=List.mem_iff_getElem.1 hx
       have:=hdone s hs
       rw [List.getD_eq_getElem?_getD,List.getElem?_eq_getElem hs] at this
       exact this)
      have hnl:NRun (adjOf G) P v q (i+1):=by
       have hl:gx.length=(adjOf G u).length:=by rw [hadj.out,List.length_map]
       rw [hl] at hNI
       exact hNI.leave
      replace hnl:=Hd hnl
      replace hNI:=Hd hNI
      replace hfin:=Hd hfin
      replace hdone:=Hd hdone
      replace hI:=Hd hI
      replace hr5:=Hd hr5
      replace hu:=Hd hu
      replace hum:=Hd hum
      go_wp2
      go_roundw
      case measure=>simp [intOf]; omega
      case rel=>exact ⟨i+1,m,q,f5,qv,rfl,by go_num,by omega,hr5.out,b5,h5,hfin.out,hnl.out⟩
  ·obtain rfl:i=q.length:=by omega
   obtain ⟨u,ho,hg⟩:=hex.out
   exact absurd hg (fun hg=>hI.stop ho hg)
def rowB (k:Nat) (F:Nat→List Int) (l:List Int):Nat→List Int:=l.foldl (fun F x=>updN F x.toNat (F x.toNat++[(k:Int)])) F
theorem rowB_snoc (k:Nat) (F:Nat→List Int) (l:List Int) (u:Nat):updN (rowB k F l) u (rowB k F l u++[(k:Int)])=rowB k F (l++[(u:Int)]):=by
 unfold rowB; rw [List.foldl_append]; rfl
def runB (G:List (List Int)):Nat→Nat→List Int
 | 0=>fun _=>[]
 | k+1=>rowB k (runB G k) (G.getD k [])
def turnG (G:List (List Int)):List (List Int):=rowsOf G.length (runB G G.length)
theorem turned14_any (na:Option Addr) (nc:Nat) (G:List (List Int)) (w:World) (h:ListsAt w (.slice na G.length nc) G) (hok:GraphOk G) (hn:G.length≤8200) (harr:arrowsTo G G.length≤262144) :
 Calls Tryz.prog 272 #[.slice na G.length nc] w (Ret1 (fun x w'=>TurnedOf G (turnG G)∧ListsAt w' x (turnG G)) w):=by
 obtain ⟨ov,w1,mk,ho,hb1⟩:=run_makeW oneLists (G.length:Int) G.length w rfl (by omega)
 obtain ⟨f1,hr1,h1⟩:=WN.made G.length hb1 (Nat.le_refl _) ho
 obtain ⟨oa,on,oc,rfl⟩:=ho.shape
 have hlen:∀ k,k<G.length→(G.getD k []).length≤262144:=fun k hk=>by
  have:=arrowsTo_mono G (show k+1≤G.length by omega)
  simp only [arrowsTo] at this; omega
 replace h:=Hd h
 replace hok:=Hd hok
 replace hr1:=Hd hr1
 replace ho:=Hd ho
 replace hlen:=Hd hlen
 go_enter Tryz.func272,Tryz.ntmps272
 go_wp2_with fail
 clear mk
 go_loopw [13] (fun kv wr=>∃ (k:Nat) (F:Nat→List Int) (f:Names) (vals:List Value),k≤G.length∧kv=.int .i64 k∧Rows w.heap.size wr f∧Below w.heap.size w wr∧WN f (.slice oa on oc) vals G.length F∧BackTo G k 0 F∧F=runB G k) (fun kv _=>G.length-(intOf kv).toNat)
 case atStart=>exact ⟨0,_,f1,_,by omega,rfl,hr1.out,hb1,h1,BackTo.zero G,rfl⟩
 case round =>
  clear h1 ho hr1
  obtain ⟨k,F,f2,vals,hk,rfl,hr2,b2,h2,hB,hFk⟩:=hrel
  obtain ⟨wo,rfl⟩:∃ wo:World,wo=wr:=⟨_,rfl⟩
  by_cases hlt:k<G.length
  ·obtain ⟨mv,iR,cR0,hM0⟩:=h.out.row k hlt
   have cR:=(b2.cell (World.block_lt_of_cell? _ _ cR0)).trans cR0
   clear cR0
   have hM:=hM0.below b2
   have hgl:=hlen.out k hlt
   have hgp:=hok.out k hlt
   have hBadd:=fun (j u:Nat) (F:Nat→List Int) (h:BackTo G k j F)=>h.add (u:=u)
   have hBnext:=fun (F:Nat→List Int) (h:BackTo G k (G.getD k []).length F)=>h.next
   have hBlen:=fun (j t:Nat) (F:Nat→List Int) (h:BackTo G k j F) (ht:t<G.length)=>(h t ht).1
   have harrk:=arrowsTo_mono G hk
   have hrun:runB G (k+1)=rowB k (runB G k) (G.getD k []):=rfl
   rw [← hFk] at hrun
   generalize hF0:F=F0 at hrun
   replace hF0:=Hd hF0
   replace hFk:=Hd hFk
   generalize G.getD k []=gk at *
   have lM:=hM.len
   generalize valAt (.slice na G.length nc) k=ra at *
   replace hrun:=Hd hrun
   replace hB:=Hd hB
   replace hBadd:=Hd hBadd
   replace hBnext:=Hd hBnext
   replace hBlen:=Hd hBlen
   replace hgp:=Hd hgp
   replace hr2:=Hd hr2
   replace hM:=Hd hM
   replace hM0:=Hd hM0
   go_wp2_with fail
   clear iR cR lM
   go_loopw [20] (fun jv wr=>∃ (j:Nat) (F:Nat→List Int) (f:Names) (vals:List Value),j≤gk.length∧jv=.int .i64 j∧Rows w.heap.size wr f∧Below w.heap.size w wr∧WN f (.slice oa on oc) vals G.length F∧BackTo G k j F∧F=rowB k F0 (gk.take j)) (fun jv _=>gk.length-(intOf jv).toNat)
   case atStart=>exact ⟨0,F,f2,vals,by omega,rfl,hr2.out,b2,h2,hB.out,by rw [List.take_zero]; exact hF0.out⟩
   case round =>
    clear hB hr2 h2 b2 hM hF0 hFk
    obtain ⟨j,F,f3,vals,hj,rfl,hr3,b3,h3,hB,hFj⟩:=hrel
    obtain ⟨wo,rfl⟩:∃ wo:World,wo=wr:=⟨_,rfl⟩
    by_cases hjl:j<gk.length
    ·have hMj:=hM0.out.below b3
     have hgj:=hgp.out gk[j] (List.getElem_mem hjl)
     obtain ⟨u,hu⟩:∃ u:Nat,gk[j]=u:=Int.eq_ofNat_of_zero_le hgj.1
     have hun:u<G.length:=by rw [hu] at hgj; omega
     have hgu:gk[j]?=some (u:Int):=by rw [List.getElem?_eq_getElem hjl,hu]
     have hgd:gk.getD j 0=(u:Int):=by rw [List.getD_eq_getElem?_getD,hgu]; rfl
     have iJ:=fun w'=>hMj.idx j hjl w'
     have cJ:=hMj.cellD j hjl
     rw [hgd] at cJ
     have hadd:=hBadd.out j u F hB hgu
     have hF2:updN F u (F u++[(k:Int)])=rowB k F0 (gk.take (j+1)):=by
      rw [List.take_add_one,hgu,Option.toList_some,← rowB_snoc,← hFj]
     replace hF2:=Hd hF2
     replace hFj:=Hd hFj
     have hfl:=hBlen.out j u F hB hun
     have hOV:=(hr3.ownV h3.outer).at
     have iO:=fun w'=>hOV.idx oneLists u (by rw [h3.len]; exact hun) w'
     have cO:=hOV.cellV u (by rw [h3.len]; exact hun)
     have hT:=hr3.ownI (h3.rows u hun)
     have happ:=fun (w1:World) (v':Value)=>h3.app hr3 hun (w1:=w1) (v':=v') (k:Int)
     have hput:=fun (w1:World) (v':Value) (xs:List Int)=>h3.put (B:=w.heap.size) (w1:=w1) hun (v':=v') (xs:=xs)
     have hB3:w.heap.size≤wo.heap.size:=b3.size
     generalize valAt mv j=ja at *
     generalize vAt vals u=tv at *
     generalize valAt (.slice oa on oc) u=ua at *
     replace hadd:=Hd hadd
     replace happ:=Hd happ
     replace hput:=Hd hput
     replace hB:=Hd hB
     replace hr3:=Hd hr3
     replace hOV:=Hd hOV
     replace hgu:=Hd hgu
     replace hgd:=Hd hgd
     replace hu:=Hd hu
     replace hgj:=Hd hgj
     go_wp2_with (at_builtin; refine wpl_app1 rfl _ _ rfl w.heap.size tv (F u) k hT rfl rfl (by omega) hB3 ?_)
     intro v' w7 ho7 b7 hal7
     have hR7:=happ.out w7 v' ho7 hal7
     obtain ⟨y1,y2,y3,f8,hr8,h8,_⟩:=hput.out w7 v' _ hR7
     obtain ⟨va,vn,vc,rfl⟩:=ho7.at.shape
     replace hr8:=Hd hr8
     replace ho7:=Hd ho7
     replace hR7:=Hd hR7
     clear hal7 hT iJ cJ cO
     go_wp2
     go_roundw
     case measure=>simp [intOf]; omega
     case rel=>exact ⟨j+1,_,f8,_,by omega,by go_num,hr8.out,(b3.trans b7).setCell y3 _,h8,hadd.out,hF2.out⟩
    ·obtain rfl:j=gk.length:=by omega
     have hnext:=hBnext.out F hB
     have hF2:F=runB G (k+1):=by rw [hrun.out,hFj,List.take_length]
     replace hF2:=Hd hF2
     replace hFj:=Hd hFj
     replace hnext:=Hd hnext
     replace hB:=Hd hB
     replace hr3:=Hd hr3
     go_wp2
     go_roundw
     case measure=>simp [intOf]; omega
     case rel=>exact ⟨k+1,F,f3,vals,by omega,by go_num,hr3.out,b3,h3,hnext.out,hF2.out⟩
  ·obtain rfl:k=G.length:=by omega
   have hT:=hB.turned
   have hL:=h2.lists hr2
   have heq:rowsOf G.length F=turnG G:=by rw [hFk]; rfl
   rw [heq] at hT hL
   replace heq:=Hd heq
   replace hFk:=Hd hFk
   replace hB:=Hd hB
   replace hT:=Hd hT
   replace hL:=Hd hL
   replace hr2:=Hd hr2
   go_wp2
   go_ret
   exact ⟨_,rfl,b2,hT.out,hL.out⟩
theorem step_appR {ops:Array Oper} {o:Oper} {a:Act} {w:World} {K:Act→World→Prop} {Q:Exit→Act→World→Prop} {Ep:Prop} (hgd:o.guard=none) (s x:Operand)
 (ho:o.op=.call { callee:=.builtin .append,args:=#[s,x],argTypes:=#[30,30] })
 (B:Nat) (v u:Value) (xs ys:List Int) (hs:a.eval s=v) (hx:a.eval x=u) (hown:OwnI B w v xs) (hu:IntsAt w u ys)
 (hlen:xs.length+ys.length≤17592186044416) (hB:B≤w.heap.size)
 (h:∀ v' w',OwnI B w' v' (xs++ys)→Below B w w'→w.grownBy w' v.ownBlock→(v'.ownBlock=v.ownBlock∨v'.ownBlock=some w.heap.size)→K (a.put o.dst v') w') :
 if Region.wanted o (yielded ops a.tmps)=true then Oper.wp Tryz.prog o a w K Q else Ep:=by
 have hw:Region.wanted o (yielded ops a.tmps)=true:=by simp [Region.wanted,hgd]
 rw [if_pos hw]
 obtain ⟨v',w',hr,h2,h3,h4,h5⟩:=run_appI B o.type v u xs ys hown hu hlen hB
 unfold Oper.wp
 simp [execOp,ho,resolve,invoke,builtin,hs,hx,hr,Result.andThen]
 exact h v' w' h2 h3 h4 h5
def SD (B:Nat) (W:World) (va:Value) (xs:List Int) (vb:Value) (ys:List Int) (L M:Option (Nat×Int)):Prop :=
 ∃ f,Rows B W f∧f (1,0)=some (rowI va xs)∧f (2,0)=some (rowI vb ys)∧(∀ b s,L=some (b,s)→f (3,0)=some (rowI (.slice (some ⟨b,0,none⟩) 1 1) [s]))∧(∀ b s,M=some (b,s)→f (4,0)=some (rowI (.slice (some ⟨b,0,none⟩) 1 1) [s]))
section
variable {B:Nat} {W:World} {va vb:Value} {xs ys:List Int} {L M:Option (Nat×Int)}
theorem SD.ownA (h:SD B W va xs vb ys L M):OwnI B W va xs:=by obtain ⟨f,hr,h1,_⟩:=h; exact hr.ownI h1
theorem SD.ownB (h:SD B W va xs vb ys L M):OwnI B W vb ys:=by obtain ⟨f,hr,_,h2,_⟩:=h; exact hr.ownI h2
theorem SD.litL {b:Nat} {s:Int} (h:SD B W va xs vb ys (some (b,s)) M):IntsAt W (.slice (some ⟨b,0,none⟩) 1 1) [s]:=by obtain ⟨f,hr,_,_,h3,_⟩:=h; exact (hr.ownI (h3 b s rfl)).at
theorem SD.litM {b:Nat} {s:Int} (h:SD B W va xs vb ys L (some (b,s))):IntsAt W (.slice (some ⟨b,0,none⟩) 1 1) [s]:=by obtain ⟨f,hr,_,_,_,h4⟩:=h; exact (hr.ownI (h4 b s rfl)).at
theorem SD.two (h:SD B W va xs vb ys L M):va.ownBlock=Option.none∨va.ownBlock≠vb.ownBlock:=by obtain ⟨f,hr,h1,h2,_⟩:=h; exact hr.2 (1,0) (2,0) _ _ h1 h2 (by simp)
theorem SD.forget (h:SD B W va xs vb ys L M):SD B W va xs vb ys Option.none Option.none:=by obtain ⟨f,hr,h1,h2,_⟩:=h; exact ⟨f,hr,h1,h2,(fun _ _ e=>by cases e),(fun _ _ e=>by cases e)⟩
theorem SD.below {w':World} (h:SD B W va xs vb ys L M) (hb:Below W.heap.size W w'):SD B w' va xs vb ys L M:=by obtain ⟨f,hr,h1⟩:=h; exact ⟨f,hr.below hb,h1⟩
theorem lit_own {B:Nat} {W:World} (hB:B≤W.heap.size) (s:Int):OwnI B (W.alloc (.cells #[.int .i64 s] 3)) (.slice (some ⟨W.heap.size,0,none⟩) 1 1) [s] :=
 OwnI.lit B W hB [s] (by simp [maxLen]) #[.int .i64 s] rfl 1 rfl
theorem SD.addL (h:SD B W va xs vb ys Option.none M) (hB:B≤W.heap.size) (s:Int) {b:Nat} (hb:b=W.heap.size):SD B (W.alloc (.cells #[.int .i64 s] 3)) va xs vb ys (some (b,s)) M:=by
 subst hb
 obtain ⟨f,hr,h1,h2,h3,h4⟩:=h
 refine ⟨_,hr.add (i:=(3,0)) (r':=rowI (.slice (some ⟨W.heap.size,0,none⟩) 1 1) [s]) (belowAlloc W _) (lit_own hB s) (fun k hk=>by cases hk; exact Nat.le_refl _),by rw [upd_ne _ _ (by simp)]; exact h1,by rw [upd_ne _ _ (by simp)]; exact h2,fun b t e=>?_,fun b t e=>by rw [upd_ne _ _ (by simp)]; exact h4 b t e⟩
 cases e; rw [upd_same]
theorem SD.addM (h:SD B W va xs vb ys L Option.none) (hB:B≤W.heap.size) (s:Int) {b:Nat} (hb:b=W.heap.size):SD B (W.alloc (.cells #[.int .i64 s] 3)) va xs vb ys L (some (b,s)):=by
 subst hb
 obtain ⟨f,hr,h1,h2,h3,h4⟩:=h
 refine ⟨_,hr.add (i:=(4,0)) (r':=rowI (.slice (some ⟨W.heap.size,0,none⟩) 1 1) [s]) (belowAlloc W _) (lit_own hB s) (fun k hk=>by cases hk; exact Nat.le_refl _),by rw [upd_ne _ _ (by simp)]; exact h1,by rw [upd_ne _ _ (by simp)]; exact h2,fun b t e=>by rw [upd_ne _ _ (by simp)]; exact h3 b t e,fun b t e=>?_⟩
 cases e; rw [upd_same]
theorem SD.appA {w':World} {v':Value} {s:Int} (h:SD B W va xs vb ys L M) (ho:OwnI B w' v' (xs++[s])) (hg:W.grownBy w' va.ownBlock) (hal:v'.ownBlock=va.ownBlock∨v'.ownBlock=some W.heap.size):SD B w' v' (xs++[s]) vb ys Option.none M:=by
 obtain ⟨f,hr,h1,h2,h3,h4⟩:=h
 refine ⟨_,hr.push h1 s ho hg (hal.imp id fun e=>⟨_,e,Nat.le_refl _⟩),upd_same _ _ _,by rw [upd_ne _ _ (by simp)]; exact h2,(fun _ _ e=>by cases e),fun b t e=>by rw [upd_ne _ _ (by simp)]; exact h4 b t e⟩
theorem SD.appB {w':World} {v':Value} {s:Int} (h:SD B W va xs vb ys L M) (ho:OwnI B w' v' (ys++[s])) (hg:W.grownBy w' vb.ownBlock) (hal:v'.ownBlock=vb.ownBlock∨v'.ownBlock=some W.heap.size):SD B w' va xs v' (ys++[s]) L Option.none:=by
 obtain ⟨f,hr,h1,h2,h3,h4⟩:=h
 refine ⟨_,hr.push h2 s ho hg (hal.imp id fun e=>⟨_,e,Nat.le_refl _⟩),by rw [upd_ne _ _ (by simp)]; exact h1,upd_same _ _ _,fun b t e=>by rw [upd_ne _ _ (by simp)]; exact h3 b t e,(fun _ _ e=>by cases e)⟩
end
def sideA (k n:Nat) (way:List Nat):List Int:=castI (way.map fun p=>p/n%k)
def sideB (k n:Nat) (way:List Nat):List Int:=castI (way.map fun p=>p%n%k)
theorem sideA_take {k n:Nat} {way:List Nat} {i p:Nat} (h:way[i]?=some p):sideA k n (way.take (i+1))=sideA k n (way.take i)++[((p/n%k:Nat):Int)]:=by
 rw [List.take_add_one,h]; simp [sideA,castI]
theorem sideB_take {k n:Nat} {way:List Nat} {i p:Nat} (h:way[i]?=some p):sideB k n (way.take (i+1))=sideB k n (way.take i)++[((p%n%k:Nat):Int)]:=by
 rw [List.take_add_one,h]; simp [sideB,castI]
theorem sideA_len (k n:Nat) (way:List Nat):(sideA k n way).length=way.length:=by simp [sideA,castI_len]
theorem sideB_len (k n:Nat) (way:List Nat):(sideB k n way).length=way.length:=by simp [sideB,castI_len]
theorem sides14_any (k n:Nat) (u:Value) (way:List Nat) (w:World) (hu:IntsAt w u (castI way)) (hk:1≤k) (hn:1≤n) (hlow:∀ p∈way,p≤1000000) (hlen:way.length≤1000000) :
 Calls Tryz.prog 275 #[.int .i64 k,.int .i64 n,u] w (Ret2 (fun x y w'=>OwnI w.heap.size w' x (sideA k n way)∧OwnI w.heap.size w' y (sideB k n way)∧(x.ownBlock=none∨x.ownBlock≠y.ownBlock)) w):=by
 have lu:=hu.len
 rw [castI_len] at lu
 obtain ⟨ua,un,uc,rfl⟩:=hu.shape
 have hk1:¬ (k:Int)=0:=by omega
 have hk2:((k:Int)==0)=false:=by rw [beq_eq_false_iff_ne]; omega
 have hk3:¬ k=0:=by omega
 have hn1:¬ (n:Int)=0:=by omega
 have hn2:((n:Int)==0)=false:=by rw [beq_eq_false_iff_ne]; omega
 have hn3:¬ n=0:=by omega
 have hS0:SD w.heap.size w (.slice none 0 0) (sideA k n (way.take 0)) (.slice none 0 0) (sideB k n (way.take 0)) Option.none Option.none:=by
  refine ⟨fun i=>if i=(1,0)∨i=(2,0) then some (rowI (.slice none 0 0) []) else Option.none,⟨fun i r hi=>?_,fun i j r s hi hj hne=>?_⟩,by simp [sideA,castI],by simp [sideB,castI],(fun _ _ e=>by cases e),(fun _ _ e=>by cases e)⟩
  ·dsimp only at hi
   split at hi
   ·cases hi; exact OwnI.nil _ _
   ·cases hi
  ·dsimp only at hi
   split at hi
   ·cases hi; exact .inl rfl
   ·cases hi
 replace hu:=Hd hu
 replace hlow:=Hd hlow
 replace hS0:=Hd hS0
 go_enter Tryz.func275,Tryz.ntmps275
 go_wp2_with fail
 go_loopw [8,9,14] (fun av bv iv wr=>∃ (i:Nat) (va vb:Value),i≤way.length∧iv=.int .i64 i∧va=av∧vb=bv∧SD w.heap.size wr va (sideA k n (way.take i)) vb (sideB k n (way.take i)) Option.none Option.none∧Below w.heap.size w wr) (fun _ _ iv _=>way.length-(intOf iv).toNat)
 case atStart=>exact ⟨0,_,_,by omega,rfl,rfl,rfl,hS0.out,Below.refl _ _⟩
 case round =>
  clear hS0
  obtain ⟨i,va,vb,hi,rfl,rfl,rfl,hS,hB⟩:=hrel
  obtain ⟨wo,rfl⟩:∃ wo:World,wo=wr:=⟨_,rfl⟩
  by_cases hil:i<way.length
  ·obtain ⟨p,hp⟩:∃ p,way[i]?=some p:=⟨_,List.getElem?_eq_getElem hil⟩
   have hpl:=hlow.out p (List.mem_of_getElem? hp)
   have huo:=hu.out.below hB
   have iU:=fun w'=>huo.idx i (by rw [castI_len]; exact hil) w'
   have cU:=huo.cellD i (by rw [castI_len]; exact hil)
   rw [castI_get hp] at cU
   have tA:=sideA_take (k:=k) (n:=n) hp
   have tB:=sideB_take (k:=k) (n:=n) hp
   have lA:=sideA_len k n (way.take i)
   have lB:=sideB_len k n (way.take i)
   rw [List.length_take] at lA lB
   have lA2:(sideA k n (way.take i)).length≤1000000:=by omega
   have lB2:(sideB k n (way.take i)).length≤1000000:=by omega
   clear lA lB
   obtain ⟨a1,a2,a3,a4,a5,a6⟩:=dm p n (by omega)
   have hal:p/n≤p:=Nat.div_le_self _ _
   have hbl:p%n≤p:=Nat.mod_le _ _
   obtain ⟨a,ha⟩:∃ a,p/n=a:=⟨_,rfl⟩
   obtain ⟨b,hb⟩:∃ b,p%n=b:=⟨_,rfl⟩
   rw [ha] at a1 a3 a5 hal tA
   rw [hb] at a2 a4 a6 hbl tB
   obtain ⟨-,b2,-,b4,-,b6⟩:=dm a k (by omega)
   obtain ⟨-,c2,-,c4,-,c6⟩:=dm b k (by omega)
   obtain ⟨s,hs⟩:∃ s,a%k=s:=⟨_,rfl⟩
   obtain ⟨t,ht⟩:∃ t,b%k=t:=⟨_,rfl⟩
   rw [hs] at b2 b4 b6 tA
   rw [ht] at c2 c4 c6 tB
   generalize valAt (.slice ua un uc) i=ui at *
   have hil2:=Hd hil
   replace hp:=Hd hp
   replace ha:=Hd ha
   replace hb:=Hd hb
   replace hs:=Hd hs
   replace ht:=Hd ht
   replace tA:=Hd tA
   replace tB:=Hd tB
   replace huo:=Hd huo
   obtain ⟨W,hW⟩:∃ W:World,W=wo.drew:=⟨_,rfl⟩
   have hSW:SD w.heap.size W va (sideA k n (way.take i)) vb (sideB k n (way.take i)) Option.none Option.none:=by rw [hW]; exact hS.below ((Below.refl _ _).drew)
   have hBW:Below w.heap.size w W:=by rw [hW]; exact hB.drew
   have hsz:=hBW.size
   have hva:=hS.ownA.at.shape
   have hvb:=hS.ownB.at.shape
   obtain ⟨aa,an,ac,rfl⟩:=hva
   obtain ⟨ba,bn,bc,rfl⟩:=hvb
   generalize sideA k n (way.take i)=As at *
   generalize sideB k n (way.take i)=Bs at *
   go_upto_region 5 with fail
   refine wp_region_noPanic ?_
   refine wp_region_any (by kernel_rfl) ?_
   change wpAny _ _ _ _ _ _ _ (World.drew _)
   rw [← hW]
   clear hS hB cU iU hW
   refine pqA 0 18 ?_
   refine pqA 1 19 ?_
   refine pqA 2 20 ?_
   refine pqA 3 21 ?_
   refine pqA 4 22 ?_
   refine pqA 5 23 ?_
   refine pqA 8 26 ?_
   refine pqA 9 27 ?_
   refine pqA 10 28 ?_
   refine pqA 11 29 ?_
   refine pqA 12 30 ?_
   refine pqA 13 31 ?_
   refine wpAny_ready (rs:=[6,14]) (by kernel_rfl) (by simp) (AllReady.cons rfl (fun KK hK=>?_) (AllReady.cons rfl (fun KK hK=>?_) AllReady.nil))
   ·go_simp
    refine hK _ _ ?_
    clear hK KK
    obtain ⟨X1,hY1⟩:∃ Y:World,Y=W.alloc (.cells #[.int .i64 (s:Int)] 3):=⟨_,rfl⟩
    have S1:=hSW.addL hsz (s:Int) rfl
    have B1:=hBW.trans ((belowAlloc W (.cells #[.int .i64 (s:Int)] 3)).mono hsz)
    rw [← hY1] at S1 B1 ⊢
    have hX1:w.heap.size≤X1.heap.size:=B1.size
    clear hSW hY1
    refine wpAny_ready (rs:=[7,14]) (by kernel_rfl) (by simp) (AllReady.cons rfl (fun KK hK=>?_) (AllReady.cons rfl (fun KK hK=>?_) AllReady.nil))
    ·refine step_appR rfl _ _ rfl w.heap.size (.slice aa an ac) _ As [(s:Int)] rfl rfl S1.ownA S1.litL (by simp; omega) hX1 ?_
     intro v' X2 ho' hb' hg' hal'
     refine hK _ _ ?_
     clear hK KK
     have S2:=S1.appA ho' hg' hal'
     have B2:=B1.trans hb'
     have hX2:w.heap.size≤X2.heap.size:=B2.size
     obtain ⟨ea,en,ec,rfl⟩:=ho'.at.shape
     clear S1 ho' hb' hg' hal'
     refine wpAny_ready (rs:=[14]) (by kernel_rfl) (by simp) (AllReady.cons rfl (fun KK hK=>?_) AllReady.nil)
     ·go_simp
      refine hK _ _ ?_
      clear hK KK
      obtain ⟨X3,hY3⟩:∃ Y:World,Y=X2.alloc (.cells #[.int .i64 (t:Int)] 3):=⟨_,rfl⟩
      have S3:=S2.addM hX2 (t:Int) rfl
      have B3:=B2.trans ((belowAlloc X2 (.cells #[.int .i64 (t:Int)] 3)).mono hX2)
      rw [← hY3] at S3 B3 ⊢
      have hX3:w.heap.size≤X3.heap.size:=B3.size
      clear S2 hY3
      refine wpAny_ready (rs:=[15]) (by kernel_rfl) (by simp) (AllReady.cons rfl (fun KK hK=>?_) AllReady.nil)
      ·refine step_appR rfl _ _ rfl w.heap.size (.slice ba bn bc) _ Bs [(t:Int)] rfl rfl S3.ownB S3.litM (by simp; omega) hX3 ?_
       intro v' X4 ho' hb' hg' hal'
       refine hK _ _ ?_
       clear hK KK
       have S4:=S3.appB ho' hg' hal'
       have B4:=B3.trans hb'
       have hX4:w.heap.size≤X4.heap.size:=B4.size
       obtain ⟨fa,fn,fc,rfl⟩:=ho'.at.shape
       clear S3 ho' hb' hg' hal'
       refine takeA (i:=16) (v:=?_) (some 8) rfl rfl (by kernel_rfl) (by kernel_rfl) (by kernel_rfl) (fun _ _ _ h=>h) (Or.inl ⟨by rfl,?_⟩) ?_
       rotate_left
       ·intro _; go_simp; try with_reducible rfl
       simp only [Act.put,List.setIfInBounds_toArray]
       refine takeA (i:=17) (v:=?_) (some 9) rfl rfl (by kernel_rfl) (by kernel_rfl) (by kernel_rfl) (fun _ _ _ h=>h) (Or.inl ⟨by rfl,?_⟩) ?_
       rotate_left
       ·intro _; go_simp; try with_reducible rfl
       simp only [Act.put]
       refine wpAny_done (by kernel_rfl) ?_ _
       refine NoPanic.normal ?_
       have hF:=S4.forget
       rw [← tA.out,← tB.out] at hF
       replace hF:=Hd hF
       clear S4
       go_wp2
       go_roundw
       case rel=>exact ⟨i+1,_,_,by have:=hil2.out; omega,by go_num,rfl,rfl,hF.out,B4⟩
       case measure=>have:=hil2.out; simp [intOf]; omega
    ·go_simp
     refine hK _ _ ?_
     clear hK KK
     obtain ⟨X2,hY2⟩:∃ Y:World,Y=X1.alloc (.cells #[.int .i64 (t:Int)] 3):=⟨_,rfl⟩
     have S2:=S1.addM hX1 (t:Int) rfl
     have B2:=B1.trans ((belowAlloc X1 (.cells #[.int .i64 (t:Int)] 3)).mono hX1)
     rw [← hY2] at S2 B2 ⊢
     have hX2:w.heap.size≤X2.heap.size:=B2.size
     clear S1 hY2
     refine wpAny_ready (rs:=[7]) (by kernel_rfl) (by simp) (AllReady.cons rfl (fun KK hK=>?_) AllReady.nil)
     ·refine step_appR rfl _ _ rfl w.heap.size (.slice aa an ac) _ As [(s:Int)] rfl rfl S2.ownA S2.litL (by simp; omega) hX2 ?_
      intro v' X3 ho' hb' hg' hal'
      refine hK _ _ ?_
      clear hK KK
      have S3:=S2.appA ho' hg' hal'
      have B3:=B2.trans hb'
      have hX3:w.heap.size≤X3.heap.size:=B3.size
      obtain ⟨ea,en,ec,rfl⟩:=ho'.at.shape
      clear S2 ho' hb' hg' hal'
      refine wpAny_ready (rs:=[15]) (by kernel_rfl) (by simp) (AllReady.cons rfl (fun KK hK=>?_) AllReady.nil)
      ·refine step_appR rfl _ _ rfl w.heap.size (.slice ba bn bc) _ Bs [(t:Int)] rfl rfl S3.ownB S3.litM (by simp; omega) hX3 ?_
       intro v' X4 ho' hb' hg' hal'
       refine hK _ _ ?_
       clear hK KK
       have S4:=S3.appB ho' hg' hal'
       have B4:=B3.trans hb'
       have hX4:w.heap.size≤X4.heap.size:=B4.size
       obtain ⟨fa,fn,fc,rfl⟩:=ho'.at.shape
       clear S3 ho' hb' hg' hal'
       refine takeA (i:=16) (v:=?_) (some 8) rfl rfl (by kernel_rfl) (by kernel_rfl) (by kernel_rfl) (fun _ _ _ h=>h) (Or.inl ⟨by rfl,?_⟩) ?_
       rotate_left
       ·intro _; go_simp; try with_reducible rfl
       simp only [Act.put,List.setIfInBounds_toArray]
       refine takeA (i:=17) (v:=?_) (some 9) rfl rfl (by kernel_rfl) (by kernel_rfl) (by kernel_rfl) (fun _ _ _ h=>h) (Or.inl ⟨by rfl,?_⟩) ?_
       rotate_left
       ·intro _; go_simp; try with_reducible rfl
       simp only [Act.put]
       refine wpAny_done (by kernel_rfl) ?_ _
       refine NoPanic.normal ?_
       have hF:=S4.forget
       rw [← tA.out,← tB.out] at hF
       replace hF:=Hd hF
       clear S4
       go_wp2
       go_roundw
       case rel=>exact ⟨i+1,_,_,by have:=hil2.out; omega,by go_num,rfl,rfl,hF.out,B4⟩
       case measure=>have:=hil2.out; simp [intOf]; omega
   ·go_simp
    refine hK _ _ ?_
    clear hK KK
    obtain ⟨X1,hY1⟩:∃ Y:World,Y=W.alloc (.cells #[.int .i64 (t:Int)] 3):=⟨_,rfl⟩
    have S1:=hSW.addM hsz (t:Int) rfl
    have B1:=hBW.trans ((belowAlloc W (.cells #[.int .i64 (t:Int)] 3)).mono hsz)
    rw [← hY1] at S1 B1 ⊢
    have hX1:w.heap.size≤X1.heap.size:=B1.size
    clear hSW hY1
    refine wpAny_ready (rs:=[6]) (by kernel_rfl) (by simp) (AllReady.cons rfl (fun KK hK=>?_) AllReady.nil)
    ·go_simp
     refine hK _ _ ?_
     clear hK KK
     obtain ⟨X2,hY2⟩:∃ Y:World,Y=X1.alloc (.cells #[.int .i64 (s:Int)] 3):=⟨_,rfl⟩
     have S2:=S1.addL hX1 (s:Int) rfl
     have B2:=B1.trans ((belowAlloc X1 (.cells #[.int .i64 (s:Int)] 3)).mono hX1)
     rw [← hY2] at S2 B2 ⊢
     have hX2:w.heap.size≤X2.heap.size:=B2.size
     clear S1 hY2
     refine wpAny_ready (rs:=[7]) (by kernel_rfl) (by simp) (AllReady.cons rfl (fun KK hK=>?_) AllReady.nil)
     ·refine step_appR rfl _ _ rfl w.heap.size (.slice aa an ac) _ As [(s:Int)] rfl rfl S2.ownA S2.litL (by simp; omega) hX2 ?_
      intro v' X3 ho' hb' hg' hal'
      refine hK _ _ ?_
      clear hK KK
      have S3:=S2.appA ho' hg' hal'
      have B3:=B2.trans hb'
      have hX3:w.heap.size≤X3.heap.size:=B3.size
      obtain ⟨ea,en,ec,rfl⟩:=ho'.at.shape
      clear S2 ho' hb' hg' hal'
      refine wpAny_ready (rs:=[15]) (by kernel_rfl) (by simp) (AllReady.cons rfl (fun KK hK=>?_) AllReady.nil)
      ·refine step_appR rfl _ _ rfl w.heap.size (.slice ba bn bc) _ Bs [(t:Int)] rfl rfl S3.ownB S3.litM (by simp; omega) hX3 ?_
       intro v' X4 ho' hb' hg' hal'
       refine hK _ _ ?_
       clear hK KK
       have S4:=S3.appB ho' hg' hal'
       have B4:=B3.trans hb'
       have hX4:w.heap.size≤X4.heap.size:=B4.size
       obtain ⟨fa,fn,fc,rfl⟩:=ho'.at.shape
       clear S3 ho' hb' hg' hal'
       refine takeA (i:=16) (v:=?_) (some 8) rfl rfl (by kernel_rfl) (by kernel_rfl) (by kernel_rfl) (fun _ _ _ h=>h) (Or.inl ⟨by rfl,?_⟩) ?_
       rotate_left
       ·intro _; go_simp; try with_reducible rfl
       simp only [Act.put,List.setIfInBounds_toArray]
       refine takeA (i:=17) (v:=?_) (some 9) rfl rfl (by kernel_rfl) (by kernel_rfl) (by kernel_rfl) (fun _ _ _ h=>h) (Or.inl ⟨by rfl,?_⟩) ?_
       rotate_left
       ·intro _; go_simp; try with_reducible rfl
       simp only [Act.put]
       refine wpAny_done (by kernel_rfl) ?_ _
       refine NoPanic.normal ?_
       have hF:=S4.forget
       rw [← tA.out,← tB.out] at hF
       replace hF:=Hd hF
       clear S4
       go_wp2
       go_roundw
       case rel=>exact ⟨i+1,_,_,by have:=hil2.out; omega,by go_num,rfl,rfl,hF.out,B4⟩
       case measure=>have:=hil2.out; simp [intOf]; omega
  ·obtain rfl:i=way.length:=by omega
   rw [List.take_length] at hS
   have h1:=hS.ownA
   have h2:=hS.ownB
   have h3:=hS.two
   replace hS:=Hd hS
   replace h1:=Hd h1
   replace h2:=Hd h2
   replace h3:=Hd h3
   go_wp2
   go_ret2
   exact ⟨_,_,rfl,hB,h1.out,h2.out,h3.out⟩
end Go.Proofs.YtindfaehjoileaaGreatDoor
namespace Go.Proofs.YtindfaehjoileaaGreatDoor
open Go.RowKit
set_option maxRecDepth 100000
structure Kin (w:World) (lo:Nat) (vs:List Value) (xs:List (List Int)):Prop where
 len:vs.length=xs.length
 own:∀ t,t<vs.length→OwnI lo w (vAt vs t) (xs.getD t [])
 two:∀ s t,s<vs.length→t<vs.length→s≠t→(vAt vs s).ownBlock=none∨(vAt vs s).ownBlock≠(vAt vs t).ownBlock
theorem wpl_app_run {w:World} {ops:Array Oper} {rest:List Oper} {o:Oper} {a:Act} {Q:Exit→Act→World→Prop} (hgd:o.guard=none) (s x:Operand) (T:TypeId)
 (ho:o.op=.call { callee:=.builtin .append,args:=#[s,x],argTypes:=#[T,T] })
 (v u:Value) (hs:a.eval s=v) (hx:a.eval x=u) {v':Value} {w':World} (hr:(Builtin.append_ #[T,T] o.type #[v,u]).run Tryz.prog w=.ok v' w')
 (h:wpList Tryz.prog ops Q rest (a.put o.dst v') w') :
 wpList Tryz.prog ops Q (o::rest) a w:=by
 refine wpList_plain hgd fun K hK=>?_
 unfold Oper.wp execOp
 simp only [ho,resolve,invoke,builtin,Sem.run_bind,Sem.run_pure,Result.andThen_ok,List.map_toArray,List.map_cons,List.map_nil,hs,hx]
 rw [hr]
 exact hK _ _ h
theorem add_lit0 (b j:Nat):(⟨b,0,none⟩:Addr).add j=⟨b,j,none⟩:=by simp [Addr.add_lit]
theorem run_appTail (B:Nat) (ty:TypeId) (w:World) (g C b:Nat) (xs:List Int) (y:Int) (hown:OwnI B w (.slice (some ⟨g,0,none⟩) xs.length C) xs) (hL:1≤xs.length) (hb:w.cell? ⟨b,0,none⟩=some (.int .i64 y)) (hB:B≤w.heap.size) (hlen:xs.length≤1000000) :
 ∃ v' w',(Builtin.append_ #[30,30] ty #[sliced (some ⟨g,0,none⟩) 1 xs.length C 1,.slice (some ⟨b,0,none⟩) 1 1]).run Tryz.prog w=.ok v' w'∧IntsAt w' v' (xs.drop 1++[y])∧Below B w w'∧w.grownBy w' (some g):=by
 obtain ⟨i,hi,hz0,hz1,hz2⟩:=info_parts iInt
 have hat:=hown.at
 have hcells:∀ j (hj:j<xs.length),w.cell? ⟨g,j,none⟩=some (.int .i64 xs[j]):=fun j hj=>by
  have:=hat.cell j hj
  rwa [valAt_row] at this
 have hnews:∀ (j:Nat) (u:Value),([.int .i64 y]:List Value)[j]?=some u→w.cell? ((⟨b,0,none⟩:Addr).add j)=some u:=by
  intro j u hj
  cases j with
  | zero=>simp at hj; subst hj; rw [add_lit0]; exact hb
  | succ j=>simp at hj
 have hone:∀ u∈([.int .i64 y]:List Value),u.oneCell'=true:=by intro u hu; rw [List.mem_singleton] at hu; subst hu; rfl
 rcases hown.2 with ⟨e,_⟩ | ⟨g',cap,cur,e,hBg,hg,hn,hm,hs,ht⟩
 ·cases e
 injection e with e1 _ e3
 obtain rfl:g=g':=by injection e1 with e1; injection e1
 subst e3
 have finish:∀ v' w',w'.ownsRow w.heap.size 3 1 v' (xs.length-1+1) ((xs.drop 1).map (Value.int .i64)++[.int .i64 y])→IntsAt w' v' (xs.drop 1++[y]):=fun v' w' h=>by
  have:OwnI w.heap.size w' v' (xs.drop 1++[y]):=by
   unfold OwnI
   rw [List.map_append,List.length_append,List.length_drop]
   exact h
  exact this.at
 by_cases hC:C=1
 ·have h1:xs.length=1:=by omega
  have hsl:sliced (some ⟨g,0,none⟩) 1 xs.length C 1=.slice (some ⟨g,0,none⟩) 0 0:=by unfold sliced; rw [if_pos hC,h1,hC]
  obtain ⟨v',w',hr,r1,r2⟩:=run_append_arg_grows (P:=Tryz.prog) w 30 ty 3 i (.int .i64 0) 1 8 uInts hi hz0 hz1 hz2 rfl (by decide) ⟨g,0,none⟩ 0 0 [] rfl (by simp) ⟨b,0,none⟩ 1 1 [.int .i64 y] rfl hnews (by omega) (by unfold maxLen; omega) (by omega)
  have hd:xs.drop 1=[]:=List.drop_eq_nil_of_le (by omega)
  refine ⟨v',w',by rw [hsl]; exact hr,finish v' w' (by rw [hd,h1]; exact r1),(Below.refl _ _).grown r2 hB (by intro k hk; cases hk),⟨r2.os,r2.tape,r2.output,r2.size,fun k hk _=>r2.block k hk (by simp)⟩⟩
 ·have hsl:sliced (some ⟨g,0,none⟩) 1 xs.length C 1=.slice (some ⟨g,1,none⟩) (xs.length-1) (C-1):=by unfold sliced; rw [if_neg hC]; rfl
  by_cases hroom:xs.length<C
  ·have hcs:cur.size=C:=by rw [hs,Nat.mul_one]
   have hl:w.cell? ⟨g,xs.length,none⟩=cur[xs.length]?:=cell_of_row w g _ cur _ _ hg
   have hsome:(w.cell? ⟨g,xs.length,none⟩).isSome=true:=by rw [hl]; simp [hcs,hroom]
   have hfz:w.frozen? ⟨g,xs.length,none⟩=false:=frozen_of_row w g _ cur _ hg
   have e1:1+(xs.length-1)*i.size+0=xs.length:=by rw [hz1]; omega
   have hr:=run_append_room_cells (P:=Tryz.prog) w 30 ty 3 i uInts hi g 1 (xs.length-1) (C-1) ⟨b,0,none⟩ 1 1 [.int .i64 y] (by rw [hz1]; rfl) hnews hone (by omega) (fun j hj=>by
    obtain rfl:j=0:=by simpa using hj
    rw [e1]; exact hsome) (fun j hj=>by
    obtain rfl:j=0:=by simpa using hj
    rw [e1]; exact hfz)
   have e2:1+(xs.length-1)*i.size=xs.length:=by rw [hz1]; omega
   have e3:xs.length-1+1=xs.length:=by omega
   rw [e2,e3] at hr
   have e4:w.setCells g xs.length [.int .i64 y]=w.setCell ⟨g,xs.length,none⟩ (.int .i64 y):=rfl
   rw [e4] at hr
   refine ⟨_,_,by rw [hsl]; exact hr,?_,(Below.refl _ _).setCell hBg _,⟨rfl,rfl,rfl,by simp [World.setCell],fun k _ hk=>Below.heap_setCell _ _ _ _ (by intro e; exact hk (by rw [e]))⟩⟩
   refine ⟨some ⟨g,1,none⟩,C-1,by simp; omega,by simp; omega,by omega,(by intro e; cases e),fun j hj=>?_⟩
   have hj2:j<xs.length:=by simp at hj; omega
   have ev:valAt (.slice (some ⟨g,1,none⟩) xs.length (C-1)) j=⟨g,1+j,none⟩:=by simp [valAt,Addr.add_lit]
   rw [ev]
   by_cases hjl:j+1<xs.length
   ·rw [World.cell?_setCell_other _ _ _ _ (by intro e; have:=congrArg Addr.off e; dsimp only at this; omega),Nat.add_comm 1 j,hcells (j+1) hjl]
    rw [List.getElem_append_left (by simp; omega),List.getElem_drop]
    simp only [Nat.add_comm 1 j]
   ·obtain rfl:j=xs.length-1:=by omega
    rw [show 1+(xs.length-1)=xs.length by omega,World.cell?_setCell_same' _ _ _ hsome,List.getElem_append_right (by simp)]
    simp
  ·obtain ⟨v',w',hr,r1,r2⟩:=run_append_arg_grows (P:=Tryz.prog) w 30 ty 3 i (.int .i64 0) 1 8 uInts hi hz0 hz1 hz2 rfl (by decide) ⟨g,1,none⟩ (xs.length-1) (C-1) ((xs.drop 1).map (Value.int .i64)) (by simp) (fun j u hj=>by
    have hjl:j<(xs.drop 1).length:=by have:=(List.getElem?_eq_some_iff.1 hj).1; simpa using this
    have hjl2:j+1<xs.length:=by simp at hjl; omega
    rw [Addr.add_lit,Nat.add_comm 1 j,hcells (j+1) hjl2,← hj]
    simp [hjl2]) ⟨b,0,none⟩ 1 1 [.int .i64 y] rfl hnews (by omega) (by unfold maxLen; omega) (by omega)
   exact ⟨v',w',by rw [hsl]; exact hr,finish v' w' r1,(Below.refl _ _).grown r2 hB (by intro k hk; cases hk),⟨r2.os,r2.tape,r2.output,r2.size,fun k hk _=>r2.block k hk (by simp)⟩⟩
theorem run_sliceTail (g L C:Nat) (hL:1≤L) (w:World):(Instr.slice 30 (.slice (some ⟨g,0,none⟩) L C) (some (.int .i64 1)) none none).run Tryz.prog w=.ok (sliced (some ⟨g,0,none⟩) 1 L C 1) w:=by
 have:=run_slice_l (P:=Tryz.prog) w 30 (some ⟨g,0,none⟩) L C uIntsE .i64 1 (by omega) (by omega)
 rw [eInts,sInt] at this
 exact this
def WayList (adj:Nat→List Nat) (a b:Nat) (u:List Nat):Prop:=(u≠[]∧IsFirst adj a b u)∨(u=[]∧¬ Goes adj a b)
theorem WayList.goes {adj:Nat→List Nat} {a b:Nat} {u:List Nat} (h:WayList adj a b u):u≠[]↔Goes adj a b:=by
 rcases h with ⟨h1,h2⟩ | ⟨h1,h2⟩
 ·exact ⟨fun _=>h2.way.goes,fun _=>h1⟩
 ·exact ⟨fun q=>absurd h1 q,fun q=>absurd q h2⟩
theorem WayList.chain {G:List (List Int)} (hok:GraphOk G) {a b:Nat} {u:List Nat} (h:WayList (adjOf G) a b u) (ha:a<G.length):ChainOk G u:=by
 rcases h with ⟨_,h2⟩ | ⟨h1,_⟩
 ·exact way_chain hok h2.way ha
 ·subst h1; exact ChainOk.nil G
theorem WayList.len {G:List (List Int)} (hok:GraphOk G) {a b:Nat} {u:List Nat} (h:WayList (adjOf G) a b u) (ha:a<G.length):u.length≤G.length:=by
 have hc:=h.chain hok ha
 rcases h with ⟨_,q⟩ | ⟨q,_⟩
 ·exact nodup_len G.length u q.nodup (fun x hx=>by
   obtain ⟨i,hi⟩:=List.mem_iff_getElem?.1 hx
   exact (hc i x hi).1)
 ·subst q; simp
def LoopList (G:List (List Int)) (a:Nat) (l:List Nat):Prop:=l=[]∨∃ y,y<G.length∧a∈adjOf G y∧Way (adjOf G) a y l
theorem LoopList.chain {G:List (List Int)} (hok:GraphOk G) {a:Nat} {l:List Nat} (h:LoopList G a l) (ha:a<G.length):ChainOk G l:=by
 rcases h with h | ⟨y,_,_,h⟩
 ·subst h; exact ChainOk.nil G
 ·exact way_chain hok h ha
end Go.Proofs.YtindfaehjoileaaGreatDoor
namespace Go.Proofs.YtindfaehjoileaaGreatDoor
def NearTo (l:List Nat) (D:Nat→Int) (k:Nat) (b:Int):Prop :=
 (b=-1∧∀ t∈l.take k,D t<0)∨∃ m:Nat,b=m∧m∈l.take k∧0≤D m∧∀ t∈l.take k,0≤D t→D m<D t∨(D m=D t∧m≤t)
section
variable {l:List Nat} {D:Nat→Int} {k:Nat} {b:Int}
theorem NearTo.zero (l:List Nat) (D:Nat→Int):NearTo l D 0 (-1):=.inl ⟨rfl,fun t ht=>by simp at ht⟩
theorem NearTo.low (h:NearTo l D k b):-1≤b:=by
 rcases h with ⟨h,_⟩ | ⟨m,h,_⟩<;>omega
theorem NearTo.skip (h:NearTo l D k b) {t:Nat} (ht:l[k]?=some t) (hd:D t<0):NearTo l D (k+1) b:=by
 rcases h with ⟨h1,h2⟩ | ⟨m,h1,h2,h3,h4⟩
 ·refine .inl ⟨h1,fun x hx=>?_⟩
  rcases (take_mem ht x).1 hx with hx | rfl
  ·exact h2 x hx
  ·exact hd
 ·refine .inr ⟨m,h1,(take_mem ht m).2 (.inl h2),h3,fun x hx hxd=>?_⟩
  rcases (take_mem ht x).1 hx with hx | rfl
  ·exact h4 x hx hxd
  ·omega
theorem NearTo.fst (h:NearTo l D k b) {t:Nat} (ht:l[k]?=some t) (hd:0≤D t) (hb:b<0):NearTo l D (k+1) t:=by
 refine .inr ⟨t,rfl,(take_mem ht t).2 (.inr rfl),hd,fun x hx hxd=>?_⟩
 rcases (take_mem ht x).1 hx with hx | rfl
 ·rcases h with ⟨h1,h2⟩ | ⟨m,h1,_⟩
  ·have:=h2 x hx; omega
  ·omega
 ·exact .inr ⟨rfl,Nat.le_refl _⟩
theorem NearTo.mark (h:NearTo l D k b) (hb:0≤b):∃ m:Nat,b=m∧m∈l∧0≤D m:=by
 rcases h with ⟨h1,h2⟩ | ⟨m,h1,h2,h3,_⟩
 ·omega
 ·exact ⟨m,h1,List.mem_of_mem_take h2,h3⟩
theorem NearTo.take {m:Nat} (h:NearTo l D k (m:Int)) {t:Nat} (ht:l[k]?=some t) (hd:0≤D t) (hb:D t<D m∨(D t=D m∧t<m)):NearTo l D (k+1) t:=by
 refine .inr ⟨t,rfl,(take_mem ht t).2 (.inr rfl),hd,fun x hx hxd=>?_⟩
 rcases (take_mem ht x).1 hx with hx | rfl
 ·rcases h with ⟨h1,h2⟩ | ⟨m',h1,h2,h3,h4⟩
  ·omega
  ·obtain rfl:m=m':=by omega
   have:=h4 x hx hxd
   omega
 ·exact .inr ⟨rfl,Nat.le_refl _⟩
end
theorem Way.ends {adj:Nat→List Nat} {x y:Nat} {w:List Nat} (h:Way adj x y w):w.dropLast++[y]=w:=by
 induction h with
 | one=>rfl
 | @cons x t y w ht h ih =>
  have hp:=h.pos
  have:w≠[]:=by intro q; subst q; simp at hp
  rw [List.dropLast_cons_of_ne_nil this,List.cons_append,ih]
open Go.RowKit
set_option maxRecDepth 100000
set_option maxHeartbeats 8000000
theorem loop_goes {G:List (List Int)} (hok:GraphOk G) {c:Nat} (hc:c<G.length) (h:OnLoop (adjOf G) c):Goes (adjOf (wideG G c)) c G.length:=by
 have claim:∀ a z,Goes (adjOf G) a z→a<G.length→Goes (adjOf (wideG G c)) a G.length∨(Goes (adjOf (wideG G c)) a z∧(z=c→a=c)):=by
  intro a z hg ha
  induction hg with
  | refl=>exact .inr ⟨.refl _,id⟩
  | @step b t hb ht ih =>
   have hbn:=goes_lt hok hb ha
   rcases ih with ih | ⟨ih,_⟩
   ·exact .inl ih
   ·by_cases e:t=c
    ·subst e
     exact .inl (.step ih ((wide_adj hok t hbn _).2 (.inr ⟨rfl,ht⟩)))
    ·exact .inr ⟨.step ih ((wide_adj hok c hbn _).2 (.inl ⟨e,ht,hok.lt _ hbn _ ht⟩)),fun q=>absurd q e⟩
 obtain ⟨t,ht,hg⟩:=h
 have htn:=hok.lt _ hc _ ht
 by_cases e:t=c
 ·subst e
  exact .one ((wide_adj hok t hc _).2 (.inr ⟨rfl,ht⟩))
 ·have h1:Goes (adjOf (wideG G c)) c t:=.one ((wide_adj hok c hc _).2 (.inl ⟨e,ht,htn⟩))
  rcases claim t c hg htn with h2 | ⟨_,h2⟩
  ·exact h1.trans h2
  ·exact absurd (h2 rfl) e
def WitIs (G:List (List Int)) (v:Nat) (L C Q:List Nat):Prop :=
 ∃ c d u1 u2 I O,NearIs (adjOf (turnG G)) (OnLoop (adjOf G)) v c∧NearIs (adjOf G) (OnLoop (adjOf G)) v d∧c<G.length∧d<G.length∧IsFirst (adjOf (wideG G c)) c G.length u1∧IsFirst (adjOf (wideG G d)) d G.length u2∧IsFirst (adjOf G) c v I∧IsFirst (adjOf G) v d O∧L=u1.dropLast∧C=I++O.drop 1∧Q=u2.dropLast.drop 1++[d]
theorem WitIs.unique {G:List (List Int)} {v:Nat} {L C Q L' C' Q':List Nat} (h:WitIs G v L C Q) (k:WitIs G v L' C' Q'):L=L'∧C=C'∧Q=Q':=by
 obtain ⟨c,d,u1,u2,I,O,h1,h2,_,_,h3,h4,h5,h6,rfl,rfl,rfl⟩:=h
 obtain ⟨c',d',u1',u2',I',O',k1,k2,_,_,k3,k4,k5,k6,rfl,rfl,rfl⟩:=k
 obtain rfl:=h1.unique k1
 obtain rfl:=h2.unique k2
 obtain rfl:=h3.unique k3
 obtain rfl:=h4.unique k4
 obtain rfl:=h5.unique k5
 obtain rfl:=h6.unique k6
 exact ⟨rfl,rfl,rfl⟩
theorem first_bound {G:List (List Int)} (hok:GraphOk G) {x y:Nat} {u:List Nat} (h:IsFirst (adjOf G) x y u) (hx:x<G.length):u.length≤G.length∧∀ z∈u,z<G.length:=by
 have hlt:∀ z∈u,z<G.length:=by
  have hw:=h.way
  clear h
  induction hw with
  | one x=>intro z hz; rw [List.mem_singleton] at hz; subst hz; exact hx
  | @cons x t y w ht hw ih =>
   intro z hz
   rcases List.mem_cons.1 hz with rfl | hz
   ·exact hx
   ·exact ih (hok.lt _ hx _ ht) z hz
 exact ⟨nodup_len _ _ h.nodup hlt,hlt⟩
theorem wide_bound {G:List (List Int)} (hok:GraphOk G) {c:Nat} (hc:c<G.length) {u:List Nat} (h:IsFirst (adjOf (wideG G c)) c G.length u):2≤u.length∧u.length≤G.length+1∧∀ z∈u.dropLast,z<G.length:=by
 obtain ⟨h1,h2⟩:=first_bound (wideG_ok hok c) h (by rw [wideG_len]; omega)
 rw [wideG_len] at h1 h2
 have hnd:=h.nodup
 have he:=h.way.ends
 have hp:=h.way.pos
 refine ⟨?_,h1,fun z hz=>?_⟩
 ·apply Classical.byContradiction
  intro q
  have hl:u.length=1:=by omega
  obtain ⟨w',rfl⟩:=h.way.ne
  have:w'=[]:=List.length_eq_zero_iff.1 (by simpa using hl)
  subst this
  simp at he
  omega
 ·have h3:=h2 z (List.dropLast_subset _ hz)
  have:z≠G.length:=fun e=>by
   subst e
   rw [← he] at hnd
   have:=(List.nodup_append.1 hnd).2.2 _ hz _ (List.mem_singleton.2 rfl)
   exact this rfl
  omega
theorem castI_app (a b:List Nat):castI (a++b)=castI a++castI b:=by simp [castI]
theorem castI_drop (a:List Nat) (k:Nat):castI (a.drop k)=(castI a).drop k:=by simp [castI]
def WitPost (w:World) (k N:Nat) (G:List (List Int)) (v:Nat) (x y e:Value) (w':World):Prop :=
 e=.nilIface∧∃ L C Q aL aC aQ bL bC bQ,WitIs G v L C Q∧x=.agg #[.int .i64 0,aL,aC,aQ]∧y=.agg #[.int .i64 0,bL,bC,bQ]∧∃ f,Rows w.heap.size w' f ∧
  f (1,0)=some (rowI aL (sideA k N L))∧f (1,1)=some (rowI bL (sideB k N L))∧f (2,0)=some (rowI aC (sideA k N C))∧f (2,1)=some (rowI bC (sideB k N C))∧f (3,0)=some (rowI aQ (sideA k N Q))∧f (3,1)=some (rowI bQ (sideB k N Q))
theorem witness_ok (r:Nat→Addr) (k N:Nat) (na:Option Addr) (nc:Nat) (G:List (List Int)) (v:Nat) (w:World) (hg:Glob r w) (h:ListsAt w (.slice na G.length nc) G) (hsz:∀ k,k<G.length→(G.getD k []).length≤17592186044416)
 (hck:checkG G=none) (hok:GraphOk G) (hN:G.length=N*N) (hN1:1≤N) (hN2:N≤81) (hk:1≤k) (hv:v<G.length) (hlive:IsLive G.length (adjOf G) v) :
 Calls Tryz.prog 161 #[.int .i64 k,.slice na G.length nc,.int .i64 v] w (Ret3 (WitPost w k N G v) w):=by
 have hn:G.length≤8200:=by rw [hN]; have:=Nat.mul_le_mul hN2 hN2; omega
 have hM6:G.length≤6561:=by rw [hN]; exact Nat.mul_le_mul hN2 hN2
 obtain ⟨_,harr,_⟩:=checkG_none hck
 obtain ⟨f0,R0,i02,o02⟩:=(Rows.void w.heap.size w).box4 (0,2) (Nat.le_refl _) 144 (.int .i64 0) (.slice none 0 0) (.slice none 0 0) (.slice none 0 0)
 obtain ⟨f1,R1,i03,o03⟩:=R0.box4 (0,3) (by simp) 144 (.int .i64 0) (.slice none 0 0) (.slice none 0 0) (.slice none 0 0)
 have b0:Below w.heap.size w ((w.alloc (.cells #[.int .i64 0,.slice none 0 0,.slice none 0 0,.slice none 0 0] 144)).alloc (.cells #[.int .i64 0,.slice none 0 0,.slice none 0 0,.slice none 0 0] 144)):=Below.step (belowAlloc w _) (belowAlloc _ _)
 replace i02:=(o03 (0,2) (by decide)).trans i02
 rw [World.size_alloc] at i03
 clear o02 o03 R0
 have hp1:=fun (w':World) (hgl:Glob r w') (hT:ListsAt w' (.slice na G.length nc) G)=>loops14_any r na nc G w' hgl hT hsz hck hok hn
 have hp2:=fun (w':World) (hT:ListsAt w' (.slice na G.length nc) G)=>turned14_any na nc G w' hT hok hn harr
 have hp3:=fun (bv:Value) (on:Nat→Bool) (w':World) (hT:ListsAt w' (.slice na G.length nc) G) (hb:ValsAt w' bv (tabB G.length on))=>near_any na nc G bv on v w' hT hok hn hb hv
 have hp4:=fun (c:Nat) (w':World) (hgl:Glob r w') (hT:ListsAt w' (.slice na G.length nc) G)=>loopG_any r na nc G (c:Int) w' hgl hT hsz
 have hp5:=fun (a b:Nat) (w':World) (hgl:Glob r w') (hT:ListsAt w' (.slice na G.length nc) G)=>path_any r na nc G (a:Int) (b:Int) w' hgl hT hsz
 have lG:=h.len 3 w
 replace hp1:=Hd hp1
 replace hp2:=Hd hp2
 replace hp3:=Hd hp3
 replace hp4:=Hd hp4
 replace hp5:=Hd hp5
 replace hg:=Hd (hg.below b0)
 replace h:=Hd (h.below b0)
 replace hsz:=Hd hsz
 replace hck:=Hd hck
 replace hok:=Hd hok
 replace hlive:=Hd hlive
 replace R1:=Hd R1
 replace i02:=Hd i02
 replace i03:=Hd i03
 replace lG:=Hd lG
 replace harr:=Hd harr
 replace hN:=Hd hN
 go_enter Tryz.func161,Tryz.ntmps161
 go_wp2_with fail
 refine (hp1.out _ hg.out h.out).mono ?_
 rintro e w2 ⟨ov,y,rfl,b1,rfl,on,hon,hOn⟩
 obtain ⟨oa,on',oc,rfl⟩:=hon.shape
 have b2:=Below.step b0 b1
 replace hon:=Hd hon
 replace hOn:=Hd hOn
 have lG2:=h.out.len 3 w2
 go_wp2_with fail
 go_loop [11] (fun nv=>∃ k:Nat,k≤N∧nv=.int .i64 k) (fun nv=>N-(intOf nv).toNat)
 case atStart=>exact ⟨1,hN1,rfl⟩
 case round =>
  obtain ⟨k1,hk1,rfl⟩:=hrel
  obtain ⟨kk,hkk⟩:∃ z,k1*k1=z:=⟨_,rfl⟩
  have hkk2:(k1:Int)*(k1:Int)=(kk:Int):=by rw [← hkk]; simp
  have hkkM:kk≤G.length:=by rw [← hkk,hN.out]; exact Nat.mul_le_mul hk1 hk1
  by_cases hlt:kk<G.length
  ·have hkN:k1<N:=Nat.lt_of_le_of_ne hk1 (fun e=>by have:=hN.out; rw [← e,hkk] at this; omega)
   replace hkk:=Hd hkk
   go_wp2
   go_round
   case measure=>simp [intOf]; omega
   case rel=>exact ⟨k1+1,by omega,by go_num⟩
  ·have hkN:k1=N:=by
    apply Classical.byContradiction
    intro e
    have h2:k1*k1<N*N:=Nat.mul_lt_mul_of_lt_of_lt (by omega) (by omega)
    rw [hkk,← hN.out] at h2
    omega
   subst hkN
   replace hkk:=Hd hkk
   clear hk1
   obtain ⟨⟨ua,ha1,ha2,ha3⟩,⟨ub,hb1,hb2,hb3⟩⟩:=hlive.out
   go_wp2_with fail
   refine (hp2.out _ (h.out.below b1)).mono ?_
   rintro e w3 ⟨tv,rfl,b3,hT,hTL⟩
   have hl3:=hT.1
   obtain ⟨ta,tc,rfl⟩:=hTL.shape
   have hval3:ValsAt w3 (.slice oa on' oc) (tabB (turnG G).length on):=by rw [hl3]; exact hon.out.at.below b3
   have hnear:=near_any ta tc (turnG G) (.slice oa on' oc) on v w3 hTL (turned_ok hT) (by omega) hval3 (by omega) ⟨ua,(hOn.out ua ha1).2 ha2,goes_turned hT hok.out ha3 ha1⟩ (OnLoop (adjOf G)) (fun x hx=>hOn.out x (by omega))
   rw [hl3] at hnear
   rw [hl3]
   replace hnear:=Hd hnear
   replace hl3:=Hd hl3
   clear hTL hval3
   replace hT:=Hd hT
   go_wp2_with fail
   refine hnear.out.mono ?_
   rintro e w4 ⟨cv,rfl,b4,c,rfl,hcn,hcon,hcg,hcN⟩
   clear hnear
   have b24:=Below.step b1 (Below.step b3 b4)
   replace hcg:=turned_goes hT.out hok.out hcg hv
   have hnear:=hp3.out (.slice oa on' oc) on w4 (h.out.below b24) (hon.out.at.below (Below.step b3 b4)) ⟨ub,(hOn.out ub hb1).2 hb2,hb3⟩ (OnLoop (adjOf G)) hOn.out
   replace hnear:=Hd hnear
   replace hcN:=Hd hcN
   replace hcg:=Hd hcg
   have hcon2:=(hOn.out c hcn).1 hcon
   replace hcon:=Hd hcon
   replace hcon2:=Hd hcon2
   go_wp2_with fail
   refine hnear.out.mono ?_
   rintro e w5 ⟨dv,rfl,b5,d,rfl,hdn,hdon,hdg,hdN⟩
   clear hnear hb1 hb2 hb3 ha1 ha2 ha3
   have b25:=Below.step b24 b5
   have hdon2:=(hOn.out d hdn).1 hdon
   replace hdon:=Hd hdon
   replace hdon2:=Hd hdon2
   replace hdN:=Hd hdN
   replace hdg:=Hd hdg
   go_wp2_with fail
   refine (hp4.out c w5 (hg.out.below b25) (h.out.below b25)).mono ?_
   rintro e w6 ⟨lv,y,rfl,b6,hE,hW,-⟩
   rw [loopE_ok hck.out hcn] at hE
   obtain rfl:=hE.none_eq
   clear hE
   have hW':=hW (loopE_ok hck.out hcn)
   rw [Int.toNat_natCast] at hW'
   obtain ⟨u1,hu1,ho1⟩:∃ u,IsFirst (adjOf (wideG G c)) c G.length u∧OwnI w5.heap.size w6 lv (castI u.dropLast):=hW'.elim id fun q=>absurd (loop_goes hok.out hcn hcon2.out) q.1
   clear hW hW'
   obtain ⟨l1,l2,l3⟩:=wide_bound hok.out hcn hu1
   have b26:=Below.step b25 b6
   obtain ⟨la,ln,lc,rfl⟩:=ho1.at.shape
   replace hu1:=Hd hu1
   replace ho1:=Hd ho1
   replace l3:=Hd l3
   go_wp2_with fail
   refine (hp4.out d w6 (hg.out.below b26) (h.out.below b26)).mono ?_
   rintro e w7 ⟨rv,y,rfl,b7,hE,hW,-⟩
   rw [loopE_ok hck.out hdn] at hE
   obtain rfl:=hE.none_eq
   clear hE
   have hW':=hW (loopE_ok hck.out hdn)
   rw [Int.toNat_natCast] at hW'
   obtain ⟨u2,hu2,ho2⟩:∃ u,IsFirst (adjOf (wideG G d)) d G.length u∧OwnI w6.heap.size w7 rv (castI u.dropLast):=hW'.elim id fun q=>absurd (loop_goes hok.out hdn hdon2.out) q.1
   clear hW hW'
   obtain ⟨m1,m2,m3⟩:=wide_bound hok.out hdn hu2
   have b27:=Below.step b26 b7
   have lr2:(castI u2.dropLast).length=u2.length-1:=by rw [castI_len,List.length_dropLast]
   obtain ⟨rg,rc,hrv,_⟩:∃ g cap,rv=.slice (some ⟨g,0,none⟩) (castI u2.dropLast).length cap∧w6.heap.size≤g:=Row.own.shape (r:=rowI rv (castI u2.dropLast)) ho2 (by show 0<(castI u2.dropLast).length; omega)
   subst hrv
   replace hu2:=Hd hu2
   replace ho2:=Hd ho2
   replace m3:=Hd m3
   replace lr2:=Hd lr2
   go_wp2_with fail
   refine (hp5.out c v w7 (hg.out.below b27) (h.out.below b27)).mono ?_
   rintro e w8 ⟨iv,y,rfl,b8,hE,hW,-⟩
   rw [pathE_ok hck.out hcn hv] at hE
   obtain rfl:=hE.none_eq
   clear hE
   have hW':=hW (pathE_ok hck.out hcn hv)
   rw [Int.toNat_natCast,Int.toNat_natCast] at hW'
   obtain ⟨I,hI,ho3⟩:∃ u,IsFirst (adjOf G) c v u∧OwnI w7.heap.size w8 iv (castI u):=hW'.elim id fun q=>absurd hcg.out q.1
   clear hW hW'
   obtain ⟨p1,p2⟩:=first_bound hok.out hI hcn
   have b28:=Below.step b27 b8
   obtain ⟨ia,in',ic,rfl⟩:=ho3.at.shape
   replace hI:=Hd hI
   replace ho3:=Hd ho3
   replace p2:=Hd p2
   go_wp2_with fail
   refine (hp5.out v d w8 (hg.out.below b28) (h.out.below b28)).mono ?_
   rintro e w9 ⟨ov,y,rfl,b9,hE,hW,-⟩
   rw [pathE_ok hck.out hv hdn] at hE
   obtain rfl:=hE.none_eq
   clear hE
   have hW':=hW (pathE_ok hck.out hv hdn)
   rw [Int.toNat_natCast,Int.toNat_natCast] at hW'
   obtain ⟨O,hO,ho4⟩:∃ u,IsFirst (adjOf G) v d u∧OwnI w8.heap.size w9 ov (castI u):=hW'.elim id fun q=>absurd hdg.out q.1
   clear hW hW'
   obtain ⟨q1,q2⟩:=first_bound hok.out hO hv
   have q3:=hO.way.pos
   have b29:=Below.step b28 b9
   replace hO:=Hd hO
   replace ho4:=Hd ho4
   replace q2:=Hd q2
   have hB9:w.heap.size≤w9.heap.size:=(Below.step b0 b29).size
   have ho2m:OwnI w.heap.size w9 (.slice (some ⟨rg,0,none⟩) (castI u2.dropLast).length rc) (castI u2.dropLast):=((ho2.out.below b8).below b9).mono (Below.step b0 b26).size
   have ho3m:OwnI w.heap.size w9 (.slice ia in' ic) (castI I):=(ho3.out.below b9).mono (Below.step b0 b27).size
   have ho1m:IntsAt w9 (.slice la ln lc) (castI u1.dropLast):=((ho1.out.at.below b7).below b8).below b9
   have ho4m:=ho4.out.at
   have n02:=i02.out
   have n03:=i03.out
   obtain ⟨fc,Rc,n42,oc'⟩:=(R1.out.below b26).addE (4,2) (r':=rowI (.slice (some ⟨rg,0,none⟩) (castI u2.dropLast).length rc) (castI u2.dropLast)) b7 (ho2.out.mono (Below.step b0 b26).size) (fun q hq=>(ho2.out.lt q hq).1)
   replace n02:=(oc' (0,2) (by decide)).trans n02
   replace n03:=(oc' (0,3) (by decide)).trans n03
   obtain ⟨fd,Rd,n40,od⟩:=Rc.addE (4,0) (r':=rowI (.slice ia in' ic) (castI I)) b8 (ho3.out.mono (Below.step b0 b27).size) (fun q hq=>(ho3.out.lt q hq).1)
   replace n02:=(od (0,2) (by decide)).trans n02
   replace n03:=(od (0,3) (by decide)).trans n03
   replace n42:=(od (4,2) (by decide)).trans n42
   obtain ⟨fe,Re,n41,oe⟩:=Rd.addE (4,1) (r':=rowI ov (castI O)) b9 (ho4.out.mono (Below.step b0 b28).size) (fun q hq=>(ho4.out.lt q hq).1)
   replace n02:=(oe (0,2) (by decide)).trans n02
   replace n03:=(oe (0,3) (by decide)).trans n03
   replace n42:=(oe (4,2) (by decide)).trans n42
   replace n40:=(oe (4,0) (by decide)).trans n40
   clear oc' od oe Rc Rd
   obtain ⟨fA,RA,n00,oA⟩:=Re.box4 (0,0) hB9 144 (.int .i64 0) (.slice none 0 0) (.slice none 0 0) (.slice none 0 0)
   replace n02:=(oA (0,2) (by decide)).trans n02
   replace n03:=(oA (0,3) (by decide)).trans n03
   replace n42:=(oA (4,2) (by decide)).trans n42
   replace n40:=(oA (4,0) (by decide)).trans n40
   replace n41:=(oA (4,1) (by decide)).trans n41
   obtain ⟨fB,RB,n01,oB⟩:=RA.box4 (0,1) (by simp; omega) 144 (.int .i64 0) (.slice none 0 0) (.slice none 0 0) (.slice none 0 0)
   replace n02:=(oB (0,2) (by decide)).trans n02
   replace n03:=(oB (0,3) (by decide)).trans n03
   replace n42:=(oB (4,2) (by decide)).trans n42
   replace n40:=(oB (4,0) (by decide)).trans n40
   replace n41:=(oB (4,1) (by decide)).trans n41
   replace n00:=(oB (0,0) (by decide)).trans n00
   rw [World.size_alloc] at n01
   clear oA oB RA
   have bAB:Below w9.heap.size w9 ((w9.alloc (.cells #[.int .i64 0,.slice none 0 0,.slice none 0 0,.slice none 0 0] 144)).alloc (.cells #[.int .i64 0,.slice none 0 0,.slice none 0 0,.slice none 0 0] 144)):=Below.step (belowAlloc w9 _) (belowAlloc _ _)
   obtain ⟨WB,hWB⟩:∃ WB:World,(w9.alloc (.cells #[.int .i64 0,.slice none 0 0,.slice none 0 0,.slice none 0 0] 144)).alloc (.cells #[.int .i64 0,.slice none 0 0,.slice none 0 0,.slice none 0 0] 144)=WB:=⟨_,rfl⟩
   rw [hWB] at RB bAB
   have e00:∀ (l:List Nat) (m:Nat),(∀ z∈l,z<m)→m≤6561→∀ z∈l,z≤1000000:=fun l m h1 h2 z hz=>by have:=h1 z hz; omega
   have hs1:=sides14_any k k1 (.slice la ln lc) u1.dropLast WB (ho1m.below bAB) hk hN1 (e00 _ _ l3.out hM6) (by rw [List.length_dropLast]; omega)
   have bB0:Below w.heap.size w WB:=Below.step b0 (Below.step b29 bAB)
   have hB10:w.heap.size≤WB.heap.size:=bB0.size
   clear ho1m ho2m ho3m ho4m
   replace hs1:=Hd hs1
   replace RB:=Hd RB
   replace hWB:=Hd hWB
   replace e00:=Hd e00
   replace n02:=Hd n02
   replace n03:=Hd n03
   replace n42:=Hd n42
   replace n40:=Hd n40
   replace n41:=Hd n41
   replace n00:=Hd n00
   replace n01:=Hd n01
   go_upto_region 13 with fail
   rw [hWB.out]
   go_wp2_with fail
   refine hs1.out.mono ?_
   rintro e w10 ⟨x1,y1,rfl,b10,oa1,ob1,hd1⟩
   replace n02:=n02.out
   replace n03:=n03.out
   replace n42:=n42.out
   replace n40:=n40.out
   replace n41:=n41.out
   replace n00:=n00.out
   replace n01:=n01.out
   obtain ⟨f10,R10,n10,n11,o10⟩:=RB.out.add2E (1,0) (1,1) (by decide) (r':=rowI x1 (sideA k k1 u1.dropLast)) (s':=rowI y1 (sideB k k1 u1.dropLast)) b10 (oa1.mono hB10) (fun q hq=>(oa1.lt q hq).1) (ob1.mono hB10) (fun q hq=>(ob1.lt q hq).1) hd1
   replace n02:=(o10 (0,2) (by decide) (by decide)).trans n02
   replace n03:=(o10 (0,3) (by decide) (by decide)).trans n03
   replace n42:=(o10 (4,2) (by decide) (by decide)).trans n42
   replace n40:=(o10 (4,0) (by decide) (by decide)).trans n40
   replace n41:=(o10 (4,1) (by decide) (by decide)).trans n41
   replace n00:=(o10 (0,0) (by decide) (by decide)).trans n00
   replace n01:=(o10 (0,1) (by decide) (by decide)).trans n01
   obtain ⟨a0,a1,a2,a3⟩:=R10.cells4 n00
   obtain ⟨d0,d1,d2,d3⟩:=R10.cells4 n01
   have fa:=R10.frz4 n00 1
   have fb:=R10.frz4 n01 1
   have la0:=(R10.low4 n00).1
   have lb0:=(R10.low4 n01).1
   obtain ⟨fx10,Rx10,m00,ox⟩:=R10.st4 n00 1 x1
   replace n02:=(ox (0,2) (by decide)).trans n02
   replace n03:=(ox (0,3) (by decide)).trans n03
   replace n42:=(ox (4,2) (by decide)).trans n42
   replace n40:=(ox (4,0) (by decide)).trans n40
   replace n41:=(ox (4,1) (by decide)).trans n41
   replace n01:=(ox (0,1) (by decide)).trans n01
   replace n10:=(ox (1,0) (by decide)).trans n10
   replace n11:=(ox (1,1) (by decide)).trans n11
   clear n00
   have n00:=m00
   obtain ⟨fy10,Ry10,m01,oy⟩:=Rx10.st4 n01 1 y1
   replace n02:=(oy (0,2) (by decide)).trans n02
   replace n03:=(oy (0,3) (by decide)).trans n03
   replace n42:=(oy (4,2) (by decide)).trans n42
   replace n40:=(oy (4,0) (by decide)).trans n40
   replace n41:=(oy (4,1) (by decide)).trans n41
   replace n00:=(oy (0,0) (by decide)).trans n00
   replace n10:=(oy (1,0) (by decide)).trans n10
   replace n11:=(oy (1,1) (by decide)).trans n11
   clear n01
   have n01:=m01
   simp only [List.set_cons_zero,List.set_cons_succ] at n00 n01
   have by10:Below w.heap.size w ((w10.setCell ⟨w9.heap.size,1,none⟩ x1).setCell ⟨w9.heap.size+1,1,none⟩ y1):=(((bB0.trans (b10.mono hB10)).setCell (show w.heap.size≤(⟨w9.heap.size,1,none⟩:Addr).block from la0) _)).setCell (show w.heap.size≤(⟨w9.heap.size+1,1,none⟩:Addr).block from lb0) _
   obtain ⟨x1a,x1b,x1c,hx1⟩:=oa1.at.shape
   obtain ⟨y1a,y1b,y1c,hy1⟩:=ob1.at.shape
   subst hx1; subst hy1
   clear oa1 ob1 hd1 R10 Rx10 o10 ox oy m00 m01 la0 lb0
   obtain ⟨V10,hV10⟩:∃ V:World,(w10.setCell ⟨w9.heap.size,1,none⟩ (.slice x1a x1b x1c)).setCell ⟨w9.heap.size+1,1,none⟩ (.slice y1a y1b y1c)=V:=⟨_,rfl⟩
   rw [hV10] at Ry10 by10
   replace Ry10:=Hd Ry10
   replace hV10:=Hd hV10
   replace n02:=Hd n02
   replace n03:=Hd n03
   replace n42:=Hd n42
   replace n40:=Hd n40
   replace n41:=Hd n41
   replace n00:=Hd n00
   replace n01:=Hd n01
   replace n10:=Hd n10
   replace n11:=Hd n11
   go_upto_region 14 with fail
   rw [hV10.out]
   clear a0 a1 a2 a3 d0 d1 d2 d3 fa fb
   have hB11:w.heap.size≤V10.heap.size:=by10.size
   clear hs1
   obtain ⟨tl,htl,hti⟩:=(Ry10.out.ownI n41.out).at.post 1 (by rw [castI_len]; omega)
   rw [← castI_drop] at hti
   have htl1:∀ w',(Instr.slice 30 ov (some (.int .i64 1)) none none).run Tryz.prog w'=.ok tl w':=htl
   clear htl
   have hio:=Ry10.out.ownI n40.out
   obtain ⟨ova,ovb,ovc,hov⟩:=(Ry10.out.ownI n41.out).at.shape
   subst hov
   obtain ⟨tla,tlb,tlc,htlv⟩:=hti.shape
   subst htlv
   replace hti:=Hd hti
   replace hio:=Hd hio
   go_wp2_with (at_builtin; refine wpl_append rfl _ _ rfl w.heap.size (.slice ia in' ic) (.slice tla tlb tlc) (castI I) (castI (O.drop 1)) hio.out hti.out rfl rfl (by rw [castI_len,castI_len,List.length_drop]; omega) hB11 ?_)
   intro cv' w11 hco b11 hcg' hcal
   replace n02:=n02.out
   replace n03:=n03.out
   replace n42:=n42.out
   replace n40:=n40.out
   replace n41:=n41.out
   replace n00:=n00.out
   replace n01:=n01.out
   replace n10:=n10.out
   replace n11:=n11.out
   have hcal2:(rowI cv' (castI (I++O.drop 1))).v.ownBlock=(rowI (.slice ia in' ic) (castI I)).v.ownBlock∨∃ k,(rowI cv' (castI (I++O.drop 1))).v.ownBlock=some k∧V10.heap.size≤k:=hcal
   replace hco:OwnI w.heap.size w11 cv' (castI (I++O.drop 1)):=by rw [castI_app,List.drop_one]; exact hco
   have R11:=Ry10.out.grown (r':=rowI cv' (castI (I++O.drop 1))) n40 hcg' hco hcal2
   have o11:∀ j,j≠(4,0)→upd fy10 (4,0) (some (rowI cv' (castI (I++O.drop 1)))) j=fy10 j:=fun j e=>upd_ne _ _ e
   clear n40
   replace n02:=(o11 (0,2) (by decide)).trans n02
   replace n03:=(o11 (0,3) (by decide)).trans n03
   replace n42:=(o11 (4,2) (by decide)).trans n42
   replace n41:=(o11 (4,1) (by decide)).trans n41
   replace n00:=(o11 (0,0) (by decide)).trans n00
   replace n01:=(o11 (0,1) (by decide)).trans n01
   replace n10:=(o11 (1,0) (by decide)).trans n10
   replace n11:=(o11 (1,1) (by decide)).trans n11
   generalize upd fy10 (4,0) (some (rowI cv' (castI (I++O.drop 1))))=f11 at *
   have bw11:Below w.heap.size w w11:=by10.trans b11
   have hB12:w.heap.size≤w11.heap.size:=bw11.size
   have hlowC:∀ z∈I++O.drop 1,z<G.length:=fun z hz=>by
    rcases List.mem_append.1 hz with hz | hz
    ·exact p2.out z hz
    ·exact q2.out z (List.mem_of_mem_drop hz)
   have hs2:=sides14_any k k1 cv' (I++O.drop 1) w11 hco.at hk hN1 (e00.out _ _ hlowC hM6) (by rw [List.length_append,List.length_drop]; omega)
   obtain ⟨cva,cvb,cvc,hcv⟩:=hco.at.shape
   subst hcv
   clear hcal hcal2 hcg' hco o11 hlowC htl1
   replace hs2:=Hd hs2
   replace R11:=Hd R11
   replace n02:=Hd n02
   replace n03:=Hd n03
   replace n42:=Hd n42
   replace n41:=Hd n41
   replace n00:=Hd n00
   replace n01:=Hd n01
   replace n10:=Hd n10
   replace n11:=Hd n11
   go_wp2_with fail
   refine hs2.out.mono ?_
   rintro e w12 ⟨x2,y2,rfl,b12,oa2,ob2,hd2⟩
   have bw12:=bw11
   replace n02:=n02.out
   replace n03:=n03.out
   replace n42:=n42.out
   replace n41:=n41.out
   replace n00:=n00.out
   replace n01:=n01.out
   replace n10:=n10.out
   replace n11:=n11.out
   obtain ⟨f12,R12,n20,n21,o12⟩:=R11.out.add2E (2,0) (2,1) (by decide) (r':=rowI x2 (sideA k k1 (I++O.drop 1))) (s':=rowI y2 (sideB k k1 (I++O.drop 1))) b12 (oa2.mono hB12) (fun q hq=>(oa2.lt q hq).1) (ob2.mono hB12) (fun q hq=>(ob2.lt q hq).1) hd2
   replace n02:=(o12 (0,2) (by decide) (by decide)).trans n02
   replace n03:=(o12 (0,3) (by decide) (by decide)).trans n03
   replace n42:=(o12 (4,2) (by decide) (by decide)).trans n42
   replace n41:=(o12 (4,1) (by decide) (by decide)).trans n41
   replace n00:=(o12 (0,0) (by decide) (by decide)).trans n00
   replace n01:=(o12 (0,1) (by decide) (by decide)).trans n01
   replace n10:=(o12 (1,0) (by decide) (by decide)).trans n10
   replace n11:=(o12 (1,1) (by decide) (by decide)).trans n11
   obtain ⟨a0,a1,a2,a3⟩:=R12.cells4 n00
   obtain ⟨d0,d1,d2,d3⟩:=R12.cells4 n01
   have fa:=R12.frz4 n00 2
   have fb:=R12.frz4 n01 2
   have la0:=(R12.low4 n00).1
   have lb0:=(R12.low4 n01).1
   obtain ⟨fx12,Rx12,m00,ox⟩:=R12.st4 n00 2 x2
   replace n02:=(ox (0,2) (by decide)).trans n02
   replace n03:=(ox (0,3) (by decide)).trans n03
   replace n42:=(ox (4,2) (by decide)).trans n42
   replace n41:=(ox (4,1) (by decide)).trans n41
   replace n01:=(ox (0,1) (by decide)).trans n01
   replace n10:=(ox (1,0) (by decide)).trans n10
   replace n11:=(ox (1,1) (by decide)).trans n11
   replace n20:=(ox (2,0) (by decide)).trans n20
   replace n21:=(ox (2,1) (by decide)).trans n21
   clear n00
   have n00:=m00
   obtain ⟨fy12,Ry12,m01,oy⟩:=Rx12.st4 n01 2 y2
   replace n02:=(oy (0,2) (by decide)).trans n02
   replace n03:=(oy (0,3) (by decide)).trans n03
   replace n42:=(oy (4,2) (by decide)).trans n42
   replace n41:=(oy (4,1) (by decide)).trans n41
   replace n00:=(oy (0,0) (by decide)).trans n00
   replace n10:=(oy (1,0) (by decide)).trans n10
   replace n11:=(oy (1,1) (by decide)).trans n11
   replace n20:=(oy (2,0) (by decide)).trans n20
   replace n21:=(oy (2,1) (by decide)).trans n21
   clear n01
   have n01:=m01
   simp only [List.set_cons_zero,List.set_cons_succ] at n00 n01
   have by12:Below w.heap.size w ((w12.setCell ⟨w9.heap.size,2,none⟩ x2).setCell ⟨w9.heap.size+1,2,none⟩ y2):=(((bw12.trans (b12.mono hB12)).setCell (show w.heap.size≤(⟨w9.heap.size,2,none⟩:Addr).block from la0) _)).setCell (show w.heap.size≤(⟨w9.heap.size+1,2,none⟩:Addr).block from lb0) _
   obtain ⟨x2a,x2b,x2c,hx2⟩:=oa2.at.shape
   obtain ⟨y2a,y2b,y2c,hy2⟩:=ob2.at.shape
   subst hx2; subst hy2
   clear oa2 ob2 hd2 R12 Rx12 o12 ox oy m00 m01 la0 lb0
   obtain ⟨V12,hV12⟩:∃ V:World,(w12.setCell ⟨w9.heap.size,2,none⟩ (.slice x2a x2b x2c)).setCell ⟨w9.heap.size+1,2,none⟩ (.slice y2a y2b y2c)=V:=⟨_,rfl⟩
   rw [hV12] at Ry12 by12
   replace Ry12:=Hd Ry12
   replace hV12:=Hd hV12
   replace n02:=Hd n02
   replace n03:=Hd n03
   replace n42:=Hd n42
   replace n41:=Hd n41
   replace n00:=Hd n00
   replace n01:=Hd n01
   replace n10:=Hd n10
   replace n11:=Hd n11
   replace n20:=Hd n20
   replace n21:=Hd n21
   go_upto_region 15 with fail
   rw [hV12.out]
   clear a0 a1 a2 a3 d0 d1 d2 d3 fa fb
   have hB13:w.heap.size≤V12.heap.size:=by12.size
   clear hs2
   have hri:=Ry12.out.ownI n42.out
   have bl:=belowAlloc V12 (.cells #[.int .i64 (d:Int)] 3)
   have hcl:(V12.alloc (.cells #[.int .i64 (d:Int)] 3)).cell? ⟨V12.heap.size,0,none⟩=some (.int .i64 d):=by simp [go_sem]
   obtain ⟨qv,w13,hqr,hqi,hqb,hqg⟩:=run_appTail w.heap.size 30 (V12.alloc (.cells #[.int .i64 (d:Int)] 3)) rg rc V12.heap.size (castI u2.dropLast) (d:Int) (hri.below bl) (by rw [lr2.out]; omega) hcl (by simp; omega) (by rw [lr2.out]; omega)
   have htl:=run_sliceTail rg (castI u2.dropLast).length rc (by rw [lr2.out]; omega)
   generalize sliced (some ⟨rg,0,none⟩) 1 (castI u2.dropLast).length rc 1=tq at *
   rw [← castI_drop,show [(d:Int)]=castI [d] from rfl,← castI_app] at hqi
   have bw13:Below w.heap.size w w13:=(by12.trans (bl.mono hB13)).trans hqb
   have hB14:w.heap.size≤w13.heap.size:=bw13.size
   replace n02:=n02.out
   replace n03:=n03.out
   replace n42:=n42.out
   replace n41:=n41.out
   replace n00:=n00.out
   replace n01:=n01.out
   replace n10:=n10.out
   replace n11:=n11.out
   replace n20:=n20.out
   replace n21:=n21.out
   obtain ⟨f13,R13,o13⟩:=(Ry12.out.below bl).lose n42 hqg
   clear n42 hqg
   replace n02:=(o13 (0,2) (by decide)).trans n02
   replace n03:=(o13 (0,3) (by decide)).trans n03
   replace n41:=(o13 (4,1) (by decide)).trans n41
   replace n00:=(o13 (0,0) (by decide)).trans n00
   replace n01:=(o13 (0,1) (by decide)).trans n01
   replace n10:=(o13 (1,0) (by decide)).trans n10
   replace n11:=(o13 (1,1) (by decide)).trans n11
   replace n20:=(o13 (2,0) (by decide)).trans n20
   replace n21:=(o13 (2,1) (by decide)).trans n21
   clear o13
   have hlowQ:∀ z∈u2.dropLast.drop 1++[d],z<G.length:=fun z hz=>by
    rcases List.mem_append.1 hz with hz | hz
    ·exact m3.out z (List.mem_of_mem_drop hz)
    ·rw [List.mem_singleton] at hz; subst hz; exact hdn
   have hs3:=sides14_any k k1 qv (u2.dropLast.drop 1++[d]) w13 hqi hk hN1 (e00.out _ _ hlowQ hM6) (by simp; omega)
   obtain ⟨qva,qvb,qvc,hqv⟩:=hqi.shape
   subst hqv
   clear hqi hlowQ hri hcl
   replace hs3:=Hd hs3
   replace R13:=Hd R13
   replace hqr:=Hd hqr
   replace htl:=Hd htl
   replace n02:=Hd n02
   replace n03:=Hd n03
   replace n41:=Hd n41
   replace n00:=Hd n00
   replace n01:=Hd n01
   replace n10:=Hd n10
   replace n11:=Hd n11
   replace n20:=Hd n20
   replace n21:=Hd n21
   have htl1:∀ w',(Instr.slice 30 (.slice (some ⟨rg,0,none⟩) (castI u2.dropLast).length rc) (some (.int .i64 1)) none none).run Tryz.prog w'=.ok tq w':=htl.out
   go_wp2_with (at_builtin; refine wpl_app_run rfl _ _ _ rfl _ _ rfl rfl hqr.out ?_)
   go_wp2_with fail
   refine hs3.out.mono ?_
   rintro e w14 ⟨x3,y3,rfl,b14,oa3,ob3,hd3⟩
   have bw14:=bw13
   replace n02:=n02.out
   replace n03:=n03.out
   replace n41:=n41.out
   replace n00:=n00.out
   replace n01:=n01.out
   replace n10:=n10.out
   replace n11:=n11.out
   replace n20:=n20.out
   replace n21:=n21.out
   obtain ⟨f14,R14,n30,n31,o14⟩:=R13.out.add2E (3,0) (3,1) (by decide) (r':=rowI x3 (sideA k k1 (u2.dropLast.drop 1++[d]))) (s':=rowI y3 (sideB k k1 (u2.dropLast.drop 1++[d]))) b14 (oa3.mono hB14) (fun q hq=>(oa3.lt q hq).1) (ob3.mono hB14) (fun q hq=>(ob3.lt q hq).1) hd3
   replace n02:=(o14 (0,2) (by decide) (by decide)).trans n02
   replace n03:=(o14 (0,3) (by decide) (by decide)).trans n03
   replace n41:=(o14 (4,1) (by decide) (by decide)).trans n41
   replace n00:=(o14 (0,0) (by decide) (by decide)).trans n00
   replace n01:=(o14 (0,1) (by decide) (by decide)).trans n01
   replace n10:=(o14 (1,0) (by decide) (by decide)).trans n10
   replace n11:=(o14 (1,1) (by decide) (by decide)).trans n11
   replace n20:=(o14 (2,0) (by decide) (by decide)).trans n20
   replace n21:=(o14 (2,1) (by decide) (by decide)).trans n21
   obtain ⟨a0,a1,a2,a3⟩:=R14.cells4 n00
   obtain ⟨d0,d1,d2,d3⟩:=R14.cells4 n01
   have fa:=R14.frz4 n00 3
   have fb:=R14.frz4 n01 3
   have la0:=(R14.low4 n00).1
   have lb0:=(R14.low4 n01).1
   obtain ⟨fx14,Rx14,m00,ox⟩:=R14.st4 n00 3 x3
   replace n02:=(ox (0,2) (by decide)).trans n02
   replace n03:=(ox (0,3) (by decide)).trans n03
   replace n41:=(ox (4,1) (by decide)).trans n41
   replace n01:=(ox (0,1) (by decide)).trans n01
   replace n10:=(ox (1,0) (by decide)).trans n10
   replace n11:=(ox (1,1) (by decide)).trans n11
   replace n20:=(ox (2,0) (by decide)).trans n20
   replace n21:=(ox (2,1) (by decide)).trans n21
   replace n30:=(ox (3,0) (by decide)).trans n30
   replace n31:=(ox (3,1) (by decide)).trans n31
   clear n00
   have n00:=m00
   obtain ⟨fy14,Ry14,m01,oy⟩:=Rx14.st4 n01 3 y3
   replace n02:=(oy (0,2) (by decide)).trans n02
   replace n03:=(oy (0,3) (by decide)).trans n03
   replace n41:=(oy (4,1) (by decide)).trans n41
   replace n00:=(oy (0,0) (by decide)).trans n00
   replace n10:=(oy (1,0) (by decide)).trans n10
   replace n11:=(oy (1,1) (by decide)).trans n11
   replace n20:=(oy (2,0) (by decide)).trans n20
   replace n21:=(oy (2,1) (by decide)).trans n21
   replace n30:=(oy (3,0) (by decide)).trans n30
   replace n31:=(oy (3,1) (by decide)).trans n31
   clear n01
   have n01:=m01
   simp only [List.set_cons_zero,List.set_cons_succ] at n00 n01
   have by14:Below w.heap.size w ((w14.setCell ⟨w9.heap.size,3,none⟩ x3).setCell ⟨w9.heap.size+1,3,none⟩ y3):=(((bw14.trans (b14.mono hB14)).setCell (show w.heap.size≤(⟨w9.heap.size,3,none⟩:Addr).block from la0) _)).setCell (show w.heap.size≤(⟨w9.heap.size+1,3,none⟩:Addr).block from lb0) _
   obtain ⟨x3a,x3b,x3c,hx3⟩:=oa3.at.shape
   obtain ⟨y3a,y3b,y3c,hy3⟩:=ob3.at.shape
   subst hx3; subst hy3
   clear oa3 ob3 hd3 R14 Rx14 o14 ox oy m00 m01 la0 lb0
   obtain ⟨V14,hV14⟩:∃ V:World,(w14.setCell ⟨w9.heap.size,3,none⟩ (.slice x3a x3b x3c)).setCell ⟨w9.heap.size+1,3,none⟩ (.slice y3a y3b y3c)=V:=⟨_,rfl⟩
   rw [hV14] at Ry14 by14
   replace Ry14:=Hd Ry14
   replace hV14:=Hd hV14
   replace n02:=Hd n02
   replace n03:=Hd n03
   replace n41:=Hd n41
   replace n00:=Hd n00
   replace n01:=Hd n01
   replace n10:=Hd n10
   replace n11:=Hd n11
   replace n20:=Hd n20
   replace n21:=Hd n21
   replace n30:=Hd n30
   replace n31:=Hd n31
   go_upto_region 16 with fail
   rw [hV14.out]
   clear a0 a1 a2 a3 d0 d1 d2 d3 fa fb
   have hB15:w.heap.size≤V14.heap.size:=by14.size
   clear hs3
   replace n02:=n02.out
   replace n03:=n03.out
   replace n41:=n41.out
   replace n00:=n00.out
   replace n01:=n01.out
   replace n10:=n10.out
   replace n11:=n11.out
   replace n20:=n20.out
   replace n21:=n21.out
   replace n30:=n30.out
   replace n31:=n31.out
   obtain ⟨V,hVd⟩:∃ V:World,V14.drew=V:=⟨_,rfl⟩
   have RV:=Ry14.out.drew
   have bV:=by14.drew
   rw [hVd] at RV bV
   clear Ry14 by14
   replace hVd:=Hd hVd
   have hS:V.cell? ⟨w9.heap.size,0,none⟩=some (.int .i64 0)∧V.cell? ⟨w9.heap.size,1,none⟩=some (.slice x1a x1b x1c)∧V.cell? ⟨w9.heap.size,2,none⟩=some (.slice x2a x2b x2c)∧V.cell? ⟨w9.heap.size,3,none⟩=some (.slice x3a x3b x3c)∧V.cell? ⟨w9.heap.size+1,0,none⟩=some (.int .i64 0)∧V.cell? ⟨w9.heap.size+1,1,none⟩=some (.slice y1a y1b y1c)∧V.cell? ⟨w9.heap.size+1,2,none⟩=some (.slice y2a y2b y2c)∧V.cell? ⟨w9.heap.size+1,3,none⟩=some (.slice y3a y3b y3c):=by
    obtain ⟨a0,a1,a2,a3⟩:=RV.cells4 n00
    obtain ⟨d0,d1,d2,d3⟩:=RV.cells4 n01
    exact ⟨a0,a1,a2,a3,d0,d1,d2,d3⟩
   obtain ⟨g0,g1,g2,g3⟩:=RV.cells4 n02
   have fg0:=RV.frz4 n02 0
   have fg1:=RV.frz4 n02 1
   have fg2:=RV.frz4 n02 2
   have fg3:=RV.frz4 n02 3
   have lg0:=(RV.low4 n02).1
   obtain ⟨f15,R15,m02,o15⟩:=RV.all4 n02 (.int .i64 0) (.slice x1a x1b x1c) (.slice x2a x2b x2c) (.slice x3a x3b x3c)
   replace n03:=(o15 (0,3) (by decide)).trans n03
   replace n41:=(o15 (4,1) (by decide)).trans n41
   replace n00:=(o15 (0,0) (by decide)).trans n00
   replace n01:=(o15 (0,1) (by decide)).trans n01
   replace n10:=(o15 (1,0) (by decide)).trans n10
   replace n11:=(o15 (1,1) (by decide)).trans n11
   replace n20:=(o15 (2,0) (by decide)).trans n20
   replace n21:=(o15 (2,1) (by decide)).trans n21
   replace n30:=(o15 (3,0) (by decide)).trans n30
   replace n31:=(o15 (3,1) (by decide)).trans n31
   have b15:=Below.all4 (g:=w.heap.size) bV lg0 (.int .i64 0) (.slice x1a x1b x1c) (.slice x2a x2b x2c) (.slice x3a x3b x3c)
   obtain ⟨V15,hV15⟩:∃ V',(((V.setCell ⟨w.heap.size,0,none⟩ (.int .i64 0)).setCell ⟨w.heap.size,1,none⟩ (.slice x1a x1b x1c)).setCell ⟨w.heap.size,2,none⟩ (.slice x2a x2b x2c)).setCell ⟨w.heap.size,3,none⟩ (.slice x3a x3b x3c)=V':=⟨_,rfl⟩
   rw [hV15] at R15 b15
   have hS15:V15.cell? ⟨w9.heap.size,0,none⟩=some (.int .i64 0)∧V15.cell? ⟨w9.heap.size,1,none⟩=some (.slice x1a x1b x1c)∧V15.cell? ⟨w9.heap.size,2,none⟩=some (.slice x2a x2b x2c)∧V15.cell? ⟨w9.heap.size,3,none⟩=some (.slice x3a x3b x3c)∧V15.cell? ⟨w9.heap.size+1,0,none⟩=some (.int .i64 0)∧V15.cell? ⟨w9.heap.size+1,1,none⟩=some (.slice y1a y1b y1c)∧V15.cell? ⟨w9.heap.size+1,2,none⟩=some (.slice y2a y2b y2c)∧V15.cell? ⟨w9.heap.size+1,3,none⟩=some (.slice y3a y3b y3c):=by
    obtain ⟨a0,a1,a2,a3⟩:=R15.cells4 n00
    obtain ⟨d0,d1,d2,d3⟩:=R15.cells4 n01
    exact ⟨a0,a1,a2,a3,d0,d1,d2,d3⟩
   replace hV15:=Hd hV15
   clear n02 o15 RV bV lg0
   have n02:=m02
   clear m02
   refine wp_region_plan (fun w'=>w'.cell? ⟨w9.heap.size,0,none⟩=some (.int .i64 0)∧w'.cell? ⟨w9.heap.size,1,none⟩=some (.slice x1a x1b x1c)∧w'.cell? ⟨w9.heap.size,2,none⟩=some (.slice x2a x2b x2c)∧w'.cell? ⟨w9.heap.size,3,none⟩=some (.slice x3a x3b x3c)∧w'.cell? ⟨w9.heap.size+1,0,none⟩=some (.int .i64 0)∧w'.cell? ⟨w9.heap.size+1,1,none⟩=some (.slice y1a y1b y1c)∧w'.cell? ⟨w9.heap.size+1,2,none⟩=some (.slice y2a y2b y2c)∧w'.cell? ⟨w9.heap.size+1,3,none⟩=some (.slice y3a y3b y3c)) 4 [(0,true),(1,true),(2,false),(3,false)] (by kernel_rfl) (by kernel_rfl) ?_
   rw [hVd.out]
   refine pqY 111 hS ?_
   refine pqY 112 hS ?_
   refine headC rfl (fun KK hK=>?_)
   go_simp
   rw [hV15.out]
   refine hK _ _ hS15 ?_
   clear hK KK hS g0 g1 g2 g3 fg0 fg1 fg2 fg3
   obtain ⟨h0,h1,h2,h3⟩:=R15.cells4 n03
   have fh0:=R15.frz4 n03 0
   have fh1:=R15.frz4 n03 1
   have fh2:=R15.frz4 n03 2
   have fh3:=R15.frz4 n03 3
   have lh0:=(R15.low4 n03).1
   obtain ⟨f16,R16,m03,o16⟩:=R15.all4 n03 (.int .i64 0) (.slice y1a y1b y1c) (.slice y2a y2b y2c) (.slice y3a y3b y3c)
   replace n02:=(o16 (0,2) (by decide)).trans n02
   replace n41:=(o16 (4,1) (by decide)).trans n41
   replace n00:=(o16 (0,0) (by decide)).trans n00
   replace n01:=(o16 (0,1) (by decide)).trans n01
   replace n10:=(o16 (1,0) (by decide)).trans n10
   replace n11:=(o16 (1,1) (by decide)).trans n11
   replace n20:=(o16 (2,0) (by decide)).trans n20
   replace n21:=(o16 (2,1) (by decide)).trans n21
   replace n30:=(o16 (3,0) (by decide)).trans n30
   replace n31:=(o16 (3,1) (by decide)).trans n31
   have b16:=Below.all4 (g:=w.heap.size+1) b15 lh0 (.int .i64 0) (.slice y1a y1b y1c) (.slice y2a y2b y2c) (.slice y3a y3b y3c)
   obtain ⟨V16,hV16⟩:∃ V',(((V15.setCell ⟨w.heap.size+1,0,none⟩ (.int .i64 0)).setCell ⟨w.heap.size+1,1,none⟩ (.slice y1a y1b y1c)).setCell ⟨w.heap.size+1,2,none⟩ (.slice y2a y2b y2c)).setCell ⟨w.heap.size+1,3,none⟩ (.slice y3a y3b y3c)=V':=⟨_,rfl⟩
   rw [hV16] at R16 b16
   have hS16:V16.cell? ⟨w9.heap.size,0,none⟩=some (.int .i64 0)∧V16.cell? ⟨w9.heap.size,1,none⟩=some (.slice x1a x1b x1c)∧V16.cell? ⟨w9.heap.size,2,none⟩=some (.slice x2a x2b x2c)∧V16.cell? ⟨w9.heap.size,3,none⟩=some (.slice x3a x3b x3c)∧V16.cell? ⟨w9.heap.size+1,0,none⟩=some (.int .i64 0)∧V16.cell? ⟨w9.heap.size+1,1,none⟩=some (.slice y1a y1b y1c)∧V16.cell? ⟨w9.heap.size+1,2,none⟩=some (.slice y2a y2b y2c)∧V16.cell? ⟨w9.heap.size+1,3,none⟩=some (.slice y3a y3b y3c):=by
    obtain ⟨a0,a1,a2,a3⟩:=R16.cells4 n00
    obtain ⟨d0,d1,d2,d3⟩:=R16.cells4 n01
    exact ⟨a0,a1,a2,a3,d0,d1,d2,d3⟩
   replace hV16:=Hd hV16
   clear n03 o16 R15 b15 lh0
   have n03:=m03
   clear m03
   refine headC rfl (fun KK hK=>?_)
   go_simp
   rw [hV16.out]
   refine hK _ _ hS16 ?_
   clear hK KK hS15 h0 h1 h2 h3 fh0 fh1 fh2 fh3
   refine head0 ?_
   simp only [List.drop_succ_cons,List.drop_zero]
   clear hS16
   obtain ⟨g0,g1,g2,g3⟩:=R16.cells4 n02
   obtain ⟨h0,h1,h2,h3⟩:=R16.cells4 n03
   replace R16:=Hd R16
   replace n00:=Hd n00
   replace n01:=Hd n01
   replace n02:=Hd n02
   replace n03:=Hd n03
   replace n41:=Hd n41
   replace n10:=Hd n10
   replace n11:=Hd n11
   replace n20:=Hd n20
   replace n21:=Hd n21
   replace n30:=Hd n30
   replace n31:=Hd n31
   go_wp2
   refine NoPanic.normal ?_
   go_wp2
   refine bodyPost_ret (v:=.tuple #[.agg #[.int .i64 0,.slice x1a x1b x1c,.slice x2a x2b x2c,.slice x3a x3b x3c],.agg #[.int .i64 0,.slice y1a y1b y1c,.slice y2a y2b y2c,.slice y3a y3b y3c],.nilIface]) (by simp [results,Tryz.results161,go_sem,g0,g1,g2,g3,h0,h1,h2,h3]) rfl ?_
   exact ⟨_,_,_,rfl,b16,rfl,u1.dropLast,I++O.drop 1,u2.dropLast.drop 1++[d],_,_,_,_,_,_,⟨c,d,u1,u2,I,O,hcN.out,hdN.out,hcn,hdn,hu1.out,hu2.out,hI.out,hO.out,rfl,rfl,rfl⟩,rfl,rfl,f16,R16.out,n10.out,n11.out,n20.out,n21.out,n30.out,n31.out⟩
end Go.Proofs.YtindfaehjoileaaGreatDoor
namespace Go.Proofs.YtindfaehjoileaaGreatDoor
def LiveP (n:Nat) (adj:Nat→List Nat) (v:Nat):Prop:=(∃ u,u<n∧(∃ t∈adj u,Goes adj t u)∧Goes adj u v)∧∃ u,u<n∧(∃ t∈adj u,Goes adj t u)∧Goes adj v u
def Steps (adj:Nat→List Nat) (l:List Nat):Prop:=∀ i,i+1<l.length→l.getD (i+1) 0∈adj (l.getD i 0)
theorem getD_left {l:List Nat} {y i:Nat} (h:i<l.length):(l++[y]).getD i 0=l.getD i 0:=by
 rw [List.getD_eq_getElem?_getD,List.getElem?_append_left h,← List.getD_eq_getElem?_getD]
theorem getD_last {l:List Nat} {y i:Nat} (h:i=l.length):(l++[y]).getD i 0=y:=by
 subst h; simp [List.getD]
theorem Steps.snoc {adj:Nat→List Nat} {l:List Nat} {x y:Nat} (h:Steps adj l) (hx:l.getD (l.length-1) 0=x) (hy:y∈adj x):Steps adj (l++[y]):=by
 intro i hi
 simp only [List.length_append,List.length_singleton] at hi
 by_cases e:i+1=l.length
 ·rw [getD_last e,getD_left (by omega),show i=l.length-1 by omega,hx]; exact hy
 ·rw [getD_left (by omega),getD_left (by omega)]; exact h i (by omega)
theorem Goes.head {adj:Nat→List Nat} {x z:Nat} (h:Goes adj x z):x=z∨∃ y∈adj x,Goes adj y z:=by
 induction h with
 | refl=>exact .inl rfl
 | step h hz ih =>
  rcases ih with rfl | ⟨t,ht,hg⟩
  ·exact .inr ⟨_,hz,.refl _⟩
  ·exact .inr ⟨t,ht,.step hg hz⟩
theorem ways_into {M:Nat} {adj:Nat→List Nat} (hc:∀ x,x<M→∀ t∈adj x,t<M) (a:Nat):∀ v,(∃ u,u<M∧(∃ t∈adj u,Goes adj t u)∧Goes adj u v) →
 ∃ l,l.length=a+1∧l.getD a 0=v∧Steps adj l∧∀ x∈l,x<M:=by
 have low:∀ {u v},u<M→Goes adj u v→v<M:=fun hu h=>Goes.closed (P:=(·<M)) hc h hu
 induction a with
 | zero =>
  rintro v ⟨u,hu,_,hg⟩
  exact ⟨[v],rfl,rfl,fun i hi=>by simp at hi,fun x hx=>by rw [List.mem_singleton] at hx; subst hx; exact low hu hg⟩
 | succ a ih =>
  rintro v ⟨u,hu,hl,hg⟩
  have hv:=low hu hg
  have key:∃ y,v∈adj y∧∃ u,u<M∧(∃ t∈adj u,Goes adj t u)∧Goes adj u y:=by
   cases hg with
   | refl =>
    obtain ⟨t,ht,hgt⟩:=hl
    cases hgt with
    | refl=>exact ⟨_,ht,_,hu,⟨_,ht,.refl _⟩,.refl _⟩
    | step h2 hz=>exact ⟨_,hz,_,hu,⟨t,ht,.step h2 hz⟩,(Goes.one ht).trans h2⟩
   | step h2 hz=>exact ⟨_,hz,_,hu,hl,h2⟩
  obtain ⟨y,hy,hu2⟩:=key
  obtain ⟨l,l1,l2,l3,l4⟩:=ih y hu2
  refine ⟨l++[v],by simp [l1],getD_last l1.symm,l3.snoc (by rw [l1,Nat.add_sub_cancel]; exact l2) hy,fun x hx=>?_⟩
  rcases List.mem_append.1 hx with hx | hx
  ·exact l4 x hx
  ·rw [List.mem_singleton] at hx; subst hx; exact hv
theorem ways_through {M:Nat} {adj:Nat→List Nat} (hc:∀ x,x<M→∀ t∈adj x,t<M) {v:Nat} (h:LiveP M adj v) (a m:Nat) :
 ∃ l,l.length=a+1+m∧l.getD a 0=v∧Steps adj l∧(∀ x∈l,x<M)∧∃ u,u<M∧(∃ t∈adj u,Goes adj t u)∧Goes adj (l.getD (a+m) 0) u:=by
 induction m with
 | zero =>
  obtain ⟨l,l1,l2,l3,l4⟩:=ways_into hc a v h.1
  exact ⟨l,l1,l2,l3,l4,by rw [Nat.add_zero,l2]; exact h.2⟩
 | succ m ih =>
  obtain ⟨l,l1,l2,l3,l4,u,hu,ht,hg⟩:=ih
  obtain ⟨x,hx⟩:∃ x,l.getD (a+m) 0=x:=⟨_,rfl⟩
  have hxM:x<M:=l4 x (by rw [← hx,List.getD_eq_getElem?_getD,List.getElem?_eq_getElem (by omega),Option.getD_some]; exact List.getElem_mem _)
  rw [hx] at hg
  have key:∃ y∈adj x,∃ u,u<M∧(∃ t∈adj u,Goes adj t u)∧Goes adj y u:=by
   rcases hg.head with rfl | ⟨y,hy,hg2⟩
   ·obtain ⟨t,ht1,ht2⟩:=ht
    exact ⟨t,ht1,x,hu,⟨t,ht1,ht2⟩,ht2⟩
   ·exact ⟨y,hy,u,hu,ht,hg2⟩
  obtain ⟨y,hy,hu2⟩:=key
  refine ⟨l++[y],by simp [l1]; omega,by rw [getD_left (by omega)]; exact l2,l3.snoc (by rw [l1,show a+1+m-1=a+m by omega]; exact hx) hy,fun z hz=>?_,?_⟩
  ·rcases List.mem_append.1 hz with hz | hz
   ·exact l4 z hz
   ·rw [List.mem_singleton] at hz; subst hz; exact hc x hxM z hy
  ·rw [getD_last (by omega)]; exact hu2
theorem node_ne {K m:Nat} {x y:List Int} {i:Nat} (hx:i+m≤x.length) (hy:i+m≤y.length) (h:nodeAt K m x i≠nodeAt K m y i):∃ j,j<m∧x.getD (i+j) 0≠y.getD (i+j) 0:=by
 apply Classical.byContradiction
 intro q
 apply h
 unfold nodeAt
 congr 1
 refine ext_getD (by simp; omega) fun t ht=>?_
 have ht2:t<m:=by simp only [List.length_take] at ht; omega
 rw [sub_get ht2,sub_get ht2]
 exact Classical.byContradiction fun q2=>q ⟨t,ht2,q2⟩
theorem pairL_closed {K N:Nat} (hN:0<N) {T:List Int}:∀ x,x<N*N→∀ t∈pairL K N T x,t<N*N:=fun _ _ _ ht=>((mem_pairL hN).1 ht).lt hN
theorem notOne_of_live {K R:Nat} {T:List Int} (h:RuleOk K R T) (hR:1≤R) {p:Nat} (hp:LiveP (pw K (2*R)*pw K (2*R)) (pairL K (pw K (2*R)) T) p) (hd:¬ Diag (pw K (2*R)) p):NotOne K R T:=by
 intro n
 have hK:=h.k1
 have hN:=pw_pos (K:=K) (2*R) hK
 obtain ⟨l,l1,l2,l3,l4,-⟩:=ways_through (pairL_closed (by omega)) hp n n
 have low:∀ i,i<l.length→l.getD i 0<pw K (2*R)*pw K (2*R):=fun i hi=>l4 _ (by
  rw [List.getD_eq_getElem?_getD,List.getElem?_eq_getElem hi,Option.getD_some]; exact List.getElem_mem _)
 obtain ⟨hn,hi⟩:=ways_words hK hR (by omega) low l3
 have la:=alongW_len K (2*R) (·/pw K (2*R)) l
 have lb:=alongW_len K (2*R) (·%pw K (2*R)) l
 obtain ⟨e1,e2⟩:=hn n (by omega)
 rw [l2] at e1 e2
 obtain ⟨j,hj,hne⟩:=node_ne (K:=K) (m:=2*R) (x:=alongW K (2*R) (·/pw K (2*R)) l) (y:=alongW K (2*R) (·%pw K (2*R)) l) (i:=n) (by omega) (by omega) (by rw [e1,e2]; exact hd)
 exact split_img (alongW_syms hK _ _) (alongW_syms hK _ _) (by omega) (j:=n+j) (by omega) (by omega) hne hi
theorem pigeon {M:Nat} {f:Nat→Nat} (h:∀ i,i≤M→f i<M):∃ i j,i<j∧j≤M∧f i=f j:=by
 apply Classical.byContradiction
 intro q
 have hn:((List.range (M+1)).map f).Nodup:=by
  refine List.pairwise_map.2 (List.Pairwise.imp_of_mem ?_ List.pairwise_lt_range)
  intro a b ha hb hab e
  exact q ⟨a,b,hab,by have:=List.mem_range.1 hb; omega,e⟩
 have hs:(List.range (M+1)).map f ⊆ List.range M:=fun y hy=>by
  obtain ⟨i,hi,rfl⟩:=List.mem_map.1 hy
  exact List.mem_range.2 (h i (by have:=List.mem_range.1 hi; omega))
 have:=nodup_sub hn hs
 simp at this
 omega
theorem goes_along {adj:Nat→List Nat} {f:Nat→Nat} {a:Nat}:∀ d,(∀ k,a≤k→k<a+d→f (k+1)∈adj (f k))→Goes adj (f a) (f (a+d))
 | 0,_=>.refl _
 | d+1,h=>.step (goes_along d fun k h1 h2=>h k h1 (by omega)) (h (a+d) (by omega) (by omega))
theorem live_of_notOne {K R:Nat} {T:List Int} (h:RuleOk K R T) (hR:1≤R) (ho:NotOne K R T):∃ p,p<pw K (2*R)*pw K (2*R)∧LiveP (pw K (2*R)*pw K (2*R)) (pairL K (pw K (2*R)) T) p∧¬ Diag (pw K (2*R)) p:=by
 have hK:=h.k1
 have hN:=pw_pos (K:=K) (2*R) hK
 obtain ⟨M,hM⟩:∃ M,pw K (2*R)*pw K (2*R)=M:=⟨_,rfl⟩
 obtain ⟨n,hn⟩:∃ n,M+2*R=n:=⟨_,rfl⟩
 obtain ⟨x,y,sx,sy,lx,ly,hne,e⟩:=ho n
 obtain ⟨f,hf⟩:∃ f:Nat→Nat,f=fun i=>nodeAt K (2*R) x i*pw K (2*R)+nodeAt K (2*R) y i:=⟨_,rfl⟩
 have nx:∀ i,i+2*R≤2*n+1→nodeAt K (2*R) x i<pw K (2*R):=fun i hi=>node_lt sx (by omega)
 have ny:∀ i,i+2*R≤2*n+1→nodeAt K (2*R) y i<pw K (2*R):=fun i hi=>node_lt sy (by omega)
 have low:∀ i,i+2*R≤2*n+1→f i<M:=fun i hi=>by rw [hf,← hM]; exact pair_lt (nx i hi) (ny i hi)
 have step:∀ i,i+1+2*R≤2*n+1→f (i+1)∈pairL K (pw K (2*R)) T (f i):=fun i hi=>by
  rw [mem_pairL (by omega),hf]
  show Arr K _ T ((nodeAt K (2*R) x i*pw K (2*R)+nodeAt K (2*R) y i)/pw K (2*R)) ((nodeAt K (2*R) x i*pw K (2*R)+nodeAt K (2*R) y i)%pw K (2*R)) _
  rw [pair_div (ny i (by omega)),pair_mod (ny i (by omega))]
  exact wayW_arr sx sy (by omega) e (by omega)
 have goes:∀ a b,a≤b→b+2*R≤2*n+1→Goes (pairL K (pw K (2*R)) T) (f a) (f b):=fun a b hab hb=>by
  obtain ⟨d,rfl⟩:∃ d,b=a+d:=⟨b-a,by omega⟩
  exact goes_along d fun k _ _=>step k (by omega)
 refine ⟨f n,by rw [hM]; exact low n (by omega),⟨?_,?_⟩,?_⟩
 ·obtain ⟨i,j,hij,hj,eij⟩:=pigeon (M:=M) (f:=f) fun i hi=>low i (by omega)
  exact ⟨f i,by rw [hM]; exact low i (by omega),⟨f (i+1),step i (by omega),by rw [eij]; exact goes _ _ (by omega) (by omega)⟩,goes _ _ (by omega) (by omega)⟩
 ·obtain ⟨i,j,hij,hj,eij⟩:=pigeon (M:=M) (f:=fun i=>f (n+i)) fun i hi=>low (n+i) (by omega)
  exact ⟨f (n+i),by rw [hM]; exact low _ (by omega),⟨f (n+i+1),step _ (by omega),by show Goes _ _ (f (n+i)); rw [show f (n+i)=f (n+j) from eij]; exact goes _ _ (by omega) (by omega)⟩,goes _ _ (by omega) (by omega)⟩
 ·intro hd
  unfold Diag at hd
  rw [hf] at hd
  dsimp only at hd
  rw [pair_div (ny n (by omega)),pair_mod (ny n (by omega))] at hd
  have e1:=digs_numW hK _ (syms_take (syms_drop sx n) (2*R))
  have e2:=digs_numW hK _ (syms_take (syms_drop sy n) (2*R))
  rw [show ((x.drop n).take (2*R)).length=2*R by simp; omega] at e1
  rw [show ((y.drop n).take (2*R)).length=2*R by simp; omega] at e2
  have e3:(x.drop n).take (2*R)=(y.drop n).take (2*R):=by rw [← e1,← e2]; exact congrArg (digs K (2*R)) hd
  have e4:((x.drop n).take (2*R)).getD 0 0=((y.drop n).take (2*R)).getD 0 0:=by rw [e3]
  rw [sub_get (by omega),sub_get (by omega),Nat.add_zero] at e4
  exact hne e4
end Go.Proofs.YtindfaehjoileaaGreatDoor
