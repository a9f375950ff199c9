/-
  Texts that the proof leans on.
-/
import Derived.Test.YtkaoebokbfcmhaaGreatDoorMWl2
import Derived.Laws.BytesArg
import Derived.Maps.OwnSet
import Derived.StringKeys
namespace Go.Proofs.YtkaoebokbfcmhaaGreatDoor
open Go.RowKit
set_option maxRecDepth 100000
set_option maxHeartbeats 8000000
theorem set_sameC {q:List Nat} {t:Nat}:q.set t (q.getD t 0+0)=q:=by
 refine List.ext_getElem (by simp) fun i h1 h2=>?_
 by_cases c:t=i
 ·subst c; rw [List.getElem_set_self]; simp [List.getD,h2]
 ·rw [List.getElem_set_ne c]
theorem stepN_zero {K N:Nat} {T:List Int} {at_:List Nat} {y:Int} {j:Nat} (h:at_.getD (j%N) 0=0):stepN K N T at_ y (j+1)=stepN K N T at_ y j:=by
 show (if T.getD j 0=y then _ else _)=_
 split
 ·rw [h]; exact set_sameC
 ·rfl
theorem stepN_no {K N:Nat} {T:List Int} {at_:List Nat} {y:Int} {j:Nat} (h:¬ T.getD j 0=y):stepN K N T at_ y (j+1)=stepN K N T at_ y j:=by
 show (if T.getD j 0=y then _ else _)=_
 rw [if_neg h]
theorem stepN_yes {K N:Nat} {T:List Int} {at_:List Nat} {y:Int} {j:Nat} (h:T.getD j 0=y):stepN K N T at_ y (j+1)=(stepN K N T at_ y j).set (j/K) ((stepN K N T at_ y j).getD (j/K) 0+at_.getD (j%N) 0):=by
 show (if T.getD j 0=y then _ else _)=_
 rw [if_pos h]
theorem num_zero {w:World} {a:Option Addr} {m c n:Nat} (h:NumAt w (.slice a m c) n):m=0↔n=0:=by
 obtain ⟨l,h1,h2,h3,h4⟩:=h
 obtain ⟨a',c',e,_⟩:=h1
 injection e with _ e
 rw [limbs_len] at e
 constructor
 ·intro hm
  have:l=[]:=List.eq_nil_of_length_eq_zero (by omega)
  subst this
  exact h4.symm
 ·intro hn
  subst hn
  have:=limbs_le h3 (k:=0) (by rw [h4]; decide)
  omega
theorem count_ways {Fn:Nat} (K R N:Nat) (va:Option Addr) (vn vc:Nat) (T:List Int) (ev:Value) (evs:List Value) (es:List Nat) (ws:List Int) (b c:Value) (w:World) (h:IntsAt w (.slice va vn vc) T) (hev:ValsAt w ev evs) (hes:NumsIn w evs es) (hN:es.length=N) (hT:T.length=N*K) (h1:1≤N) (hk1:1≤K) (hk4:K≤4) (hl:T.length≤256) (hws:ws.length≤256) (hle:AllLe es 1)
 (eg:∀ args w,(callFunc Fn args).run Tryz.prog w=.ok (.enter Fn args) w)
 (hF:∀ W,Below w.heap.size w W→∀ p j:Nat,p<ws.length→j<T.length→Calls Tryz.prog Fn #[.int .i64 p,.int .i64 j,b,c] W (RetB (decide (T.getD j 0=ws.getD p 0)) W)) :
 Calls Tryz.prog 94 #[.agg #[.int .i64 K,.int .i64 R,.slice va vn vc],.int .i64 ws.length,ev,.func (.func Fn) #[] #[b,c]] w (Ret1 (fun x w'=>∃ xs,ValsAt w' x xs∧NumsIn w' xs (wayE K N T es ws)) w):=by
 have b0:=belowAlloc w (.cells #[.int .i64 K,.int .i64 R,.slice va vn vc] 24)
 have q:Box3 (w.alloc (.cells #[.int .i64 K,.int .i64 R,.slice va vn vc] 24)) w.heap.size (.int .i64 K) (.int .i64 R) (.slice va vn vc):=by simp [Box3,go_sem]
 have hN256:N≤256:=by
  have:=Nat.le_mul_of_pos_right N (show 0<K by omega)
  omega
 obtain ⟨ea,ec,rfl⟩:∃ a c,ev=.slice a evs.length c:=by
  obtain ⟨a,c,e,-⟩:=hev
  exact ⟨a,c,e⟩
 have hevl:=hes.len
 rw [hN] at hevl
 rw [hevl] at hev ⊢
 obtain ⟨L,hL⟩:∃ L,ws.length=L:=⟨_,rfl⟩
 rw [hL] at hws hF ⊢
 obtain ⟨w0,hw0⟩:∃ W:World,w.alloc (.cells #[.int .i64 K,.int .i64 R,.slice va vn vc] 24)=W:=⟨_,rfl⟩
 rw [hw0] at b0 q
 replace h:=Hd (h.below b0)
 replace hev:=Hd (hev.below b0)
 replace hes:=Hd (hes.below b0)
 have hF0:∀ W,Below w0.heap.size w0 W→∀ p j:Nat,p<L→j<T.length→Calls Tryz.prog Fn #[.int .i64 p,.int .i64 j,b,c] W (RetB (decide (T.getD j 0=ws.getD p 0)) W):=fun W hb=>hF W (Below.step b0 hb)
 replace hF0:=Hd hF0
 replace hL:=Hd hL
 replace hT:=Hd hT
 replace hN:=Hd hN
 replace hle:=Hd hle
 replace hw0:=Hd hw0
 obtain ⟨g,hg⟩:∃ g,w.heap.size=g:=⟨_,rfl⟩
 clear hF hevl
 go_enter Tryz.func94,Tryz.ntmps94
 go_upto_region 1 with fail
 rw [hw0.out]
 rw [hg] at q
 replace hg:=Hd hg
 go_wp2_with fail
 go_loopw [10,11] (fun av pv wr=>∃ (p:Nat) (pi:Int) (aw:Value) (avs:List Value),aw=av∧pv=.int .i64 pi∧pi=(p:Int)-1∧p≤L∧ValsAt wr aw avs∧NumsIn wr avs (wayE K N T es (ws.drop p))∧Below w0.heap.size w0 wr) (fun _ pv _=>(intOf pv+1).toNat)
 case atStart =>
  refine ⟨L,_,_,_,rfl,rfl,by omega,Nat.le_refl _,hev.out,?_,Below.refl _ _⟩
  rw [← hL.out,List.drop_length]; exact hes.out
 case round =>
  obtain ⟨p,pi,aw,avs,rfl,rfl,hpi,hp,hAv,hAn,hB⟩:=hrel
  obtain ⟨wo,rfl⟩:∃ wo:World,wo=wr:=⟨_,rfl⟩
  obtain ⟨aa,ac,rfl⟩:∃ a c,aw=.slice a avs.length c:=by
   obtain ⟨a,c,e,-⟩:=hAv
   exact ⟨a,c,e⟩
  have haN:avs.length=N:=by
   have:=hAn.len
   rw [this,wayE_len hN.out]
  by_cases hp0:p=0
  ·subst hp0
   obtain rfl:pi=-1:=by omega
   clear hpi
   have dp:decide ((-1:Int)≥0)=false:=by decide
   have hfin:∃ xs,ValsAt wo (.slice aa avs.length ac) xs∧NumsIn wo xs (wayE K N T es ws):=⟨avs,hAv,hAn⟩
   have bE:=Below.step b0 hB
   replace hfin:=Hd hfin
   replace hAv:=Hd hAv
   replace hAn:=Hd hAn
   go_wp2
   go_ret
   exact ⟨_,rfl,bE,hfin.out⟩
  ·obtain ⟨p',rfl⟩:∃ p',p=p'+1:=⟨p-1,by omega⟩
   obtain rfl:pi=(p':Int):=by omega
   clear hpi
   have dp:decide ((p':Int)≥0)=true:=decide_eq_true (by omega)
   have hdrop:ws.drop p'=ws.getD p' 0::ws.drop (p'+1):=by
    have hlt:p'<ws.length:=by rw [hL.out]; omega
    rw [List.drop_eq_getElem_cons hlt]; simp [List.getD,hlt]
   have hnext:=stepN_wayE hk1 (K:=K) (N:=N) (T:=T) (y:=ws.getD p' 0) (ws:=ws.drop (p'+1)) (ends:=es)
   rw [← hdrop] at hnext
   have hbnd:=way_le (N:=N) (T:=T) hk1 hle.out (ws.drop (p'+1))
   have hbl:(ws.drop (p'+1)).length≤256:=by rw [List.length_drop,hL.out]; omega
   obtain ⟨y,hy⟩:∃ y,ws.getD p' 0=y:=⟨_,rfl⟩
   obtain ⟨A,hA⟩:∃ A,wayE K N T es (ws.drop (p'+1))=A:=⟨_,rfl⟩
   rw [hA] at hAn hnext hbnd
   rw [hy] at hnext
   have hAlen:A.length=N:=by rw [← hAn.len]; exact haN
   have hbA:AllLe A (4 ^ eW):=fun i=>Nat.le_trans (hbnd i) (four_le hk4 (by unfold eW; omega))
   have hbS:∀ j,j≤N*K→AllLe (stepN K N T A y j) (4 ^ (eW+1)):=fun j hj i=>Nat.le_trans (step_le hk1 hbA hj i) (by rw [Nat.pow_succ,Nat.mul_comm]; exact Nat.mul_le_mul_left _ hk4)
   have hFp:=fun (W:World) (hb:Below w0.heap.size w0 W) (j:Nat) (hj:j<T.length)=>hF0.out W hb p' j (by omega) hj
   rw [hy] at hFp
   obtain ⟨⟨z0,z1,z2⟩,-,-,-⟩:=q.below hB
   have qo:=q.below hB
   replace hFp:=Hd hFp
   replace hnext:=Hd hnext
   replace hbA:=Hd hbA
   replace hbS:=Hd hbS
   replace hA:=Hd hA
   replace hy:=Hd hy
   replace hdrop:=Hd hdrop
   replace hAv:=Hd hAv
   replace hAn:=Hd hAn
   replace hAlen:=Hd hAlen
   clear hbnd hp0
   obtain ⟨tl,htl⟩:∃ t,T.length=t:=⟨_,rfl⟩
   have vt:vn=tl:=by
    obtain ⟨a',c',e,_⟩:=h.out
    injection e with _ e
    rw [e,htl]
   subst vt
   have hvn:vn≤256:=by omega
   replace htl:=Hd htl
   replace haN:=Hd haN
   go_wp2_with (at_make; refine wpl_makeV oneNats rfl _ _ rfl (N:Int) rfl rfl (by omega) (by omega) ?_)
   intro hv w1 ho1 g1
   have b1:Below wo.heap.size wo w1:=(Below.refl _ _).grown g1 (Nat.le_refl _) (by intro k hk; cases hk)
   obtain ⟨ha,hn,hc,rfl⟩:=ho1.shape
   replace ho1:OwnV 35 wo.heap.size w1 (.slice ha hn hc) (List.replicate N (.slice none 0 0)):=by simpa using ho1
   replace ho1:=Hd ho1
   clear z0 z1 z2 g1
   obtain ⟨⟨z0,z1,z2⟩,-,-,-⟩:=qo.below b1
   go_wp2_with fail
   clear z0 z1 z2
   go_loopw [29] (fun jv wr=>∃ (j:Nat) (hvs:List Value),jv=.int .i64 j∧j≤vn∧OwnV 35 wo.heap.size wr (.slice ha hn hc) hvs∧NumsIn wr hvs (stepN K N T A y j)∧Below wo.heap.size wo wr) (fun jv _=>vn-(intOf jv).toNat)
   case atStart=>exact ⟨0,_,rfl,Nat.zero_le _,ho1.out,NumsIn.zeros _ _,b1⟩
   case round =>
    clear ho1 b1
    obtain ⟨j,hvs,rfl,hj,hO,hS,hBj⟩:=hrel
    obtain ⟨wi,rfl⟩:∃ wo:World,wo=wr:=⟨_,rfl⟩
    by_cases hjl:j<vn
    ·have dj:decide ((j:Int)<(vn:Int))=true:=decide_eq_true (by omega)
     have hBo:=hB.trans (hBj.mono hB.size)
     have hAi:=hAv.out.below hBj
     have hAni:=hAn.out.below hBj
     have hm:=Nat.mod_lt j (show N>0 by omega)
     have hm':j%N<avs.length:=by rw [haN.out]; exact hm
     have iA:=fun w'=>hAi.idx oneNats (j%N) hm' w'
     have cA:=hAi.cell (j%N) hm'
     have nA:=hAni.each (j%N) (by rw [hAlen.out]; exact hm)
     rw [getD_at hm'] at nA
     obtain ⟨mv,hmv⟩:∃ v,avs[j%N]'hm'=v:=⟨_,rfl⟩
     rw [hmv] at cA nA
     obtain ⟨ma,mn,mc,rfl⟩:=nA.shape
     obtain ⟨xa,hxa⟩:∃ a,valAt (.slice aa avs.length ac) (j%N)=a:=⟨_,rfl⟩
     rw [hxa] at iA cA
     have hmod:(j:Int).tmod (N:Int)=((j%N:Nat):Int):=by rw [Int.tmod_eq_emod_of_nonneg (Int.natCast_nonneg _)]; exact (Int.natCast_emod _ N).symm
     have hN0:((N:Int)==0)=false:=by rw [beq_eq_false_iff_ne]; omega
     have hN2:¬ (N:Int)=0:=by omega
     have hN3:¬ N=0:=by omega
     have kz:=fun q=>stepN_zero (K:=K) (N:=N) (T:=T) (at_:=A) (y:=y) (j:=j) q
     have kn:=fun q=>stepN_no (K:=K) (N:=N) (T:=T) (at_:=A) (y:=y) (j:=j) q
     have ky:=fun q=>stepN_yes (K:=K) (N:=N) (T:=T) (at_:=A) (y:=y) (j:=j) q
     have hfc:=hFp.out wi hBo j (by rw [htl.out]; exact hjl)
     have hjK:j/K<N:=Nat.div_lt_of_lt_mul (by have:=hT.out; rw [htl.out,Nat.mul_comm] at this; omega)
     have hbj:=hbS.out j (by have:=hT.out; rw [htl.out] at this; omega) (j/K)
     have hbm:=hbA.out (j%N)
     obtain ⟨sn,hsn⟩:∃ s,stepN K N T A y (j+1)=s:=⟨_,rfl⟩
     obtain ⟨s0,hs0⟩:∃ s,stepN K N T A y j=s:=⟨_,rfl⟩
     rw [hsn] at kz kn ky
     rw [hs0] at hS kz kn ky hbj
     have hs0l:s0.length=N:=by rw [← hs0,stepN_len]
     obtain ⟨am,ham⟩:∃ x,A.getD (j%N) 0=x:=⟨_,rfl⟩
     rw [ham] at nA kz ky hbm
     obtain ⟨yes,hyes⟩:∃ x,decide (T.getD j 0=y)=x:=⟨_,rfl⟩
     rw [hyes] at hfc
     replace hsn:=Hd hsn
     replace hs0:=Hd hs0
     replace ham:=Hd ham
     replace hyes:=Hd hyes
     replace hmv:=Hd hmv
     replace hxa:=Hd hxa
     replace hAi:=Hd hAi
     replace hAni:=Hd hAni
     replace kz:=Hd kz
     replace kn:=Hd kn
     replace ky:=Hd ky
     replace hs0l:=Hd hs0l
     replace hbj:=Hd hbj
     replace hbm:=Hd hbm
     replace nA:=Hd nA
     replace hO:=Hd hO
     replace hS:=Hd hS
     replace hfc:=Hd hfc
     generalize hP:j%N=P at *
     by_cases hmz:mn=0
     ·have e:=kz.out ((num_zero nA.out).1 hmz)
      subst hmz
      replace e:=Hd e
      go_wp2
      go_roundw
      case measure=>simp [intOf]; omega
      case rel=>exact ⟨j+1,hvs,by go_num,by omega,hO.out,by rw [hsn.out,e.out]; exact hS.out,hBj⟩
     ·have hmp:0<mn:=by omega
      have dm:decide ((mn:Int)>0)=true:=decide_eq_true (by omega)
      replace hmz:=Hd hmz
      go_wp2_with fail
      refine hfc.out.mono ?_
      rintro e w2 ⟨n2,rfl,rfl⟩
      have hO2:OwnV 35 wo.heap.size (wi.drewN n2) (.slice ha hn hc) hvs:=hO.out
      have hS2:=hS.out.below (below_drewN (Below.refl wi.heap.size wi) n2)
      have hB2:=below_drewN hBj n2
      clear hfc
      cases yes with
      | false =>
       have e:=kn.out (of_decide_eq_false hyes.out)
       replace e:=Hd e
       replace hO2:=Hd hO2
       replace hS2:=Hd hS2
       go_wp2
       go_roundw
       case measure=>simp [intOf]; omega
       case rel=>exact ⟨j+1,hvs,by go_num,by omega,hO2.out,by rw [hsn.out,e.out]; exact hS2.out,hB2⟩
      | true =>
       have e:=ky.out (of_decide_eq_true hyes.out)
       obtain ⟨W,hW⟩:∃ W:World,(wi.drewN n2).drew=W:=⟨_,rfl⟩
       have hOW:OwnV 35 wo.heap.size W (.slice ha hn hc) hvs:=by rw [← hW]; exact hO2
       have bWd:Below wi.heap.size wi W:=by rw [← hW]; exact (below_drewN (Below.refl wi.heap.size wi) n2).drew
       have hSW:=hS.out.below bWd
       have hBW:=hBj.trans (bWd.mono hBj.size)
       have nAW:=nA.out.below bWd
       have hvl:hvs.length=N:=by rw [hSW.len,hs0l.out]
       obtain ⟨u,hu⟩:∃ u,j/K=u:=⟨_,rfl⟩
       rw [hu] at hjK hbj e
       have hul:u<hvs.length:=by rw [hvl]; exact hjK
       have iU:=fun w'=>hOW.at.idx oneNats u hul w'
       have cU:=hOW.at.cell u hul
       have fU:=hOW.frz u hul
       have nU:=hSW.each u (by rw [hs0l.out]; exact hjK)
       rw [getD_at hul] at nU
       obtain ⟨uv,huv⟩:∃ v,hvs[u]'hul=v:=⟨_,rfl⟩
       rw [huv] at cU nU
       obtain ⟨ua,un,uc,rfl⟩:=nU.shape
       obtain ⟨xu,hxu⟩:∃ a,valAt (.slice ha hn hc) u=a:=⟨_,rfl⟩
       rw [hxu] at iU cU fU
       have hq:(j:Int)/(K:Int)=(u:Int):=by rw [← hu]; rfl
       have hq2:(j:Int).tdiv (K:Int)=(u:Int):=by rw [Int.tdiv_eq_ediv_of_nonneg (Int.natCast_nonneg _),hq]
       have hwq:IntKind.i64.wrap (u:Int)=(u:Int):=wrapK (by omega) (by omega)
       have hK0:((K:Int)==0)=false:=by rw [beq_eq_false_iff_ne]; omega
       have hK2:¬ (K:Int)=0:=by omega
       have hK3:¬ K=0:=by omega
       have hq0:=qo.below hBW
       have hcU0:xu.block<W.heap.size:=World.block_lt_of_cell? _ _ cU
       have hS0:∀ W',Below W.heap.size W W'→W'.cell? ⟨g,0,none⟩=some (.int .i64 K)∧W'.cell? xu=some (.slice ua un uc):=fun W' b=>by
        obtain ⟨⟨k0,_,_⟩,-,-,-⟩:=hq0.below b
        exact ⟨k0,(b.cell hcU0).trans cU⟩
       have hSS:=hS0 _ (Below.refl _ _)
       have hadd:=nat_addN (.slice ua un uc) (.slice ma mn mc) _ _ W nU nAW (Nat.le_trans hbj.out (Nat.pow_le_pow_right (by decide) (by unfold eW eB; omega))) (Nat.le_trans hbm.out (Nat.pow_le_pow_right (by decide) (by unfold eW eB; omega)))
       replace e:=Hd e
       replace hu:=Hd hu
       replace huv:=Hd huv
       replace hxu:=Hd hxu
       replace hOW:=Hd hOW
       replace hSW:=Hd hSW
       replace hadd:=Hd hadd
       replace hS0:=Hd hS0
       replace nU:=Hd nU
       replace nAW:=Hd nAW
       clear hO2 hS2 hB2 cU hq0
       go_upto_region 12 with fail
       refine wp_region_plan (fun W'=>W'.cell? ⟨g,0,none⟩=some (.int .i64 K)∧W'.cell? xu=some (.slice ua un uc)) 15 [(0,true),(1,true),(2,true),(3,true),(4,true),(5,true),(6,true),(7,true),(8,true),(9,true),(10,true),(11,true),(12,true),(13,false),(14,true)] (by kernel_rfl) (by kernel_rfl) ?_
       rw [hW]
       clear hW
       refine pqY 47 hSS ?_
       refine pqY 48 hSS ?_
       refine pqY 49 hSS ?_
       refine pqY 50 hSS ?_
       refine pqY 51 hSS ?_
       refine pqY 52 hSS ?_
       refine pqY 53 hSS ?_
       refine pqY 54 hSS ?_
       refine pqY 55 hSS ?_
       refine pqY 56 hSS ?_
       refine pqY 57 hSS ?_
       refine pqY 58 hSS ?_
       refine pqY 59 hSS ?_
       refine headC rfl (fun KK hK=>?_)
       go_simp
       refine hadd.out.mono ?_
       rintro e2 W2 ⟨rv,rfl,b3,hr⟩
       obtain ⟨ra,rn,rc,rfl⟩:=hr.num.shape
       have hSS2:=hS0.out _ b3
       refine hK _ _ hSS2 ?_
       clear hK KK
       refine pqY 61 hSS2 ?_
       refine head0 ?_
       simp only [List.drop_succ_cons,List.drop_zero]
       have hO3:=hOW.out.below b3
       have hS3:=hSW.out.below b3
       have fU3:=hO3.frz u hul
       have hO4:=hO3.set u hul (.slice ra rn rc)
       have cU3:=hSS2.2
       have hS4:=(hS3.set cU3 (by intro x h; cases h) (.slice ra rn rc)).upd u (hr.num.set cU3 (by intro x h; cases h) (.slice ra rn rc))
       have hB4:=(hBW.trans (b3.mono hBW.size)).setCell (hO3.blkB u hul).2 (.slice ra rn rc)
       rw [hxu.out] at fU3 hO4 hB4
       rw [← e.out] at hS4
       replace hO3:=Hd hO3
       replace hO4:=Hd hO4
       replace hS3:=Hd hS3
       replace hS4:=Hd hS4
       replace hB4:=Hd hB4
       replace hr:=Hd hr
       go_wp2
       refine NoPanic.normal ?_
       go_wp2
       go_roundw
       case measure=>simp [intOf]; omega
       case rel=>exact ⟨j+1,_,by go_num,by omega,hO4.out,by rw [hsn.out]; exact hS4.out,hB4.out⟩
    ·have dj:decide ((j:Int)<(vn:Int))=false:=decide_eq_false (by omega)
     obtain rfl:j=vn:=by omega
     have hS5:NumsIn wi hvs (wayE K N T es (ws.drop p')):=by
      have:=hS
      rw [← htl.out,hT.out,hnext.out] at this
      exact this
     have hOat:=hO.at
     have hBo:=hB.trans (hBj.mono hB.size)
     replace hO:=Hd hO
     replace hS:=Hd hS
     replace hS5:=Hd hS5
     replace hOat:=Hd hOat
     go_wp2
     go_roundw
     case measure=>simp [intOf]
     case rel=>exact ⟨p',_,_,hvs,rfl,rfl,rfl,by omega,hOat.out,hS5.out,hBo⟩
theorem word_check1 (x k:Int) (b:Addr) (w:World) (hb:w.cell? b=some (.int .i64 k)) :
 Calls Tryz.prog 113 #[.int .i64 x,.pointer (some b)] w fun e w'=>e=.returned (.bool (odd1 k x))∧w=w':=by
 by_cases h:x<0
 ·have e:odd1 k x=true:=by simp [odd1,h]
  rw [e]
  go_enter Tryz.func113,Tryz.ntmps113
  go_wp2
  go_ret
  exact ⟨rfl,rfl⟩
 ·have e:odd1 k x=decide (k≤x):=by simp [odd1,h]
  rw [e]
  go_enter Tryz.func113,Tryz.ntmps113
  go_wp2
  go_ret
  exact ⟨ret_bool (by simp),rfl⟩
theorem eg_word_check1 (args:Array Value) (w:World):(callFunc 113 args).run Tryz.prog w=.ok (.enter 113 args) w:=by kernel_rfl
theorem word_alphabet (K:Nat) (w:World) (h1:1≤K) (h4:K≤4) :
 Calls Tryz.prog 112 #[.int .i64 K] w fun e w'=>e=.returned (.bool true)∧w=w':=by
 go_enter Tryz.func112,Tryz.ntmps112
 go_wp2
 go_ret
 exact ⟨ret_bool (by simp; omega),rfl⟩
theorem word_check (K:Nat) (v:Value) (xs:List Int) (w:World) (h:IntsAt w v xs) (h1:1≤K) (h4:K≤4) (hs:Syms K xs) (hl:xs.length≤4096) :
 Calls Tryz.prog 61 #[.int .i64 K,v] w (Ret1 (fun x _=>x=.nilIface) w):=by
 have hb0:=belowAlloc w (.cells #[.int .i64 K] 3)
 have l1:=h.len
 obtain ⟨a1,n1,c1,rfl⟩:=h.shape
 replace h:=Hd (h.below hb0)
 have hodd:=Hd hs.odd
 replace hs:=Hd hs
 go_enter Tryz.func61,Tryz.ntmps61
 go_wp2_with fail
 refine (word_alphabet K _ h1 h4).mono ?_
 rintro e w' ⟨rfl,rfl⟩
 go_wp2_with fail
 refine (indexFunc_any _ _ 113 xs (odd1 K) _ h.out eg_word_check1 (fun x _=>word_check1 x K _ _ (by simp))).mono ?_
 rintro e w' ⟨rfl,rfl⟩
 rw [hodd.out]
 go_wp2
 go_ret
 exact ⟨_,rfl,hb0,rfl⟩
theorem set_here (u:List Int) (a y:Int) (r:List Int):(u++[a]++r).set u.length y=u++[y]++r:=by
 rw [List.append_assoc,List.set_append_right _ _ (by omega)]; simp
theorem word_nextS (K:Nat) (v:Value) (D:List Int) (w:World) (h:IntsAt w v D) (h1:1≤K) (h4:K≤4) (hs:Syms K D) (hl:D.length≤4000) :
 Calls Tryz.prog 22 #[.int .i64 K,v] w (Ret2 (fun o y w'=>y=.nilIface∧∃ zs,OwnI w.heap.size w' o zs ∧
  ((∃ u a j,D=u++[a]++List.replicate j ((K:Int)-1)∧a<(K:Int)-1∧zs=u++[a+1]++List.replicate j 0)∨(D=List.replicate D.length ((K:Int)-1)∧zs=List.replicate (D.length+1) 0))) w):=by
 have l1:=h.len
 have lm:=h.len_le
 replace h:=Hd h
 replace hs:=Hd hs
 go_enter Tryz.func22,Tryz.ntmps22
 go_wp2_with fail
 refine (word_check K v D w h.out h1 h4 hs.out (by omega)).mono ?_
 rintro e w1 ⟨_,rfl,b1,rfl⟩
 go_wp2_with fail
 refine (clone_any v D _ (h.out.below b1) (by omega)).mono ?_
 rintro e w2 ⟨ov,rfl,b2,ho⟩
 have lo:=ho.at.len
 replace ho:=Hd ho
 have hb2:=Below.step b1 b2
 go_wp2
 go_loopw [8] (fun i wr=>∃ m:Nat,m≤D.length∧i=.int .i64 ((m:Int)-1)∧D.drop m=List.replicate (D.length-m) ((K:Int)-1)∧OwnI w1.heap.size wr ov (D.take m++List.replicate (D.length-m) 0)∧Below w1.heap.size w1 wr) (fun i _=>(intOf i+1).toNat)
 case atStart=>exact ⟨D.length,by omega,rfl,by simp,by simpa using ho.out,b2⟩
 case round =>
  obtain ⟨m,hm,rfl,hd,hO,hbO⟩:=hrel
  obtain ⟨wo,rfl⟩:∃ wo:World,wo=wr:=⟨_,rfl⟩
  cases m with
  | zero =>
   rw [show ((0:Nat):Int)-1=-1 from rfl]
   rw [List.drop_zero,Nat.sub_zero] at hd
   replace hd:=Hd hd
   replace hO:=Hd hO
   obtain ⟨v3,w3,hmk,ho3,b3⟩:=run_makeI ((D.length:Int)+1) (D.length+1) wo (by omega) (by omega)
   have hne:((D.length:Int)==4096)=false:=by rw [beq_eq_false_iff_ne]; omega
   go_wp2
   go_ret2
   exact ⟨_,_,rfl,Below.step b1 (hbO.trans (b3.mono hbO.size)),rfl,_,ho3.mono (Nat.le_trans b1.size hbO.size),.inr ⟨hd.out,rfl⟩⟩
  | succ m =>
   rw [show ((m+1:Nat):Int)-1=(m:Int) by omega]
   have hml:m<D.length:=by omega
   have htk:=take_snoc D m hml
   have hol:m<(D.take (m+1)++List.replicate (D.length-(m+1)) (0:Int)).length:=by simp; omega
   have i1:=hO.at.idx m hol
   have c1:=hO.at.cell m hol
   have f1:=hO.frz m hol
   have hx:=hs.out D[m] (by simp)
   have hge:(D.take (m+1)++List.replicate (D.length-(m+1)) (0:Int))[m]=D[m]:=by
    rw [List.getElem_append_left (by simp; omega),List.getElem_take]
   rw [hge] at c1
   have hul:(D.take m).length=m:=by simp; omega
   have hset:∀ y,(D.take (m+1)++List.replicate (D.length-(m+1)) (0:Int)).set m y=D.take m++[y]++List.replicate (D.length-(m+1)) 0:=by
    intro y
    have:=set_here (D.take m) D[m] y (List.replicate (D.length-(m+1)) 0)
    rw [htk,← this,hul]
   have hDu:D=D.take m++[D[m]]++List.replicate (D.length-(m+1)) ((K:Int)-1):=by
    rw [← hd,← htk,List.take_append_drop]
   have hd':D.drop m=D[m]::List.replicate (D.length-(m+1)) ((K:Int)-1):=by
    rw [← hd]; exact List.drop_eq_getElem_cons hml
   generalize D[m]=x at c1 hx hDu hd'
   have hO1:=hO.set m hol (x+1)
   have hb1:=hO.setBelow hbO m hol (.int .i64 (x+1))
   have hO0:=hO.set m hol 0
   have hb0:=hO.setBelow hbO m hol (.int .i64 0)
   rw [hset] at hO1 hO0
   replace hset:=Hd hset
   replace hO:=Hd hO
   replace hO1:=Hd hO1
   replace hO0:=Hd hO0
   replace hDu:=Hd hDu
   replace hd':=Hd hd'
   replace hd:=Hd hd
   clear htk hge hul
   by_cases hlt:x<(K:Int)-1
   ·go_wp2
    go_ret2
    exact ⟨_,_,rfl,Below.step b1 hb1,rfl,_,hO1.out.mono b1.size,.inl ⟨_,_,_,hDu.out,hlt,rfl⟩⟩
   ·obtain rfl:x=(K:Int)-1:=by omega
    go_wp2
    go_roundw
    case rel =>
     have e:D.length-m=D.length-(m+1)+1:=by omega
     refine ⟨m,by omega,by go_num,?_,?_,hb0⟩
     ·rw [hd'.out,e,List.replicate_succ]
     ·rw [e,List.replicate_succ]; simpa using hO0.out
    case measure=>simp [intOf]
end Go.Proofs.YtkaoebokbfcmhaaGreatDoor
namespace Go.Proofs.YtkaoebokbfcmhaaGreatDoor
open Go.RowKit
set_option maxRecDepth 100000
def sOverlap:ByteArray:=⟨#[111,118,101,114,108,97,112]⟩
def smallP (k R:Int) (T:List Int):PErr :=
 match checkP k R T with
 | some t=>some t
 | none=>if 256<T.length then fresh sRule 0 4 else none
theorem smallP_ok {K R:Nat} {T:List Int} (h:RuleOk K R T):smallP K R T=if 256<T.length then fresh sRule 0 4 else none:=by
 unfold smallP; rw [h.check]
theorem smallP_none {k R:Int} {T:List Int} (h:smallP k R T=none):checkP k R T=none∧T.length≤256:=by
 unfold smallP at h
 cases hc:checkP k R T with
 | some t=>rw [hc] at h; cases h
 | none =>
  rw [hc] at h
  refine ⟨rfl,?_⟩
  by_cases hl:256<T.length
  ·rw [if_pos hl] at h; simp [fresh] at h
  ·omega
theorem small_any (r:Nat→Addr) (k R:Int) (va:Option Addr) (vn vc:Nat) (T:List Int) (w:World) (hg:Glob r w) (h:IntsAt w (.slice va vn vc) T) :
 Calls Tryz.prog 9 #[.agg #[.int .i64 k,.int .i64 R,.slice va vn vc]] w (Ret1 (fun x w'=>ErrIs r w' (smallP k R T) x) w):=by
 have b0:=belowAlloc w (.cells #[.int .i64 k,.int .i64 R,.slice va vn vc] 24)
 have q:Box3 (w.alloc (.cells #[.int .i64 k,.int .i64 R,.slice va vn vc] 24)) w.heap.size (.int .i64 k) (.int .i64 R) (.slice va vn vc):=by simp [Box3,go_sem]
 have lT:=h.len
 replace hg:=Hd (hg.below b0)
 replace h:=Hd (h.below b0)
 obtain ⟨e0,hsm,he0⟩:∃ e0,(smallP k R T=match e0 with | some t=>some t | none=>if 256<T.length then fresh sRule 0 4 else none)∧checkP k R T=e0:=⟨_,rfl,rfl⟩
 replace he0:=Hd he0
 go_enter Tryz.func9,Tryz.ntmps9
 go_wp2_with fail
 refine (check_any r k R _ T _ hg.out h.out).mono ?_
 rintro e w1 ⟨x,rfl,b1,he⟩
 rw [he0.out] at he
 cases e0 with
 | some t =>
  simp only [] at hsm
  replace hsm:=Hd hsm
  obtain ⟨T1,a1,rfl⟩:=ErrIs.some_shape he
  replace he:=Hd he
  go_wp2
  go_ret
  exact ⟨_,rfl,Below.step b0 b1,by rw [hsm.out]; exact he.out⟩
 | none =>
  obtain rfl:=he.none_eq
  simp only [] at hsm
  clear he
  obtain ⟨⟨z0,z1,z2⟩,-,-,-⟩:=q.below b1
  by_cases hl:256<T.length
  ·rw [if_pos hl] at hsm
   replace hsm:=Hd hsm
   go_wp2_with fail
   refine (rule_wrong r _ _ _ (hg.out.below b1) (by decide) (by decide)).mono ?_
   rintro e w2 ⟨x,rfl,b2,he⟩
   go_wp2
   go_ret
   exact ⟨_,rfl,Below.step b0 (Below.step b1 b2),by rw [hsm.out]; exact he⟩
  ·rw [if_neg hl] at hsm
   replace hsm:=Hd hsm
   go_wp2
   go_ret
   exact ⟨_,rfl,Below.step b0 b1,by rw [hsm.out]; rfl⟩
theorem over_small (r:Nat→Addr) (k R:Int) (va:Option Addr) (vn vc:Nat) (T:List Int) (w:World) (hg:Glob r w) (h:IntsAt w (.slice va vn vc) T) :
 Calls Tryz.prog 90 #[.agg #[.int .i64 k,.int .i64 R,.slice va vn vc]] w (Ret1 (fun x w'=>ErrIs r w' (under sOverlap 0 (smallP k R T)) x) w):=by
 have b0:=belowAlloc w (.cells #[.int .i64 k,.int .i64 R,.slice va vn vc] 24)
 replace hg:=Hd (hg.below b0)
 replace h:=Hd (h.below b0)
 go_enter Tryz.func90,Tryz.ntmps90
 go_wp2_with fail
 refine (small_any r k R va vn vc T _ hg.out h.out).mono ?_
 rintro e w1 ⟨x,rfl,b1,he⟩
 go_wp2_with fail
 refine (under_any r _ 0 _ x _ he).mono ?_
 rintro e w2 ⟨y,rfl,b2,hy⟩
 go_wp2
 go_ret
 exact ⟨_,rfl,Below.step b0 (Below.step b1 b2),hy⟩
theorem over_nodes (K R:Nat) (va:Option Addr) (vn vc:Nat) (T:List Int) (w:World) (h:IntsAt w (.slice va vn vc) T) (h1:1≤K) (hT:T.length≤16384) :
 Calls Tryz.prog 41 #[.agg #[.int .i64 K,.int .i64 R,.slice va vn vc]] w fun e w'=>e=.returned (.int .i64 ((T.length/K:Nat):Int))∧w'=w.alloc (.cells #[.int .i64 K,.int .i64 R,.slice va vn vc] 24):=by
 have hK0:((K:Int)==0)=false:=by rw [beq_eq_false_iff_ne]; omega
 have hK1:¬ (K:Int)=0:=by omega
 have hK2:(0:Int)<K:=by omega
 have hK3:¬ K=0:=by omega
 have lT:=h.len
 have hq0:0≤(T.length:Int)/(K:Int):=Int.ediv_nonneg (by omega) (by omega)
 have hqc:(T.length:Int)/(K:Int)=((T.length/K:Nat):Int):=by simp
 have hqw:IntKind.i64.wrap ((T.length:Int)/(K:Int))=(T.length:Int)/(K:Int):=by
  have:T.length/K≤16384:=Nat.le_trans (Nat.div_le_self _ _) hT
  exact wrapK (by omega) (by rw [hqc]; omega)
 rw [← hqc]
 replace hqc:=Hd hqc
 go_enter Tryz.func41,Tryz.ntmps41
 go_wp2
 go_ret
 exact ⟨rfl,rfl⟩
set_option maxHeartbeats 8000000
theorem sum_take_succ {ns:List Nat} {i:Nat} (h:i<ns.length):(ns.take (i+1)).sum=(ns.take i).sum+ns.getD i 0:=by
 rw [show ns.take (i+1)=ns.take i++[ns.getD i 0] by rw [List.take_add_one]; simp [List.getD,h],List.sum_append]; simp
theorem sum_take_le {ns:List Nat} {M:Nat} (h:AllLe ns M):∀ i,(ns.take i).sum≤i*M
 | 0=>by simp
 | i+1=>by
  have ih:=sum_take_le h i
  by_cases c:i<ns.length
  ·rw [sum_take_succ c,Nat.add_mul]; have:=h i; omega
  ·rw [show ns.take (i+1)=ns.take i by rw [List.take_of_length_le (by omega),List.take_of_length_le (by omega)],Nat.add_mul]; omega
theorem nat_sumB (v:Value) (vs:List Value) (ns:List Nat) (w:World) (h:ValsAt w v vs) (hn:NumsIn w vs ns) (hle:AllLe ns (4 ^ eB)) (hb:∀ i,(ns.take i).sum≤4 ^ eB) (hl:ns.length≤1000000) :
 Calls Tryz.prog 60 #[v] w (Ret1 (fun x w'=>NumAt w' x ns.sum) w):=by
 obtain ⟨va,vc,rfl⟩:∃ a c,v=.slice a vs.length c:=by
  obtain ⟨a,c,e,-⟩:=h
  exact ⟨a,c,e⟩
 have hvl:=hn.len
 obtain ⟨N,hN⟩:∃ N,vs.length=N:=⟨_,rfl⟩
 replace hle:=Hd hle
 replace h:=Hd h
 replace hn:=Hd hn
 replace hb:=Hd hb
 rw [hN] at hvl ⊢
 have hN256:N≤1000000:=by omega
 have hall:(ns.take N).sum=ns.sum:=by rw [List.take_of_length_le (by omega)]
 replace hall:=Hd hall
 replace hvl:=Hd hvl
 replace hN:=Hd hN
 go_enter Tryz.func60,Tryz.ntmps60
 go_wp2
 go_loopw [3,8] (fun sv iv wr=>∃ (i:Nat) (sw:Value),sw=sv∧iv=.int .i64 i∧i≤N∧NumAt wr sw (ns.take i).sum∧Below w.heap.size w wr) (fun _ iv _=>N-(intOf iv).toNat)
 case atStart=>exact ⟨0,_,rfl,rfl,Nat.zero_le _,NumAt.nil _,Below.refl _ _⟩
 case round =>
  obtain ⟨i,sw,rfl,rfl,hi,hS,hB⟩:=hrel
  obtain ⟨wo,rfl⟩:∃ wo:World,wo=wr:=⟨_,rfl⟩
  obtain ⟨sa,sm,sc,rfl⟩:=hS.shape
  by_cases hil:i<N
  ·have di:decide ((i:Int)<(N:Int))=true:=decide_eq_true (by omega)
   have hv:=h.out.below hB
   have hnb:=hn.out.below hB
   have hk:i<vs.length:=by rw [hN.out]; exact hil
   have iX:=fun w'=>hv.idx oneNats i hk w'
   have cX:=hv.cell i hk
   have nX:=hnb.each i (by rw [← hvl.out]; exact hil)
   rw [getD_at hk] at nX
   obtain ⟨xv,hxv⟩:∃ x,vs[i]'hk=x:=⟨_,rfl⟩
   rw [hxv] at cX nX
   obtain ⟨xa,xn,xc,rfl⟩:=nX.shape
   obtain ⟨ad,had⟩:∃ a,valAt (.slice va N vc) i=a:=⟨_,rfl⟩
   rw [hN.out,had] at iX cX
   have hb1:=hb.out i
   have hle1:=hle.out i
   have hadd:=nat_addN (.slice sa sm sc) (.slice xa xn xc) _ _ wo hS nX hb1 hle1
   have hs:=sum_take_succ (ns:=ns) (i:=i) (by rw [← hvl.out]; exact hil)
   replace hadd:=Hd hadd
   replace hs:=Hd hs
   replace had:=Hd had
   replace hxv:=Hd hxv
   replace hv:=Hd hv
   replace hnb:=Hd hnb
   replace hS:=Hd hS
   replace nX:=Hd nX
   clear hb1 hle1
   go_wp2_with fail
   refine hadd.out.mono ?_
   rintro e w2 ⟨x,rfl,b2,hx⟩
   have hx2:=hx.num
   rw [← hs.out] at hx2
   replace hx2:=Hd hx2
   clear hx
   go_wp2
   go_roundw
   case measure=>simp [intOf]; omega
   case rel=>exact ⟨i+1,_,rfl,by go_num,by omega,hx2.out,Below.step hB b2⟩
  ·have di:decide ((i:Int)<(N:Int))=false:=decide_eq_false (by omega)
   obtain rfl:i=N:=by omega
   rw [hall.out] at hS
   replace hS:=Hd hS
   go_wp2
   go_ret
   exact ⟨_,rfl,hB,hS.out⟩
theorem nat_sum (v:Value) (vs:List Value) (ns:List Nat) (w:World) (h:ValsAt w v vs) (hn:NumsIn w vs ns) (hle:AllLe ns (4 ^ (eW+1))) (hl:ns.length≤256) :
 Calls Tryz.prog 60 #[v] w (Ret1 (fun x w'=>NumAt w' x ns.sum) w):=by
 have hM:∀ i,i≤256→i*4 ^ (eW+1)≤4 ^ eB:=fun i hi=>by
  have h1:i*4 ^ (eW+1)≤4 ^ 4*4 ^ (eW+1):=Nat.mul_le_mul_right _ (by omega)
  rw [← Nat.pow_add] at h1
  exact Nat.le_trans h1 (Nat.pow_le_pow_right (by decide) (by unfold eW eB; omega))
 refine nat_sumB v vs ns w h hn (fun i=>Nat.le_trans (hle i) (Nat.pow_le_pow_right (by decide) (by unfold eW eB; omega))) (fun i=>?_) (by omega)
 rcases Nat.le_total i 256 with hi | hi
 ·exact Nat.le_trans (sum_take_le hle i) (hM i hi)
 ·rw [List.take_of_length_le (by omega),← List.take_of_length_le (Nat.le_refl ns.length)]
  exact Nat.le_trans (sum_take_le hle _) (hM _ hl)
theorem count_fits (g h:Nat) (va:Option Addr) (vn vc:Nat) (T:List Int) (ua:Option Addr) (un uc:Nat) (ws:List Int) (w:World) (c2:w.cell? ⟨g,2,none⟩=some (.slice va vn vc)) (c0:w.cell? ⟨h,0,none⟩=some (.slice ua un uc)) (hT:IntsAt w (.slice va vn vc) T) (hW:IntsAt w (.slice ua un uc) ws) (p j:Nat) (hp:p<ws.length) (hj:j<T.length) :
 Calls Tryz.prog 95 #[.int .i64 p,.int .i64 j,.pointer (some ⟨g,0,none⟩),.pointer (some ⟨h,0,none⟩)] w (RetB (decide (T.getD j 0=ws.getD p 0)) w):=by
 have i1:=fun w'=>hT.idx j hj w'
 have x1:=hT.cellD j hj
 have i2:=fun w'=>hW.idx p hp w'
 have x2:=hW.cellD p hp
 obtain ⟨y1,h1⟩:∃ y,T.getD j 0=y:=⟨_,rfl⟩
 obtain ⟨y2,h2⟩:∃ y,ws.getD p 0=y:=⟨_,rfl⟩
 rw [h1] at x1 ⊢
 rw [h2] at x2 ⊢
 obtain ⟨a1,e1⟩:∃ a,valAt (.slice va vn vc) j=a:=⟨_,rfl⟩
 obtain ⟨a2,e2⟩:∃ a,valAt (.slice ua un uc) p=a:=⟨_,rfl⟩
 rw [e1] at i1 x1
 rw [e2] at i2 x2
 clear h1 h2 e1 e2 hT hW
 go_enter Tryz.func95,Tryz.ntmps95
 go_wp2
 go_quiet (fail)
 go_wp2
 go_ret
 exact ⟨_,rfl,rfl⟩
theorem eg_count_fits (args:Array Value) (w:World):(callFunc 95 args).run Tryz.prog w=.ok (.enter 95 args) w:=by kernel_rfl
theorem ones_set {N i:Nat} (h:i<N):(List.replicate i 1++List.replicate (N-i) 0).set i 1=List.replicate (i+1) 1++List.replicate (N-(i+1)) 0:=by
 obtain ⟨k,hk⟩:∃ k,N-i=k+1:=⟨N-i-1,by omega⟩
 rw [hk,show N-(i+1)=k by omega,List.set_append_right _ _ (by simp),List.length_replicate,Nat.sub_self,List.replicate_succ,List.set_cons_zero,List.replicate_succ',List.append_assoc]
 rfl
theorem ones_le (N:Nat):AllLe (List.replicate N 1) 1:=fun i=>by
 by_cases h:i<N<;>simp [List.getD,h]
theorem count_words (K R:Nat) (va:Option Addr) (vn vc:Nat) (T:List Int) (u:Value) (ws:List Int) (w:World) (h:IntsAt w (.slice va vn vc) T) (hu:IntsAt w u ws) (hr:RuleOk K R T) (hl:T.length≤256) (hws:ws.length≤256) :
 Calls Tryz.prog 45 #[.agg #[.int .i64 K,.int .i64 R,.slice va vn vc],u] w (Ret1 (fun x w'=>NumAt w' x (preN K R T ws)) w):=by
 obtain ⟨ua,uc,rfl⟩:∃ a c,u=.slice a ws.length c:=by
  obtain ⟨a,c,e,-⟩:=hu
  exact ⟨a,c,e⟩
 have b0:=Below.step (belowAlloc w (.cells #[.int .i64 K,.int .i64 R,.slice va vn vc] 24)) (belowAlloc _ (.cells #[.slice ua ws.length uc] 22))
 have q:Box3 ((w.alloc (.cells #[.int .i64 K,.int .i64 R,.slice va vn vc] 24)).alloc (.cells #[.slice ua ws.length uc] 22)) w.heap.size (.int .i64 K) (.int .i64 R) (.slice va vn vc):=by simp [Box3,go_sem]
 have q1:((w.alloc (.cells #[.int .i64 K,.int .i64 R,.slice va vn vc] 24)).alloc (.cells #[.slice ua ws.length uc] 22)).cell? ⟨w.heap.size+1,0,none⟩=some (.slice ua ws.length uc):=by simp [go_sem]
 have hk1:=hr.k1
 have hk4:=hr.k4
 obtain ⟨N,hN⟩:∃ N,pw K (2*R)=N:=⟨_,rfl⟩
 have hT:T.length=N*K:=by rw [hr.len,pw_succ,hN]
 have h1:1≤N:=by rw [← hN]; exact pw_pos (K:=K) (2*R) hk1
 have hN256:N≤256:=by
  have:=Nat.le_mul_of_pos_right N (show 0<K by omega)
  omega
 have hpre:preN K R T ws=(wayE K N T (List.replicate N 1) ws).sum:=by rw [wayE_one,preN_way hk1,hN]
 rw [hpre]
 have vt:vn=T.length:=by
  obtain ⟨a',c',e,_⟩:=h
  injection e with _ e
 subst vt
 obtain ⟨w0,hw0⟩:∃ W:World,(w.alloc (.cells #[.int .i64 K,.int .i64 R,.slice va T.length vc] 24)).alloc (.cells #[.slice ua ws.length uc] 22)=W:=⟨_,rfl⟩
 rw [hw0] at b0 q q1
 obtain ⟨g,hg⟩:∃ g,w.heap.size=g:=⟨_,rfl⟩
 rw [hg] at q q1
 have hdiv:T.length/K=N:=by rw [hT]; exact Nat.mul_div_cancel _ (by omega)
 replace h:=Hd (h.below b0)
 replace hu:=Hd (hu.below b0)
 have hq:((T.length:Nat):Int)/(K:Int)=(N:Int):=by rw [← hdiv]; rfl
 have hq2:((T.length:Nat):Int).tdiv (K:Int)=(N:Int):=by rw [Int.tdiv_eq_ediv_of_nonneg (Int.natCast_nonneg _),hq]
 have hK0:((K:Int)==0)=false:=by rw [beq_eq_false_iff_ne]; omega
 have hK2:¬ (K:Int)=0:=by omega
 have hK3:¬ K=0:=by omega
 replace hT:=Hd hT
 replace hdiv:=Hd hdiv
 replace hN:=Hd hN
 replace hpre:=Hd hpre
 replace hr:=Hd hr
 replace hw0:=Hd hw0
 obtain ⟨⟨z0,z1,z2⟩,-,-,-⟩:=id q
 go_enter Tryz.func45,Tryz.ntmps45
 go_upto_region 1 with fail
 rw [hw0.out]
 replace hg:=Hd hg
 go_wp2_with (at_make; refine wpl_makeV oneNats rfl _ _ rfl (N:Int) rfl rfl (by omega) (by omega) ?_)
 intro ev w1 ho1 g1'
 have b1:Below w0.heap.size w0 w1:=(Below.refl _ _).grown g1' (Nat.le_refl _) (by intro k hk; cases hk)
 obtain ⟨ea,en,ec,rfl⟩:=ho1.shape
 replace ho1:OwnV 35 w0.heap.size w1 (.slice ea en ec) (List.replicate N (.slice none 0 0)):=by simpa using ho1
 have een:en=N:=by
  obtain ⟨a',c',e,_⟩:=ho1.at
  injection e with _ e
  rw [e]; simp
 subst een
 replace ho1:=Hd ho1
 clear z0 z1 z2 g1'
 go_wp2_with fail
 go_loopw [16] (fun iv wr=>∃ (i:Nat) (evs:List Value),iv=.int .i64 i∧i≤en∧OwnV 35 w0.heap.size wr (.slice ea en ec) evs∧NumsIn wr evs (List.replicate i 1++List.replicate (en-i) 0)∧Below w0.heap.size w0 wr) (fun iv _=>en-(intOf iv).toNat)
 case atStart=>exact ⟨0,_,rfl,Nat.zero_le _,ho1.out,by simpa using NumsIn.zeros w1 en,b1⟩
 case round =>
  clear ho1 b1
  obtain ⟨i,evs,rfl,hi,hO,hS,hB⟩:=hrel
  obtain ⟨wo,rfl⟩:∃ wo:World,wo=wr:=⟨_,rfl⟩
  by_cases hil:i<en
  ·have di:decide ((i:Int)<(en:Int))=true:=decide_eq_true (by omega)
   have hel:evs.length=en:=by rw [hS.len]; simp; omega
   have hk:i<evs.length:=by rw [hel]; exact hil
   replace hO:=Hd hO
   replace hS:=Hd hS
   replace hel:=Hd hel
   go_wp2_with fail
   refine (nat_from 1 wo (by decide)).mono ?_
   rintro e w2 ⟨x,rfl,b2,hx⟩
   obtain ⟨xa,xn,xc,rfl⟩:=hx.num.shape
   have hO2:=hO.out.below b2
   have hS2:=hS.out.below b2
   have iX:=fun w'=>hO2.at.idx oneNats i hk w'
   have cX:=hO2.at.cell i hk
   have fX:=hO2.frz i hk
   have nX:=hS.out.each i (by simp; omega)
   rw [getD_at hk] at nX
   obtain ⟨ov,hov⟩:∃ o,evs[i]'hk=o:=⟨_,rfl⟩
   rw [hov] at cX nX
   obtain ⟨oa,on,oc,rfl⟩:=nX.shape
   have hO3:=hO2.set i hk (.slice xa xn xc)
   have hS3:=(hS2.set cX (by intro x h; cases h) (.slice xa xn xc)).upd i (hx.num.set cX (by intro x h; cases h) (.slice xa xn xc))
   have hB3:=(Below.step hB b2).setCell (hO2.blkB i hk).2 (.slice xa xn xc)
   rw [ones_set hil] at hS3
   obtain ⟨ad,had⟩:∃ a,valAt (.slice ea en ec) i=a:=⟨_,rfl⟩
   rw [had] at iX cX fX hO3 hS3 hB3
   replace hO2:=Hd hO2
   replace hS2:=Hd hS2
   replace hO3:=Hd hO3
   replace hS3:=Hd hS3
   replace hB3:=Hd hB3
   replace had:=Hd had
   replace hov:=Hd hov
   replace hx:=Hd hx
   replace nX:=Hd nX
   go_wp2
   go_roundw
   case measure=>simp [intOf]; omega
   case rel=>exact ⟨i+1,_,by go_num,by omega,hO3.out,hS3.out,hB3.out⟩
  ·have di:decide ((i:Int)<(en:Int))=false:=decide_eq_false (by omega)
   obtain rfl:i=en:=by omega
   rw [Nat.sub_self,List.replicate_zero,List.append_nil] at hS
   have hval:=hO.at
   have hTo:=h.out.below hB
   have hUo:=hu.out.below hB
   obtain ⟨⟨z0,z1,z2⟩,-,-,-⟩:=q.below hB
   have q1o:=cell_keep hB q1
   have hways:=count_ways (Fn:=95) K R i va T.length vc T (.slice ea i ec) evs (List.replicate i 1) ws (.pointer (some ⟨g,0,none⟩)) (.pointer (some ⟨g+1,0,none⟩)) wo hTo hval hS (by simp) hT.out h1 hk1 hk4 hl hws (ones_le i) eg_count_fits (fun W hb p j hp hj=>count_fits g (g+1) va T.length vc T ua ws.length uc ws W (cell_keep hb z2) (cell_keep hb q1o) (hTo.below hb) (hUo.below hb) p j hp hj)
   have hwl:=way_le (N:=i) (T:=T) hk1 (ones_le i) ws
   have hwlen:=wayE_len (K:=K) (T:=T) (ws:=ws) (e:=List.replicate i 1) (N:=i) (by simp)
   obtain ⟨A,hA⟩:∃ A,wayE K i T (List.replicate i 1) ws=A:=⟨_,rfl⟩
   rw [hA] at hways hwl hwlen
   replace hA:=Hd hA
   replace hways:=Hd hways
   replace hwl:=Hd hwl
   replace hO:=Hd hO
   replace hS:=Hd hS
   replace hval:=Hd hval
   replace hTo:=Hd hTo
   replace hUo:=Hd hUo
   go_wp2_with fail
   refine hways.out.mono ?_
   rintro e w3 ⟨x,rfl,b3,xs,hx1,hx2⟩
   have hsum:=nat_sum x xs A w3 hx1 hx2 (fun i=>Nat.le_trans (hwl.out i) (four_le hk4 (by unfold eW; omega))) (by rw [hwlen]; exact hN256)
   replace hsum:=Hd hsum
   replace hx1:=Hd hx1
   replace hx2:=Hd hx2
   clear z0 z1 z2 q1o
   go_wp2_with fail
   refine hsum.out.mono ?_
   rintro e w4 ⟨y,rfl,b4,hy⟩
   have bE:=Below.step b0 (Below.step hB (Below.step b3 b4))
   replace hy:=Hd hy
   go_wp2
   go_ret
   exact ⟨_,rfl,bE,by rw [hA.out]; exact hy.out⟩
def sCount:ByteArray:=⟨#[99,111,117,110,116]⟩
theorem count_wrong (r:Nat→Addr) (at_ n:Int) (w:World) (hg:Glob r w) (h1:1≤n) (h2:n≤11) :
 Calls Tryz.prog 48 #[.int .i64 at_,.int .i64 n] w (Ret1 (fun v w'=>ErrIs r w' (fresh sCount at_ n) v) w):=by
 go_enter Tryz.func48,Tryz.ntmps48
 go_wp2_with fail
 refine (new_any r _ at_ n w hg h1 h2).mono ?_
 rintro e w' ⟨v,rfl,hb,he⟩
 go_wp2
 go_ret
 exact ⟨_,rfl,hb,he⟩
theorem count_small (r:Nat→Addr) (k R:Int) (va:Option Addr) (vn vc:Nat) (T:List Int) (w:World) (hg:Glob r w) (h:IntsAt w (.slice va vn vc) T) :
 Calls Tryz.prog 43 #[.agg #[.int .i64 k,.int .i64 R,.slice va vn vc]] w (Ret1 (fun x w'=>ErrIs r w' (under sCount 0 (smallP k R T)) x) w):=by
 have b0:=belowAlloc w (.cells #[.int .i64 k,.int .i64 R,.slice va vn vc] 24)
 have q:Box3 (w.alloc (.cells #[.int .i64 k,.int .i64 R,.slice va vn vc] 24)) w.heap.size (.int .i64 k) (.int .i64 R) (.slice va vn vc):=by simp [Box3,go_sem]
 replace hg:=Hd (hg.below b0)
 replace h:=Hd (h.below b0)
 obtain ⟨⟨z0,z1,z2⟩,-,-,-⟩:=q
 go_enter Tryz.func43,Tryz.ntmps43
 go_wp2_with fail
 refine (small_any r k R va vn vc T _ hg.out h.out).mono ?_
 rintro e w1 ⟨x,rfl,b1,he⟩
 clear z0 z1 z2
 have hund:=under_any r sCount 0 (smallP k R T) _ w1 he
 replace he:=Hd he
 go_wp2_with fail
 refine hund.mono ?_
 rintro e w2 ⟨y,rfl,b2,hy⟩
 clear hund
 have bE:=Below.step b0 (Below.step b1 b2)
 replace hy:=Hd hy
 go_wp2
 go_ret
 exact ⟨_,rfl,bE,hy.out⟩
theorem count_odd (x k:Int) (b:Addr) (w:World) (hb:w.cell? b=some (.int .i64 k)) :
 Calls Tryz.prog 93 #[.int .i64 x,.pointer (some b)] w fun e w'=>e=.returned (.bool (odd1 k x))∧w=w':=by
 by_cases h:x<0
 ·have e:odd1 k x=true:=by simp [odd1,h]
  rw [e]
  go_enter Tryz.func93,Tryz.ntmps93
  go_wp2
  go_ret
  exact ⟨rfl,rfl⟩
 ·have e:odd1 k x=decide (k≤x):=by simp [odd1,h]
  rw [e]
  go_enter Tryz.func93,Tryz.ntmps93
  go_wp2
  go_ret
  exact ⟨ret_bool (by simp),rfl⟩
theorem eg_count_odd (args:Array Value) (w:World):(callFunc 93 args).run Tryz.prog w=.ok (.enter 93 args) w:=by kernel_rfl
def symP (k:Int) (ws:List Int) (m:Nat):PErr:=if m<ws.length then fresh sCount 1 4 else if 0≤idxOf (odd1 k) ws then fresh sCount (idxOf (odd1 k) ws) 2 else none
theorem count_symbols (r:Nat→Addr) (k:Int) (u:Value) (ws:List Int) (m:Nat) (w:World) (hg:Glob r w) (hu:IntsAt w u ws) :
 Calls Tryz.prog 44 #[.int .i64 k,u,.int .i64 m] w (Ret1 (fun x w'=>ErrIs r w' (symP k ws m) x) w):=by
 obtain ⟨ua,uc,rfl⟩:∃ a c,u=.slice a ws.length c:=by
  obtain ⟨a,c,e,-⟩:=hu
  exact ⟨a,c,e⟩
 have b0:=belowAlloc w (.cells #[.int .i64 k] 3)
 have z0:(w.alloc (.cells #[.int .i64 k] 3)).cell? ⟨w.heap.size,0,none⟩=some (.int .i64 k):=by simp [go_sem]
 have hi:=indexFunc_any (.slice ua ws.length uc) (.pointer (some ⟨w.heap.size,0,none⟩)) 93 ws (odd1 k) _ (hu.below b0) eg_count_odd (fun x _=>count_odd x k ⟨w.heap.size,0,none⟩ _ z0)
 have hlt:=idxOf_cases (odd1 k) ws
 have hSP:symP k ws m=if m<ws.length then fresh sCount 1 4 else if 0≤idxOf (odd1 k) ws then fresh sCount (idxOf (odd1 k) ws) 2 else none:=rfl
 rw [hSP]
 obtain ⟨x,hx⟩:∃ x,idxOf (odd1 k) ws=x:=⟨_,rfl⟩
 rw [hx] at hi ⊢
 replace hg:=Hd (hg.below b0)
 replace hi:=Hd hi
 replace hu:=Hd hu
 replace hx:=Hd hx
 obtain ⟨L,hL⟩:∃ L,ws.length=L:=⟨_,rfl⟩
 rw [hL] at hi ⊢
 replace hL:=Hd hL
 clear hSP hlt
 by_cases h1:m<L
 ·rw [if_pos h1]
  have d1:decide ((L:Int)>(m:Int))=true:=decide_eq_true (by omega)
  go_enter Tryz.func44,Tryz.ntmps44
  go_wp2_with fail
  refine (count_wrong r 1 4 _ hg.out (by decide) (by decide)).mono ?_
  rintro e w1 ⟨y,rfl,b1,hy⟩
  have bE:=Below.step b0 b1
  replace hy:=Hd hy
  go_wp2
  go_ret
  exact ⟨_,rfl,bE,hy.out⟩
 ·rw [if_neg h1]
  have d1:decide ((L:Int)>(m:Int))=false:=decide_eq_false (by omega)
  by_cases h2:0≤x
  ·rw [if_pos h2]
   have d2:decide (x≥0)=true:=decide_eq_true h2
   go_enter Tryz.func44,Tryz.ntmps44
   go_wp2_with fail
   refine hi.out.mono ?_
   rintro e w1 ⟨rfl,rfl⟩
   go_wp2_with fail
   refine (count_wrong r x 2 _ hg.out (by decide) (by decide)).mono ?_
   rintro e w1 ⟨y,rfl,b1,hy⟩
   have bE:=Below.step b0 b1
   replace hy:=Hd hy
   go_wp2
   go_ret
   exact ⟨_,rfl,bE,hy.out⟩
  ·rw [if_neg h2]
   have d2:decide (x≥0)=false:=decide_eq_false h2
   go_enter Tryz.func44,Tryz.ntmps44
   go_wp2_with fail
   refine hi.out.mono ?_
   rintro e w1 ⟨rfl,rfl⟩
   go_wp2
   go_ret
   exact ⟨_,rfl,b0,rfl⟩
theorem symP_ok {K:Nat} {ws:List Int} (h:Syms K ws) (hl:ws.length≤256):symP K ws 256=none:=by
 unfold symP
 rw [if_neg (by omega),if_neg]
 intro h0
 rcases idxOf_cases (odd1 K) ws with ⟨e,_⟩ | ⟨k,_,hk,hp,_⟩
 ·omega
 ·have:=h ws[k] (List.getElem_mem hk)
  simp [odd1] at hp
  omega
theorem count_Words_any (r:Nat→Addr) (K R:Nat) (va:Option Addr) (vn vc:Nat) (T:List Int) (u:Value) (ws:List Int) (w:World) (hg:Glob r w) (h:IntsAt w (.slice va vn vc) T) (hu:IntsAt w u ws) (hr:RuleOk K R T) (hl:T.length≤256) :
 Calls Tryz.prog 11 #[.agg #[.int .i64 K,.int .i64 R,.slice va vn vc],u] w (Ret2 (fun x y w'=>ErrIs r w' (symP K ws 256) y∧(symP K ws 256=none→NumAt w' x (preN K R T ws))∧(symP K ws 256≠none→x=.slice none 0 0)) w):=by
 obtain ⟨ua,un,uc,rfl⟩:=hu.shape
 have b0:=belowAlloc w (.cells #[.int .i64 K,.int .i64 R,.slice va vn vc] 24)
 have q:Box3 (w.alloc (.cells #[.int .i64 K,.int .i64 R,.slice va vn vc] 24)) w.heap.size (.int .i64 K) (.int .i64 R) (.slice va vn vc):=by simp [Box3,go_sem]
 have hs:=count_small r K R va vn vc T _ (hg.below b0) (h.below b0)
 rw [show smallP K R T=none by rw [smallP_ok hr,if_neg (by omega)]] at hs
 replace hs:=Hd hs
 replace hg:=Hd (hg.below b0)
 replace h:=Hd (h.below b0)
 replace hu:=Hd (hu.below b0)
 replace hr:=Hd hr
 obtain ⟨⟨z0,z1,z2⟩,-,-,-⟩:=id q
 go_enter Tryz.func11,Tryz.ntmps11
 go_wp2_with fail
 refine hs.out.mono ?_
 rintro e w1 ⟨x,rfl,b1,he⟩
 obtain rfl:=he.none_eq
 clear z0 z1 z2 hs he
 obtain ⟨⟨z0,z1,z2⟩,-,-,-⟩:=q.below b1
 have c1:=b1
 go_wp2_with fail
 refine (count_symbols r K (.slice ua un uc) ws 256 w1 (hg.out.below b1) (hu.out.below b1)).mono ?_
 rintro e w2 ⟨y,rfl,b2,hy⟩
 have c2:=Below.step c1 b2
 clear z0 z1 z2
 obtain ⟨⟨z0,z1,z2⟩,-,-,-⟩:=q.below c2
 cases hsy:symP K ws 256 with
 | some t =>
  rw [hsy] at hy
  obtain ⟨T1,p1,rfl⟩:=hy.some_shape
  have bE:=Below.step b0 c2
  replace hy:=Hd hy
  replace hsy:=Hd hsy
  go_wp2
  go_ret2
  exact ⟨_,_,rfl,bE,by rw [hsy.out]; exact hy.out,(fun q=>by rw [hsy.out] at q; cases q),fun _=>rfl⟩
 | none =>
  rw [hsy] at hy
  obtain rfl:=hy.none_eq
  have hwl:ws.length≤256:=by
   unfold symP at hsy
   apply Classical.byContradiction
   intro hn
   rw [if_pos (by omega)] at hsy
   unfold fresh at hsy
   cases hsy
  replace hsy:=Hd hsy
  clear hy
  go_wp2_with fail
  refine (count_words K R va vn vc T (.slice ua un uc) ws w2 (h.out.below c2) (hu.out.below c2) hr.out hl hwl).mono ?_
  rintro e w3 ⟨x,rfl,b3,hx⟩
  have bE:=Below.step b0 (Below.step c2 b3)
  replace hx:=Hd hx
  clear z0 z1 z2
  go_wp2
  go_ret2
  exact ⟨_,_,rfl,bE,by rw [hsy.out]; rfl,(fun _=>hx.out),fun q=>absurd hsy.out q⟩
end Go.Proofs.YtkaoebokbfcmhaaGreatDoor
namespace Go.Proofs.YtkaoebokbfcmhaaGreatDoor
open Go.RowKit
set_option maxRecDepth 100000
theorem run_appI {w:World} (B:Nat) (ty:TypeId) (v u:Value) (xs ys:List Int) (hown:OwnI B w v xs) (hu:IntsAt w u ys) (hlen:xs.length+ys.length≤17592186044416) (hB:B≤w.heap.size) :
 ∃ v' w',(Builtin.append_ #[22,22] ty #[v,u]).run Tryz.prog w=.ok v' w'∧OwnI B w' v' (xs++ys)∧Below B w w'∧w.grownBy w' v.ownBlock∧(v'.ownBlock=v.ownBlock∨v'.ownBlock=some w.heap.size):=by
 obtain ⟨i,hi,hz0,hz1,hz2⟩:=info_parts iInt
 obtain ⟨ao,cap,rfl,h1,h2,h3,h4⟩:=hu
 cases ao with
 | none =>
  obtain rfl:=h3 rfl
  have hy:ys=[]:=List.length_eq_zero_iff.1 (by omega)
  subst hy
  have hrun:=run_append_owned_none (P:=Tryz.prog) w B 22 ty 3 i 1 uInts hi v xs.length _ hown
  exact ⟨_,_,hrun,by simpa using hown,Below.refl _ _,World.grownBy.refl _ _,.inl rfl⟩
 | some p =>
  obtain ⟨v',w',hr,ho',hgr,_,hat⟩:=run_append_own_at (P:=Tryz.prog) w B 22 ty 3 i (.int .i64 0) 1 8 uInts hi hz0 hz1 hz2 rfl (by decide) v xs.length _ hown p ys.length cap (ys.map (.int .i64)) (by simp) (fun j u hj=>by
   have hjl:j<ys.length:=by have:=(List.getElem?_eq_some_iff.1 hj).1; simpa using this
   have:=h4 j hjl
   simp only [valAt] at this
   rw [this,← hj]; simp [hjl]) (ints_oneCell _ _) (by unfold maxLen; omega) (by omega) hB
  exact ⟨v',w',hr,by simpa [OwnI] using ho',(Below.refl _ _).grown hgr hB (fun k hk=>(hown.lt k hk).1),hgr,hat⟩
theorem step_appI {ops:Array Oper} {o:Oper} {a:Act} {w:World} {K:Act→World→Prop} {Q:Exit→Act→World→Prop} {Ep:Prop} (hgd:o.guard=none) (s x:Operand)
 (ho:o.op=.call { callee:=.builtin .append,args:=#[s,x],argTypes:=#[22,22] })
 (B:Nat) (v u:Value) (xs ys:List Int) (hs:a.eval s=v) (hx:a.eval x=u) (hown:OwnI B w v xs) (hu:IntsAt w u ys)
 (hlen:xs.length+ys.length≤17592186044416) (hB:B≤w.heap.size)
 (h:∀ v' w',OwnI B w' v' (xs++ys)→Below B w w'→K (a.put o.dst v') w') :
 if Region.wanted o (yielded ops a.tmps)=true then Oper.wp Tryz.prog o a w K Q else Ep:=by
 have hw:Region.wanted o (yielded ops a.tmps)=true:=by simp [Region.wanted,hgd]
 rw [if_pos hw]
 obtain ⟨v',w',hr,h2,h3,_,_⟩:=run_appI B o.type v u xs ys hown hu hlen hB
 unfold Oper.wp
 simp [execOp,ho,resolve,invoke,builtin,hs,hx,hr,Result.andThen]
 exact h v' w' h2 h3
def ecaT (n:Nat):List Int:=(List.range 8).map fun i=>(((n >>> i) &&& 1:Nat):Int)
theorem ecaT_take (n i:Nat) (h:i<8):(ecaT n).take (i+1)=(ecaT n).take i++[(((n >>> i) &&& 1:Nat):Int)]:=by
 rw [List.take_add_one]
 congr 1
 simp [ecaT,h]
theorem eca_bit:∀ n<256,∀ i<8,bits BinOp.and IntKind.i64 (((n:Nat):Int)/2 ^ i) 1=(((n >>> i) &&& 1:Nat):Int):=by decide +kernel
theorem eca_any (n:Nat) (hn:n<256) (w:World) :
 Calls Tryz.prog 26 #[.int .i64 n] w (Ret1 (fun x w'=>∃ a c,x=.agg #[.int .i64 ((2:Nat):Int),.int .i64 ((1:Nat):Int),.slice a 8 c]∧OwnI w.heap.size w' (.slice a 8 c) (ecaT n)) w):=by
 have b0:=belowAlloc w (.cells #[.int .i64 0,.int .i64 0,.slice none 0 0] 24)
 have b1:=belowAlloc (w.alloc (.cells #[.int .i64 0,.int .i64 0,.slice none 0 0] 24)) (.cells #[.int .i64 2,.int .i64 1,.slice none 0 0] 24)
 have b01:=Below.step b0 b1
 have q1:Box3 (w.alloc (.cells #[.int .i64 0,.int .i64 0,.slice none 0 0] 24)) w.heap.size (.int .i64 0) (.int .i64 0) (.slice none 0 0):=by simp [Box3,go_sem]
 replace q1:=q1.below b1
 have q2:Box3 ((w.alloc (.cells #[.int .i64 0,.int .i64 0,.slice none 0 0] 24)).alloc (.cells #[.int .i64 2,.int .i64 1,.slice none 0 0] 24)) (w.heap.size+1) (.int .i64 2) (.int .i64 1) (.slice none 0 0):=by simp [Box3,go_sem]
 have hsz:((w.alloc (.cells #[.int .i64 0,.int .i64 0,.slice none 0 0] 24)).alloc (.cells #[.int .i64 2,.int .i64 1,.slice none 0 0] 24)).heap.size=w.heap.size+2:=by simp
 replace q1:=Hd q1
 replace q2:=Hd q2
 replace b01:=Hd b01
 go_enter Tryz.func26,Tryz.ntmps26
 go_upto_region 3 with fail
 obtain ⟨w0,hw0⟩:∃ W:World,(w.alloc (.cells #[.int .i64 0,.int .i64 0,.slice none 0 0] 24)).alloc (.cells #[.int .i64 2,.int .i64 1,.slice none 0 0] 24)=W:=⟨_,rfl⟩
 rw [hw0] at q1 q2 b01 hsz
 rw [hw0]
 clear hw0 b0 b1
 replace hsz:=Hd hsz
 go_loopw [4] (fun iv wr=>∃ (i:Nat) (v:Value),iv=.int .i64 i∧i≤8∧Box3 wr w.heap.size (.int .i64 0) (.int .i64 0) (.slice none 0 0)∧Box3 wr (w.heap.size+1) (.int .i64 2) (.int .i64 1) v∧OwnI (w.heap.size+2) wr v ((ecaT n).take i)∧Below w.heap.size w wr∧w.heap.size+2≤wr.heap.size) (fun iv _=>8-(intOf iv).toNat)
 case atStart=>exact ⟨0,_,rfl,Nat.zero_le _,q1.out,q2.out,OwnI.nil _ _,b01.out,by rw [hsz.out]; exact Nat.le_refl _⟩
 case round =>
  obtain ⟨i,v,rfl,hi,p1,p2,hO,hB,hs⟩:=hrel
  obtain ⟨wo,rfl⟩:∃ wo:World,wo=wr:=⟨_,rfl⟩
  obtain ⟨va,vn,vc,rfl⟩:=hO.at.shape
  have lv:=hO.at.len
  by_cases hlt:i<8
  ·have hl8:((ecaT n).take i).length=i:=by simp [ecaT]; omega
   have htk:=ecaT_take n i hlt
   obtain ⟨W,hW⟩:∃ W:World,wo.drew=W:=⟨_,rfl⟩
   have hBW:Below wo.heap.size wo W:=by rw [← hW]; exact (Below.refl _ _).drew
   obtain ⟨y,hy⟩:∃ y:Int,(((n >>> i) &&& 1:Nat):Int)=y:=⟨_,rfl⟩
   rw [hy] at htk
   have p1:=p1.below hBW
   have p2:=p2.below hBW
   have hO:=hO.below hBW
   have hB:=Below.step hB hBW
   replace p1:=Hd p1
   replace p2:=Hd p2
   replace hO:=Hd hO
   replace hB:=Hd hB
   replace htk:=Hd htk
   replace hl8:=Hd hl8
   replace hy:=Hd hy
   replace hW:=Hd hW
   replace hs:=Hd hs
   clear hBW
   have d1:decide ((i:Int)<8)=true:=decide_eq_true (by omega)
   go_upto_region 5 with fail
   have hS:W.cell? ⟨w.heap.size+1,2,none⟩=some (.slice va vn vc):=p2.out.1.2.2
   refine wp_region_plan (fun w'=>w'.cell? ⟨w.heap.size+1,2,none⟩=some (.slice va vn vc)) 9 [(0,true),(1,true),(2,true),(3,true),(4,true),(5,true),(6,false),(7,false),(8,true)] (by kernel_rfl) (by kernel_rfl) ?_
   rw [hW.out]
   refine pqY 10 hS ?_
   refine pqY 11 hS ?_
   refine pqY 12 hS ?_
   refine pqY 13 hS ?_
   refine pqY 14 hS ?_
   refine pqY 15 hS ?_
   rw [eca_bit n hn i hlt,hy.out]
   have bl:=belowAlloc W (.cells #[.int .i64 y] 3)
   have hlit:=OwnI.lit W.heap.size W (Nat.le_refl _) [y] (by simp [maxLen]) #[.int .i64 y] rfl 1 rfl
   have hOl:=hO.out.below bl
   have b2:=Below.step hB.out bl
   have P1:=p1.out.below bl
   have P2:=p2.out.below bl
   have hs2:w.heap.size+2≤(W.alloc (.cells #[.int .i64 y] 3)).heap.size:=by
    have:=hs.out
    have h1:wo.heap.size=W.heap.size:=by rw [← hW.out]; rfl
    simp; omega
   replace hOl:=Hd hOl
   replace hlit:=Hd hlit
   replace P1:=Hd P1
   replace b2:=Hd b2
   replace hs2:=Hd hs2
   have hS1:(W.alloc (.cells #[.int .i64 y] 3)).cell? ⟨w.heap.size+1,2,none⟩=some (.slice va vn vc):=P2.1.2.2
   replace P2:=Hd P2
   clear bl
   refine headC rfl (fun KK hK=>?_)
   go_simp
   refine hK _ _ hS1 ?_
   clear hK KK
   refine headC rfl (fun KK hK=>?_)
   refine step_appI rfl _ _ rfl (w.heap.size+2) (.slice va vn vc) (.slice (some ⟨W.heap.size,0,none⟩) 1 1) _ [y] rfl rfl hOl.out hlit.out.at (by rw [hl8.out]; simp; omega) hs2.out ?_
   intro v9 w9 ho9 b9
   rw [← htk.out] at ho9
   obtain ⟨v9a,v9n,v9c,rfl⟩:=ho9.at.shape
   have P19:=P1.out.belowB b9 (show w.heap.size<w.heap.size+2 by omega)
   have P29:=P2.out.belowB b9 (show w.heap.size+1<w.heap.size+2 by omega)
   have B29:=b2.out.trans (b9.mono (show w.heap.size≤w.heap.size+2 by omega))
   have hTn:=ho9.setBelowBase (a:=⟨w.heap.size+1,2,none⟩) (show w.heap.size+1<w.heap.size+2 by omega) (.slice v9a v9n v9c)
   have Xn:=P29.set2 (.slice v9a v9n v9c)
   have Yn:=P19.far (show w.heap.size+1≠w.heap.size by omega) 2 (.slice v9a v9n v9c)
   have Bn:=B29.setCell (p:=⟨w.heap.size+1,2,none⟩) (show w.heap.size≤w.heap.size+1 by omega) (.slice v9a v9n v9c)
   have hs9:w.heap.size+2≤(w9.setCell ⟨w.heap.size+1,2,none⟩ (.slice v9a v9n v9c)).heap.size:=by
    have:=b9.size
    have:=hs2.out
    simp at *; omega
   have hS9:w9.cell? ⟨w.heap.size+1,2,none⟩=some (.slice va vn vc):=P29.1.2.2
   obtain ⟨-,-,-,f2⟩:=P29
   replace hTn:=Hd hTn
   replace Xn:=Hd Xn
   replace Yn:=Hd Yn
   replace Bn:=Hd Bn
   replace hs9:=Hd hs9
   replace htk:=Hd htk
   clear ho9 b9 P19 B29
   refine hK _ _ hS9 ?_
   clear hK KK
   refine pqY 18 hS9 ?_
   refine head0 ?_
   simp only [List.drop_succ_cons,List.drop_zero]
   clear hS hS1
   go_wp2
   refine NoPanic.normal ?_
   go_wp2
   go_roundw
   case measure=>simp [intOf]; omega
   case rel=>exact ⟨i+1,_,by go_num,by omega,Yn.out,Xn.out,hTn.out,Bn.out,hs9.out⟩
  ·obtain rfl:i=8:=by omega
   have d1:decide (((8:Nat):Int)<8)=false:=by decide
   have hfin:(ecaT n).take 8=ecaT n:=List.take_of_length_le (by simp [ecaT])
   rw [hfin] at hO
   have l8:vn=8:=by
    have:=hO.at.len
    have h8:(ecaT n).length=8:=by simp [ecaT]
    obtain ⟨_,_,e,_⟩:=hO.at
    injection e with _ e2 _
   subst l8
   have bw:=wo.heap.size
   obtain ⟨⟨z0,z1,z2⟩,g0,g1,g2⟩:=p2
   obtain ⟨⟨y0,y1,y2⟩,h0,h1,h2⟩:=p1
   replace hO:=Hd hO
   replace hB:=Hd hB
   go_wp2
   refine bodyPost_ret (v:=.agg #[.int .i64 2,.int .i64 1,.slice va 8 vc]) (by simp [results,Tryz.results26,go_sem,y0,y1,y2]) rfl ⟨_,rfl,below_set3 hB.out (Nat.le_refl _) _ _ _,va,vc,rfl,?_⟩
   exact (((hO.out.setBelowBase (a:=⟨w.heap.size,0,none⟩) (by simp) _).setBelowBase (a:=⟨w.heap.size,1,none⟩) (by simp) _).setBelowBase (a:=⟨w.heap.size,2,none⟩) (by simp) _).mono (by omega)
end Go.Proofs.YtkaoebokbfcmhaaGreatDoor
namespace Go.Proofs.YtkaoebokbfcmhaaGreatDoor
theorem mod_front {K D:Nat} {x s:Nat} (hs:s<K):(x%D)*K+s=(x*K+s)%(D*K):=by
 have h1:=Nat.mod_add_div x D
 have h2:x*K+s=((x%D)*K+s)+(D*K)*(x/D):=by
  conv=>lhs; rw [← h1]
  rw [Nat.add_mul,Nat.mul_right_comm]; omega
 rw [h2,Nat.add_mul_mod_self_left]
 by_cases hD:D=0
 ·subst hD; simp
 ·refine (Nat.mod_eq_of_lt ?_).symm
  have h3:=Nat.mod_lt x (show 0<D by omega)
  have h4:(x%D+1)*K≤D*K:=Nat.mul_le_mul_right _ h3
  rw [Nat.add_mul] at h4; omega
def FillOk (K R:Nat) (T:List Int) (n front image:Nat):Prop:=front<T.length/K∧image<pw K (n-2*R)
theorem FillOk.zero {K R:Nat} {T:List Int} (hr:RuleOk K R T):FillOk K R T 0 0 0 :=
 ⟨by rw [hr.len,pw_succ,Nat.mul_div_cancel _ (by have:=hr.k1; omega)]; exact pw_pos _ hr.k1,by rw [Nat.zero_sub]; exact pw_pos _ hr.k1⟩
theorem FillOk.window {K R:Nat} {T:List Int} {n front image s:Nat} (hr:RuleOk K R T) (h:FillOk K R T n front image) (hs:s<K):front*K+s<T.length:=by
 have hD:T.length=T.length/K*K:=by
  rw [hr.len,pw_succ,Nat.mul_div_cancel _ (by have:=hr.k1; omega)]
 have h1:(front+1)*K≤T.length/K*K:=Nat.mul_le_mul_right _ h.1
 rw [Nat.add_mul] at h1
 omega
theorem FillOk.step {K R:Nat} {T:List Int} {n front image s:Nat} (hr:RuleOk K R T) (h:FillOk K R T n front image) (hs:s<K) :
 FillOk K R T (n+1) ((front*K+s)%(T.length/K)) (if 2*R≤n then image*K+(T.getD (front*K+s) 0).toNat else image):=by
 refine ⟨Nat.mod_lt _ (by have:=h.1; omega),?_⟩
 split
 ·rename_i hn
  have hw:=h.window hr hs
  have e:T.getD (front*K+s) 0=T[front*K+s]:=by simp [List.getD,hw]
  have h1:=hr.syms _ (List.getElem_mem hw)
  rw [e,show n+1-2*R=(n-2*R)+1 by omega,pw_succ]
  have h2:(image+1)*K≤pw K (n-2*R)*K:=Nat.mul_le_mul_right _ h.2
  rw [Nat.add_mul] at h2
  omega
 ·rename_i hn
  have h2:=h.2
  rw [show n-2*R=0 by omega] at h2
  rw [show n+1-2*R=0 by omega]
  exact h2
theorem tab_ext {a b:List Int} (hl:a.length=b.length) (h:∀ t,t<a.length→a.getD t 0=b.getD t 0):a=b :=
 List.ext_getElem hl fun t h1 h2=>by have:=h t h1; simpa [List.getD,h1,h2] using this
theorem wideT_get {K R d:Nat} {T:List Int} {i:Nat} (h:i<pw K (2*(R+d)+1)):(wideT K R d T).getD i 0=T.getD (numW K (((digs K (2*(R+d)+1) i).drop d).take (2*R+1))) 0:=by
 simp [wideT,List.getD,h]
theorem wideT_zero {K R:Nat} {T:List Int} (h:RuleOk K R T):wideT K R 0 T=T:=by
 refine tab_ext (by rw [wideT_length,h.len]; rfl) fun t ht=>?_
 rw [wideT_length] at ht
 rw [wideT_get ht,List.drop_zero,Nat.add_zero,List.take_of_length_le (by rw [digs_length]; omega),numW_digs h.k1 _ _ (by simpa using ht)]
theorem wideT_wideT {K Q e d:Nat} {N:List Int} (hK:1≤K):wideT K (Q+e) d (wideT K Q e N)=wideT K Q (e+d) N:=by
 refine tab_ext (by rw [wideT_length,wideT_length,Nat.add_assoc]) fun t ht=>?_
 rw [wideT_length] at ht
 rw [wideT_get ht,wideT_at hK _ (syms_take (syms_drop (digs_syms hK _ _) _) _) (by rw [List.length_take,List.length_drop,digs_length]; omega),wideT_get (by rw [← Nat.add_assoc]; exact ht)]
 congr 2
 rw [List.drop_take,List.take_take,List.drop_drop,Nat.min_eq_left (by omega),Nat.add_comm d e,Nat.add_assoc]
def narrT (K Q:Nat) (T:List Int):List Int:=(List.range (pw K (2*Q+1))).map fun i=>T.getD (numW K ([0]++digs K (2*Q+1) i++[0])) 0
theorem narrT_length (K Q:Nat) (T:List Int):(narrT K Q T).length=pw K (2*Q+1):=by simp [narrT]
theorem narrT_wide {K Q:Nat} {N:List Int} (h:RuleOk K Q N):narrT K Q (wideT K Q 1 N)=N:=by
 have hK:=h.k1
 refine tab_ext (by rw [narrT_length,h.len]) fun t ht=>?_
 rw [narrT_length] at ht
 have hs:Syms K ([0]++digs K (2*Q+1) t++[0]):=by
  intro y hy
  rcases List.mem_append.1 hy with hy | hy
  ·rcases List.mem_append.1 hy with hy | hy
   ·rw [List.mem_singleton] at hy; subst hy; omega
   ·exact digs_syms hK _ _ y hy
  ·rw [List.mem_singleton] at hy; subst hy; omega
 have:(narrT K Q (wideT K Q 1 N)).getD t 0=(wideT K Q 1 N).getD (numW K ([0]++digs K (2*Q+1) t++[0])) 0:=by simp [narrT,List.getD,ht]
 rw [this,wideT_at hK _ hs (by simp [digs_length]; omega)]
 have e:(([0]++digs K (2*Q+1) t++[0]:List Int).drop 1).take (2*Q+1)=digs K (2*Q+1) t:=by
  rw [List.append_assoc,List.drop_left' (by rfl),List.take_left' (digs_length ..)]
 rw [e,numW_digs hK _ _ ht]
def Least (K R:Nat) (T:List Int):Prop:=∀ Q N,R=Q+1→RuleOk K Q N→T≠wideT K Q 1 N
def NarrIs (K R:Nat) (T:List Int) (Q:Nat) (N:List Int):Prop:=RuleOk K Q N∧Least K Q N∧∃ d,R=Q+d∧T=wideT K Q d N
theorem wideT_inj {K Q d:Nat} {N M:List Int} (h:RuleOk K Q N) (k:RuleOk K Q M) (e:wideT K Q d N=wideT K Q d M):N=M:=by
 induction d with
 | zero=>rwa [wideT_zero h,wideT_zero k] at e
 | succ d ih =>
  by_cases hd:Q+d≤3
  ·apply ih
   rw [← wideT_wideT h.k1,← wideT_wideT h.k1] at e
   rw [← narrT_wide (wideT_ok h hd),e,narrT_wide (wideT_ok k hd)]
  ·have h1:=h.k1
   refine tab_ext (by rw [h.len,k.len]) fun t ht=>?_
   rw [h.len] at ht
   have hs:Syms K (List.replicate (d+1) 0++digs K (2*Q+1) t++List.replicate (d+1) 0):=by
    intro y hy
    rcases List.mem_append.1 hy with hy | hy
    ·rcases List.mem_append.1 hy with hy | hy
     ·rw [List.eq_of_mem_replicate hy]; omega
     ·exact digs_syms h1 _ _ y hy
    ·rw [List.eq_of_mem_replicate hy]; omega
   have hc:((List.replicate (d+1) 0++digs K (2*Q+1) t++List.replicate (d+1) 0:List Int).drop (d+1)).take (2*Q+1)=digs K (2*Q+1) t:=by
    rw [List.append_assoc,List.drop_left' (by simp),List.take_left' (digs_length ..)]
   have a:=wideT_at (R:=Q) (d:=d+1) (T:=N) h1 _ hs (by simp [digs_length]; omega)
   have b:=wideT_at (R:=Q) (d:=d+1) (T:=M) h1 _ hs (by simp [digs_length]; omega)
   rw [hc,numW_digs h1 _ _ ht] at a b
   rw [← a,← b,e]
theorem NarrIs.unique {K R Q P:Nat} {T N M:List Int} (h:NarrIs K R T Q N) (k:NarrIs K R T P M):Q=P∧N=M:=by
 obtain ⟨h1,h2,d,rfl,e⟩:=h
 obtain ⟨k1,k2,c,hc,e'⟩:=k
 have hK:=h1.k1
 have key:∀ {Q P:Nat} {N M:List Int} {d c:Nat},RuleOk K Q N→RuleOk K P M→Least K P M→Q+d=P+c→P≤3→wideT K Q d N=wideT K P c M→¬ Q<P:=by
  intro Q P N M d c hN hM hl hdc hP he hlt
  obtain ⟨j,rfl⟩:∃ j,P=Q+j+1:=⟨P-Q-1,by omega⟩
  obtain rfl:d=(j+1)+c:=by omega
  rw [← wideT_wideT hN.k1] at he
  have hw:wideT K Q (j+1) N=M:=wideT_inj (Q:=Q+(j+1)) (wideT_ok hN (by omega)) hM he
  refine hl (Q+j) (wideT K Q j N) rfl (wideT_ok hN (by omega)) ?_
  rw [wideT_wideT hN.k1,hw]
 have hr:=h1.r3
 have hr':=k1.r3
 have n1:=key h1 k1 k2 hc hr' (e.symm.trans e')
 have n2:=key k1 h1 h2 hc.symm hr (e'.symm.trans e)
 obtain rfl:Q=P:=by omega
 obtain rfl:d=c:=by omega
 exact ⟨rfl,wideT_inj h1 k1 (e.symm.trans e')⟩
theorem twins_swap {K R:Nat} {T a b:List Int} (h:IsTwins K R T a b) {k:Nat}:∀ j,j≤k→∀ x,Syms K x→x.length=k*a.length+2*R→∃ x',Syms K x'∧x'.length=x.length∧imgP K R T x'=imgP K R T x∧∀ i,i<j→(x'.drop (i*a.length)).take a.length≠a
 | 0,_,x,sx,_=>⟨x,sx,rfl,rfl,fun _ hi=>absurd hi (Nat.not_lt_zero _)⟩
 | j+1,hj,x,sx,lx=>by
  obtain ⟨y,sy,ly,ey,hy⟩:=twins_swap h j (by omega) x sx lx
  by_cases e:(y.drop (j*a.length)).take a.length=a
  ·have hle:j*a.length+a.length≤k*a.length:=by rw [← Nat.succ_mul]; exact Nat.mul_le_mul_right _ hj
   have hsplit:y=y.take (j*a.length)++a++y.drop (j*a.length+a.length):=by
    have h1:=(List.take_append_drop (j*a.length) y).symm
    have h2:=(List.take_append_drop a.length (y.drop (j*a.length))).symm
    rw [e,List.drop_drop] at h2
    rw [List.append_assoc,← h2,← h1]
   have hlu:(y.take (j*a.length)).length=j*a.length:=by rw [List.length_take]; omega
   have hc:=h.context (y.take (j*a.length)) (y.drop (j*a.length+a.length))
   refine ⟨y.take (j*a.length)++b++y.drop (j*a.length+a.length),?_,?_,?_,fun i hi=>?_⟩
   ·intro z hz
    rcases List.mem_append.1 hz with hz | hz
    ·rcases List.mem_append.1 hz with hz | hz
     ·exact sy z (List.mem_of_mem_take hz)
     ·exact h.sb z hz
    ·exact sy z (List.mem_of_mem_drop hz)
   ·rw [← ly]
    have:=congrArg List.length hsplit
    simp only [List.length_append] at this ⊢
    rw [← h.len]; omega
   ·rw [← hc,← hsplit,ey]
   ·rcases Nat.lt_or_ge i j with hij | hij
    ·have hle2:i*a.length+a.length≤j*a.length:=by rw [← Nat.succ_mul]; exact Nat.mul_le_mul_right _ hij
     have e1:((y.take (j*a.length)++b++y.drop (j*a.length+a.length)).drop (i*a.length)).take a.length=(y.drop (i*a.length)).take a.length:=by
      rw [List.append_assoc,List.drop_append_of_le_length (by omega),List.take_append_of_le_length (by rw [List.length_drop,hlu]; omega)]
      rw [List.drop_take,List.take_take,Nat.min_eq_left (by omega)]
     rw [e1]; exact hy i hij
    ·obtain rfl:i=j:=by omega
     have e1:((y.take (i*a.length)++b++y.drop (i*a.length+a.length)).drop (i*a.length)).take a.length=b:=by
      rw [List.append_assoc,List.drop_left' hlu,List.take_left' h.len.symm]
     rw [e1]; exact h.ne.symm
  ·refine ⟨y,sy,ly,ey,fun i hi=>?_⟩
   rcases Nat.lt_or_ge i j with hij | hij
   ·exact hy i hij
   ·obtain rfl:i=j:=by omega
    exact e
theorem IsTwins.not_onto {K R:Nat} {T a b:List Int} (hr:RuleOk K R T) (h:IsTwins K R T a b):¬ Onto K R T:=fun ho=>by
 have hK:=hr.k1
 obtain ⟨k,hk⟩:=few (pw K a.length) (pw K (2*R)) (pw_pos _ hK)
 have ham:a∈wordsL K a.length:=(mem_wordsL hK).2 ⟨h.sa,rfl⟩
 have hsub:wordsL K (k*a.length) ⊆ (avoid K a.length (2*R) a k).map (imgP K R T):=by
  intro y hy
  obtain ⟨sy,ly⟩:=(mem_wordsL hK).1 hy
  obtain ⟨x,sx,lx,ex⟩:=ho y sy
  rw [ly] at lx
  obtain ⟨x',sx',lx',ex',hx'⟩:=twins_swap h k (Nat.le_refl _) x sx lx
  exact List.mem_map.2 ⟨x',mem_avoid hK k _ sx' (by rw [lx',lx]) hx',by rw [ex',ex]⟩
 have:=nodup_sub (wordsL_nodup (m:=k*a.length) hK) hsub
 rw [List.length_map,wordsL_len,avoid_len ham,pw_mul] at this
 omega
theorem onto_iff_no_twins {K R:Nat} {T:List Int} (hr:RuleOk K R T):Onto K R T↔∀ a b,¬ IsTwins K R T a b :=
 ⟨fun ho _ _ t=>t.not_onto hr ho,onto_of_no_twins hr⟩
def behB (K N:Nat) (T:List Int) (l:List Bool) (s:Int):List Bool :=
 (List.range N).map fun v=>(List.range N).any fun u=>l.getD u false&&(List.range K).any fun c=>decide ((u*K+c)%N=v)&&decide (T.getD (u*K+c) 0=s)
theorem behB_len (K N:Nat) (T:List Int) (l:List Bool) (s:Int):(behB K N T l s).length=N:=by simp [behB]
theorem behB_iff {K N:Nat} {T:List Int} {l:List Bool} {s:Int} {v:Nat} (hv:v<N) :
 (behB K N T l s).getD v false=true↔∃ u,u<N∧l.getD u false=true∧∃ c,c<K∧(u*K+c)%N=v∧T.getD (u*K+c) 0=s:=by
 have e:(behB K N T l s).getD v false=(List.range N).any fun u=>l.getD u false&&(List.range K).any fun c=>decide ((u*K+c)%N=v)&&decide (T.getD (u*K+c) 0=s):=by
  unfold behB; simp [List.getD,hv]
 rw [e,List.any_eq_true]
 constructor
 ·rintro ⟨u,hu,h⟩
  rw [Bool.and_eq_true,List.any_eq_true] at h
  obtain ⟨h1,c,hc,h2⟩:=h
  rw [Bool.and_eq_true,decide_eq_true_iff,decide_eq_true_iff] at h2
  exact ⟨u,List.mem_range.1 hu,h1,c,List.mem_range.1 hc,h2.1,h2.2⟩
 ·rintro ⟨u,hu,h1,c,hc,h2,h3⟩
  refine ⟨u,List.mem_range.2 hu,?_⟩
  rw [Bool.and_eq_true,List.any_eq_true]
  refine ⟨h1,c,List.mem_range.2 hc,?_⟩
  rw [Bool.and_eq_true,decide_eq_true_iff,decide_eq_true_iff]
  exact ⟨h2,h3⟩
def reachB (K N:Nat) (T:List Int) (y:List Int):List Bool:=y.foldl (behB K N T) (List.replicate N true)
theorem reachB_nil (K N:Nat) (T:List Int):reachB K N T []=List.replicate N true:=rfl
theorem reachB_snoc (K N:Nat) (T:List Int) (y:List Int) (s:Int):reachB K N T (y++[s])=behB K N T (reachB K N T y) s:=by simp [reachB]
theorem reachB_len (K N:Nat) (T:List Int) (y:List Int):(reachB K N T y).length=N:=by
 cases h:y.reverse with
 | nil=>rw [List.reverse_eq_nil_iff.1 h]; simp [reachB]
 | cons a l =>
  have:y=l.reverse++[a]:=by rw [← List.reverse_reverse y,h]; simp
  rw [this,reachB_snoc,behB_len]
theorem snoc_indI {P:List Int→Prop} (h0:P []) (h1:∀ y s,P y→P (y++[s])) (y:List Int):P y:=by
 generalize hn:y.length=n
 induction n generalizing y with
 | zero=>rw [List.eq_nil_of_length_eq_zero hn]; exact h0
 | succ n ih =>
  have hne:y≠[]:=by intro e; subst e; simp at hn
  obtain ⟨b,x,rfl⟩:∃ b x,y=b++[x]:=⟨y.dropLast,y.getLast hne,(List.dropLast_concat_getLast hne).symm⟩
  exact h1 _ _ (ih b (by simpa using hn))
theorem syms_snocI {K:Int} {y:List Int} {s:Int}:Syms K (y++[s])↔Syms K y∧0≤s∧s<K :=
 ⟨fun h=>⟨fun x hx=>h x (by simp [hx]),h s (by simp)⟩,fun h x hx=>by
   rcases List.mem_append.1 hx with hx | hx
   ·exact h.1 x hx
   ·simp at hx; subst hx; exact h.2⟩
theorem reach_iff {K R:Nat} {T:List Int} (hr:RuleOk K R T) (y:List Int):∀ v,v<pw K (2*R) →
 ((reachB K (pw K (2*R)) T y).getD v false=true↔∃ x,Syms K x∧x.length=y.length+2*R∧imgP K R T x=y∧numW K x%pw K (2*R)=v):=by
 have hK:=hr.k1
 have hTl:T.length=pw K (2*R)*K:=by rw [hr.len,pw_succ]
 refine snoc_indI (P:=fun y=>∀ v,v<pw K (2*R)→((reachB K (pw K (2*R)) T y).getD v false=true↔∃ x,Syms K x∧x.length=y.length+2*R∧imgP K R T x=y∧numW K x%pw K (2*R)=v)) ?_ ?_ y
 ·intro v hv
  rw [reachB_nil]
  refine ⟨fun _=>⟨digs K (2*R) v,digs_syms hK _ _,by rw [digs_length]; simp,List.eq_nil_of_length_eq_zero (by rw [imgP_length,digs_length]; omega),by rw [numW_digs hK _ _ hv,Nat.mod_eq_of_lt hv]⟩,fun _=>by simp [List.getD,hv]⟩
 ·intro y s ih v hv
  rw [reachB_snoc,behB_iff hv]
  constructor
  ·rintro ⟨u,hu,h1,c,hc,h2,h3⟩
   obtain ⟨x,sx,lx,ex,nx⟩:=(ih u hu).1 h1
   have sxc:Syms K (x++[(c:Int)]):=syms_snocI.2 ⟨sx,by omega,by omega⟩
   have hw:numW K (x++[(c:Int)])%T.length=u*K+c:=by
    rw [numW_snoc,Int.toNat_natCast,hTl,← mod_front hc,nx]
   refine ⟨x++[(c:Int)],sxc,by simp [lx]; omega,?_,?_⟩
   ·rw [imgP_snoc hr.len sxc,if_pos (by omega),ex,hw,h3]
   ·rw [← h2,← hw,hTl,Nat.mod_mul_right_mod]
  ·rintro ⟨x,sx,lx,ex,nx⟩
   have hne:x≠[]:=by intro e; subst e; simp at lx; omega
   obtain ⟨b,d,rfl⟩:∃ b d,x=b++[d]:=⟨x.dropLast,x.getLast hne,(List.dropLast_concat_getLast hne).symm⟩
   obtain ⟨sb,d0,d1⟩:=syms_snocI.1 sx
   obtain ⟨c,rfl⟩:=Int.eq_ofNat_of_zero_le d0
   have hc:c<K:=by omega
   have lb:b.length=y.length+2*R:=by simp at lx; omega
   rw [imgP_snoc hr.len sx,if_pos (by omega)] at ex
   have e1:=List.append_inj' ex rfl
   have hw:numW K (b++[(c:Int)])%T.length=(numW K b%pw K (2*R))*K+c:=by
    rw [numW_snoc,Int.toNat_natCast,hTl,← mod_front hc]
   have hu:numW K b%pw K (2*R)<pw K (2*R):=Nat.mod_lt _ (pw_pos _ hK)
   refine ⟨numW K b%pw K (2*R),hu,(ih _ hu).2 ⟨b,sb,lb,e1.1,rfl⟩,c,hc,?_,?_⟩
   ·rw [← hw,hTl,Nat.mod_mul_right_mod,nx]
   ·rw [← hw]; have:=e1.2; injection this
theorem any_iff {l:List Bool} {N:Nat} (hl:l.length=N):l.any id=true↔∃ v,v<N∧l.getD v false=true:=by
 subst hl
 rw [List.any_eq_true]
 constructor
 ·rintro ⟨b,hb,h⟩
  obtain ⟨i,hi,rfl⟩:=List.getElem_of_mem hb
  exact ⟨i,hi,by simpa [List.getD,hi] using h⟩
 ·rintro ⟨v,hv,h⟩
  exact ⟨l[v],List.getElem_mem hv,by simpa [List.getD,hv] using h⟩
def HasPre (K R:Nat) (T:List Int) (y:List Int):Prop:=∃ x,Syms K x∧x.length=y.length+2*R∧imgP K R T x=y
theorem reach_anyS {K R:Nat} {T:List Int} (hr:RuleOk K R T) (y:List Int):(reachB K (pw K (2*R)) T y).any id=true↔HasPre K R T y:=by
 rw [any_iff (reachB_len _ _ _ _)]
 constructor
 ·rintro ⟨v,hv,h⟩
  obtain ⟨x,sx,lx,ex,_⟩:=(reach_iff hr y v hv).1 h
  exact ⟨x,sx,lx,ex⟩
 ·rintro ⟨x,sx,lx,ex⟩
  have hu:numW K x%pw K (2*R)<pw K (2*R):=Nat.mod_lt _ (pw_pos _ hr.k1)
  exact ⟨_,hu,(reach_iff hr y _ hu).2 ⟨x,sx,lx,ex,rfl⟩⟩
inductive SubR where
 | on (sets:List (List Bool)) (words:List (List Int))
 | orphan (w:List Int)
 | big
def subStep (K N:Nat) (T:List Int) (i t:Nat) (sets:List (List Bool)) (words:List (List Int)):SubR :=
 if (behB K N T (sets.getD i []) t).any id=false then .orphan (words.getD i []++[(t:Int)])
 else if behB K N T (sets.getD i []) t∈sets then .on sets words
 else if sets.length=4096 then .big
 else .on (sets++[behB K N T (sets.getD i []) t]) (words++[words.getD i []++[(t:Int)]])
def subRow (K N:Nat) (T:List Int) (i:Nat):Nat→Nat→List (List Bool)→List (List Int)→SubR
 | 0,_,sets,words=>.on sets words
 | m+1,t,sets,words=>match subStep K N T i t sets words with
  | .on a b=>subRow K N T i m (t+1) a b
  | r=>r
def subGo (K N:Nat) (T:List Int):Nat→Nat→List (List Bool)→List (List Int)→SubR
 | 0,_,sets,words=>.on sets words
 | f+1,i,sets,words=>if i<sets.length then match subRow K N T i K 0 sets words with
  | .on a b=>subGo K N T f (i+1) a b
  | r=>r
  else .on sets words
def subR (K N:Nat) (T:List Int):SubR:=subGo K N T 4097 0 [List.replicate N true] [[]]
structure SubInv (K N:Nat) (T:List Int) (i:Nat) (sets:List (List Bool)) (words:List (List Int)):Prop where
 ll:words.length=sets.length
 z0:0<sets.length
 z1:sets.getD 0 []=List.replicate N true
 z2:words.getD 0 []=[]
 eq:∀ j,j<sets.length→sets.getD j []=reachB K N T (words.getD j [])
 sy:∀ j,j<sets.length→Syms K (words.getD j [])
 ne:∀ j,j<sets.length→(sets.getD j []).any id=true
 mono:∀ j k,j≤k→k<sets.length→(words.getD j []).length≤(words.getD k []).length
 close:∀ j,j<i→∀ s,s<K→∃ k,k<sets.length∧sets.getD k []=behB K N T (sets.getD j []) (s:Nat)∧(words.getD k []).length≤(words.getD j []).length+1
 small:sets.length≤4096
structure SubMid (K N:Nat) (T:List Int) (i t:Nat) (sets:List (List Bool)) (words:List (List Int)):Prop extends SubInv K N T i sets words where
 il:i<sets.length
 top:∀ k,k<sets.length→(words.getD k []).length≤(words.getD i []).length+1
 part:∀ s,s<t→∃ k,k<sets.length∧sets.getD k []=behB K N T (sets.getD i []) (s:Nat)∧(words.getD k []).length≤(words.getD i []).length+1
theorem getD_leftS {α:Type} {l m:List α} {j:Nat} {d:α} (h:j<l.length):(l++m).getD j d=l.getD j d:=by
 simp [List.getD,List.getElem?_append_left h]
theorem getD_end {α:Type} {l:List α} {x d:α}:(l++[x]).getD l.length d=x:=by simp [List.getD]
def OrphanIs (K N:Nat) (T:List Int) (w:List Int):Prop:=Syms K w∧w≠[]∧(reachB K N T w).any id=false∧∀ y,Syms K y→y.length<w.length→(reachB K N T y).any id=true
theorem SubMid.early {K N i t:Nat} {T:List Int} {sets:List (List Bool)} {words:List (List Int)} (h:SubMid K N T i t sets words) (y:List Int) :
 Syms K y→y.length≤(words.getD i []).length→∃ j,j<sets.length∧sets.getD j []=reachB K N T y∧(words.getD j []).length≤y.length:=by
 refine snoc_indI (P:=fun y=>Syms K y→y.length≤(words.getD i []).length→∃ j,j<sets.length∧sets.getD j []=reachB K N T y∧(words.getD j []).length≤y.length) ?_ ?_ y
 ·intro _ _
  exact ⟨0,h.z0,by rw [h.z1,reachB_nil],by rw [h.z2]; simp⟩
 ·intro y s ih hs hl
  obtain ⟨sy,s0,s1⟩:=syms_snocI.1 hs
  rw [List.length_append,List.length_singleton] at hl
  obtain ⟨j,hj,e,l⟩:=ih sy (by omega)
  have hji:j<i:=by
   apply Classical.byContradiction
   intro hn
   have:=h.mono i j (by omega) hj
   omega
  obtain ⟨c,rfl⟩:=Int.eq_ofNat_of_zero_le s0
  obtain ⟨k,hk,ek,lk⟩:=h.close j hji c (by omega)
  exact ⟨k,hk,by rw [ek,e,reachB_snoc],by rw [List.length_append,List.length_singleton]; omega⟩
theorem subStep_inv {K N i t:Nat} {T:List Int} {sets:List (List Bool)} {words:List (List Int)} (h:SubMid K N T i t sets words) (ht:t<K) :
 (∃ w,subStep K N T i t sets words=.orphan w∧OrphanIs K N T w)∨subStep K N T i t sets words=.big ∨
 ∃ a b,subStep K N T i t sets words=.on a b∧SubMid K N T i (t+1) a b:=by
 have hi:=h.il
 have hwl:i<words.length:=by rw [h.ll]; exact hi
 have hbe:behB K N T (sets.getD i []) t=reachB K N T (words.getD i []++[(t:Int)]):=by rw [reachB_snoc,← h.eq i hi]
 have hsw:Syms K (words.getD i []++[(t:Int)]):=syms_snocI.2 ⟨h.sy i hi,by omega,by omega⟩
 unfold subStep
 by_cases h1:(behB K N T (sets.getD i []) t).any id=false
 ·rw [if_pos h1]
  refine .inl ⟨_,rfl,hsw,by simp,by rw [← hbe]; exact h1,fun y sy hy=>?_⟩
  rw [List.length_append,List.length_singleton] at hy
  obtain ⟨j,hj,e,_⟩:=h.early y sy (by omega)
  rw [← e]; exact h.ne j hj
 ·rw [if_neg h1]
  by_cases h2:behB K N T (sets.getD i []) t∈sets
  ·rw [if_pos h2]
   refine .inr (.inr ⟨_,_,rfl,h.toSubInv,hi,h.top,fun s hs=>?_⟩)
   by_cases e:s=t
   ·subst e
    obtain ⟨k,hk,ek⟩:=List.getElem_of_mem h2
    exact ⟨k,hk,by simpa [List.getD,hk] using ek,h.top k hk⟩
   ·exact h.part s (by omega)
  ·rw [if_neg h2]
   by_cases h3:sets.length=4096
   ·rw [if_pos h3]; exact .inr (.inl rfl)
   ·rw [if_neg h3]
    have hbt:(behB K N T (sets.getD i []) t).any id=true:=by
     cases hx:(behB K N T (sets.getD i []) t).any id with
     | true=>rfl
     | false=>exact absurd hx h1
    obtain ⟨b,hb⟩:∃ b,behB K N T (sets.getD i []) t=b:=⟨_,rfl⟩
    rw [hb] at hbe hbt ⊢
    have cs:∀ j,j<(sets++[b]).length→(j<sets.length∧(sets++[b]).getD j []=sets.getD j []∧(words++[words.getD i []++[(t:Int)]]).getD j []=words.getD j [])∨(j=sets.length∧(sets++[b]).getD j []=b∧(words++[words.getD i []++[(t:Int)]]).getD j []=words.getD i []++[(t:Int)]):=by
     intro j hj
     rw [List.length_append,List.length_singleton] at hj
     by_cases e:j<sets.length
     ·exact .inl ⟨e,getD_leftS e,getD_leftS (by rw [h.ll]; exact e)⟩
     ·obtain rfl:j=sets.length:=by omega
      exact .inr ⟨rfl,getD_end,by rw [← h.ll]; exact getD_end⟩
    have keep:∀ j,j<sets.length→(sets++[b]).getD j []=sets.getD j []∧(words++[words.getD i []++[(t:Int)]]).getD j []=words.getD j []:=fun j hj=>⟨getD_leftS hj,getD_leftS (by rw [h.ll]; exact hj)⟩
    have sml:=h.small
    refine .inr (.inr ⟨_,_,rfl,⟨by simp [h.ll],by simp,by rw [(keep 0 h.z0).1]; exact h.z1,by rw [(keep 0 h.z0).2]; exact h.z2,fun j hj=>?_,fun j hj=>?_,fun j hj=>?_,fun j k hjk hk=>?_,fun j hj s hs=>?_,by rw [List.length_append,List.length_singleton]; omega⟩,by simp; omega,fun k hk=>?_,fun s hs=>?_⟩)
    ·rcases cs j hj with ⟨q,e1,e2⟩ | ⟨q,e1,e2⟩
     ·rw [e1,e2]; exact h.eq j q
     ·rw [e1,e2]; exact hbe
    ·rcases cs j hj with ⟨q,e1,e2⟩ | ⟨q,e1,e2⟩
     ·rw [e2]; exact h.sy j q
     ·rw [e2]; exact hsw
    ·rcases cs j hj with ⟨q,e1,e2⟩ | ⟨q,e1,e2⟩
     ·rw [e1]; exact h.ne j q
     ·rw [e1]; exact hbt
    ·rcases cs k hk with ⟨q,_,e2⟩ | ⟨q,_,e2⟩
     ·rw [e2,(keep j (by omega)).2]; exact h.mono j k hjk q
     ·rw [e2]
      rcases cs j (by omega) with ⟨q',_,e2'⟩ | ⟨q',_,e2'⟩
      ·rw [e2',List.length_append,List.length_singleton]; exact h.top j q'
      ·rw [e2']; exact Nat.le_refl _
    ·obtain ⟨k,hk,e,l⟩:=h.close j hj s hs
     refine ⟨k,by simp; omega,?_,?_⟩
     ·rw [(keep k hk).1,(keep j (by omega)).1]; exact e
     ·rw [(keep k hk).2,(keep j (by omega)).2]; exact l
    ·rw [(keep i hi).2]
     rcases cs k hk with ⟨q,_,e2⟩ | ⟨q,_,e2⟩
     ·rw [e2]; exact h.top k q
     ·rw [e2]; simp
    ·rw [(keep i hi).2,(keep i hi).1]
     by_cases e:s=t
     ·subst e
      exact ⟨sets.length,by simp,by rw [getD_end,hb],by rw [show (words++[words.getD i []++[(s:Int)]]).getD sets.length []=words.getD i []++[(s:Int)] by rw [← h.ll]; exact getD_end]; simp⟩
     ·obtain ⟨k,hk,e1,l⟩:=h.part s (by omega)
      exact ⟨k,by simp; omega,by rw [(keep k hk).1]; exact e1,by rw [(keep k hk).2]; exact l⟩
theorem subRow_inv {K N i:Nat} {T:List Int}:∀ (m t:Nat) (sets:List (List Bool)) (words:List (List Int)),SubMid K N T i t sets words→t+m=K →
 (∃ w,subRow K N T i m t sets words=.orphan w∧OrphanIs K N T w)∨subRow K N T i m t sets words=.big ∨
 ∃ a b,subRow K N T i m t sets words=.on a b∧SubMid K N T i K a b
 | 0,t,sets,words,h,e=>by
  obtain rfl:t=K:=by omega
  exact .inr (.inr ⟨_,_,rfl,h⟩)
 | m+1,t,sets,words,h,e=>by
  unfold subRow
  rcases subStep_inv h (by omega) with ⟨w,q,hw⟩ | q | ⟨a,b,q,h2⟩
  ·rw [q]; exact .inl ⟨w,rfl,hw⟩
  ·rw [q]; exact .inr (.inl rfl)
  ·rw [q]; exact subRow_inv m (t+1) a b h2 (by omega)
theorem SubInv.mid {K N i:Nat} {T:List Int} {sets:List (List Bool)} {words:List (List Int)} (h:SubInv K N T i sets words) (hi:i<sets.length) (ht:∀ k,k<sets.length→(words.getD k []).length≤(words.getD i []).length+1):SubMid K N T i 0 sets words :=
 ⟨h,hi,ht,fun _ hs=>absurd hs (Nat.not_lt_zero _)⟩
def SubSays (K N:Nat) (T:List Int):SubR→Prop
 | .on _ _=>∀ y,Syms K y→(reachB K N T y).any id=true
 | .orphan w=>OrphanIs K N T w
 | .big=>True
theorem subGo_says {K N:Nat} {T:List Int}:∀ (f i:Nat) (sets:List (List Bool)) (words:List (List Int)),SubInv K N T i sets words→(i<sets.length→∀ k,k<sets.length→(words.getD k []).length≤(words.getD i []).length+1)→i+f=4097→i≤sets.length →
 SubSays K N T (subGo K N T f i sets words)
 | 0,i,sets,words,h,_,e,hi=>by have:=h.small; omega
 | f+1,i,sets,words,h,ht,e,hi=>by
  unfold subGo
  by_cases hl:i<sets.length
  ·rw [if_pos hl]
   rcases subRow_inv K 0 sets words (h.mid hl (ht hl)) (by omega) with ⟨w,q,hw⟩ | q | ⟨a,b,q,h2⟩
   ·rw [q]; exact hw
   ·rw [q]; trivial
   ·rw [q]
    have hcl:∀ j,j<i+1→∀ s,s<K→∃ k,k<a.length∧a.getD k []=behB K N T (a.getD j []) (s:Nat)∧(b.getD k []).length≤(b.getD j []).length+1:=by
     intro j hj s hs
     by_cases e:j=i
     ·subst e; exact h2.part s hs
     ·exact h2.close j (by omega) s hs
    have h3:SubInv K N T (i+1) a b:={ h2.toSubInv with close:=hcl }
    refine subGo_says f (i+1) a b h3 (fun hi1 k hk=>?_) (by omega) (by have:=h2.il; omega)
    have h4:=h2.top k hk
    have h5:=h2.mono i (i+1) (by omega) hi1
    omega
  ·rw [if_neg hl]
   obtain rfl:i=sets.length:=by omega
   have key:∀ y,Syms K y→∃ j,j<sets.length∧sets.getD j []=reachB K N T y:=fun y=>by
    refine snoc_indI (P:=fun y=>Syms K y→∃ j,j<sets.length∧sets.getD j []=reachB K N T y) ?_ ?_ y
    ·intro _; exact ⟨0,h.z0,by rw [h.z1,reachB_nil]⟩
    ·intro y s ih hs
     obtain ⟨sy,s0,s1⟩:=syms_snocI.1 hs
     obtain ⟨j,hj,e⟩:=ih sy
     obtain ⟨c,rfl⟩:=Int.eq_ofNat_of_zero_le s0
     obtain ⟨k,hk,ek,_⟩:=h.close j hj c (by omega)
     exact ⟨k,hk,by rw [ek,e,reachB_snoc]⟩
   intro y sy
   obtain ⟨j,hj,e⟩:=key y sy
   rw [← e]; exact h.ne j hj
theorem sub_says {K R:Nat} {T:List Int} (hr:RuleOk K R T):SubSays K (pw K (2*R)) T (subR K (pw K (2*R)) T):=by
 unfold subR
 have hp:=pw_pos (2*R) hr.k1
 have one:∀ j,j<[List.replicate (pw K (2*R)) true].length→j=0:=fun j hj=>by simp at hj; omega
 have hne:∀ j,j<[List.replicate (pw K (2*R)) true].length→([List.replicate (pw K (2*R)) true].getD j []).any id=true:=fun j hj=>by
  rw [one j hj]
  show (List.replicate (pw K (2*R)) true).any id=true
  obtain ⟨q,hq⟩:∃ q,pw K (2*R)=q+1:=⟨pw K (2*R)-1,by omega⟩
  rw [hq,List.replicate_succ]; rfl
 have hmono:∀ j k,j≤k→k<[List.replicate (pw K (2*R)) true].length→(([[]]:List (List Int)).getD j []).length≤(([[]]:List (List Int)).getD k []).length:=fun j k hjk hk=>by
  obtain rfl:=one k hk
  obtain rfl:j=0:=(by omega)
  exact Nat.le_refl _
 refine subGo_says 4097 0 _ _ ⟨rfl,by simp,rfl,rfl,fun j hj=>by rw [one j hj]; rfl,fun j hj=>(by rw [one j hj]; intro x hx; exact absurd hx (by simp)),hne,hmono,fun j hj=>absurd hj (Nat.not_lt_zero _),by simp⟩ (fun _ k hk=>by rw [one k hk]; simp) rfl (Nat.zero_le _)
theorem sub_on {K R:Nat} {T:List Int} (hr:RuleOk K R T) {a:List (List Bool)} {b:List (List Int)} (h:subR K (pw K (2*R)) T=.on a b):Onto K R T:=fun y sy=>by
 have:=sub_says hr
 rw [h] at this
 exact (reach_anyS hr y).1 (this y sy)
def OrphanLen (K R:Nat) (T:List Int) (n:Nat):Prop:=(∃ w,Syms K w∧w.length=n∧¬ HasPre K R T w)∧∀ y,Syms K y→y.length<n→HasPre K R T y
theorem OrphanLen.unique {K R:Nat} {T:List Int} {n m:Nat} (h:OrphanLen K R T n) (k:OrphanLen K R T m):n=m:=by
 obtain ⟨⟨w,sw,lw,hw⟩,h2⟩:=h
 obtain ⟨⟨v,sv,lv,hv⟩,k2⟩:=k
 rcases Nat.lt_trichotomy n m with q | q | q
 ·exact absurd (k2 w sw (by omega)) hw
 ·exact q
 ·exact absurd (h2 v sv (by omega)) hv
theorem sub_on_twins {K R:Nat} {T:List Int} (hr:RuleOk K R T) {a:List (List Bool)} {b:List (List Int)} (h:subR K (pw K (2*R)) T=.on a b):∀ x y,¬ IsTwins K R T x y:=(onto_iff_no_twins hr).1 (sub_on hr h)
open Go.RowKit
set_option maxRecDepth 100000
theorem oneBytes:OneCell 283 5 (.int .u8 0) 1:=⟨by kernel_rfl,by kernel_rfl,rfl,by decide,fun _=>by kernel_rfl⟩
theorem uByte:Tryz.prog.underlying 5=some (.int .u8):=by kernel_rfl
theorem uStr:Tryz.prog.underlying 9=some .string:=by kernel_rfl
theorem wpl_makeV0 {T E:TypeId} {z:Value} {b:Nat} (oc:OneCell T E z b) {w:World} {ops:Array Oper} {rest:List Oper} {o:Oper} {a:Act} {Q:Exit→Act→World→Prop}
 (hg:o.guard=none) (l c:Operand) (hop:o.op=Op.makeSlice T l c) (n:Nat) (hl:a.eval l=.int .i64 0) (hc:a.eval c=.int .i64 (n:Int)) (hC:n≤100000)
 (hK:∀ v w',OwnV E w.heap.size w' v []→Below w.heap.size w w'→wpList Tryz.prog ops Q rest (a.put o.dst v) w') :
 wpList Tryz.prog ops Q (o::rest) a w:=by
 obtain ⟨i,hi,hz0,hz1,hz2⟩:=info_parts oc.hi
 have hb:=oc.hb
 refine wpList_make_own w hg l c T hop w.heap.size E i z 1 oc.ht hi hz0 hz1 .i64 .i64 n n hl hc rfl (by
  rw [hz2]
  calc b*n≤32*100000:=Nat.mul_le_mul hb hC
   _≤_:=by decide) (by unfold maxLen; omega) (Nat.le_refl _) ?_
 intro w' hown hgrow
 exact hK _ _ hown ((Below.refl _ _).grown hgrow (Nat.le_refl _) (by intro k hk; cases hk))
theorem wpl_appV {T E:TypeId} {z:Value} {b:Nat} (oc:OneCell T E z b) {w:World} {ops:Array Oper} {rest:List Oper} {o:Oper} {a:Act} {Q:Exit→Act→World→Prop} (hgd:o.guard=none) (s x:Operand)
 (ho:o.op=.call { callee:=.builtin .append,args:=#[s,x],argTypes:=#[T,T] })
 (B:Nat) (v:Value) (xs:List Value) (y:Value) (hy:y.oneCell'=true) (hown:OwnV E B w v xs) (hs:a.eval s=v) (hx:a.eval x=.slice (some ⟨w.heap.size,0,none⟩) 1 1)
 (hlen:xs.length<4398046511104) (hB:B≤w.heap.size)
 (h:∀ v' w',OwnV E B w' v' (xs++[y])→Below B w w'→wpList Tryz.prog ops Q rest (a.put o.dst v') w') :
 wpList Tryz.prog ops Q (o::rest) a (w.alloc (.cells #[y] E)):=by
 refine wpList_plain hgd fun K hK=>?_
 obtain ⟨v',w',hr,h2,h3⟩:=run_app oc (w.alloc (.cells #[y] E)) B o.type v _ (hown.alloc _) ⟨w.heap.size,0,none⟩ 1 [y] (by simp) (cell_one_new _ _ _) (by simp [hy]) (by simp; omega) (by simp; omega)
 unfold Oper.wp execOp
 simp only [ho,resolve,invoke,builtin,Sem.run_bind,Sem.run_pure,Result.andThen_ok,List.map_toArray,List.map_cons,List.map_nil,hs,hx]
 rw [show ([y]:List Value).length=1 from rfl] at hr
 rw [hr]
 have hal:∀ row,w.grownBy (w.alloc (.cells #[y] E)) row:=fun row=>World.grownBy_alloc w _ row
 rcases h3 with ⟨_,hg⟩ | ⟨_,hg⟩
 ·exact hK _ _ (h v' w' h2 ((Below.refl _ _).grown ((hal v.ownBlock).trans hg) hB (fun k hk=>(hown.lt k hk).1)))
 ·exact hK _ _ (h v' w' h2 ((Below.refl _ _).grown ((hal none).trans hg) hB (by intro k hk; cases hk)))
end Go.Proofs.YtkaoebokbfcmhaaGreatDoor
namespace Go.Proofs.YtkaoebokbfcmhaaGreatDoor
open Go.RowKit
structure Row where
 E:TypeId
 size:Nat
 v:Value
 n:Nat
 xs:List Value
def Row.own (B:Nat) (w:World) (r:Row):Prop:=w.ownsRow B r.E r.size r.v r.n r.xs
abbrev Names:=Nat×Nat→Option Row
def Rows (B:Nat) (w:World) (f:Names):Prop :=
 (∀ i r,f i=some r→r.own B w)∧(∀ i j r s,f i=some r→f j=some s→i≠j→r.v.ownBlock=none∨r.v.ownBlock≠s.v.ownBlock)
def upd (f:Names) (i:Nat×Nat) (r:Option Row):Names:=fun j=>if j=i then r else f j
theorem upd_same (f:Names) (i:Nat×Nat) (r:Option Row):upd f i r i=r:=by simp [upd]
theorem upd_ne (f:Names) {i j:Nat×Nat} (r:Option Row) (h:j≠i):upd f i r j=f j:=by simp [upd,h]
theorem Rows.void (B:Nat) (w:World):Rows B w (fun _=>Option.none):=by
 refine ⟨?_,?_⟩
 ·intro i r h; cases h
 ·intro i j r s h; cases h
theorem Rows.below {B:Nat} {w w':World} {f:Names} (h:Rows B w f) (hb:Below w.heap.size w w'):Rows B w' f :=
 ⟨fun i r hi=>by
   have ho:=h.1 i r hi
   refine ⟨ho.1,?_⟩
   rcases ho.2 with h2 | ⟨g,cap,cur,e,hB,hg,rest⟩
   ·exact .inl h2
   ·exact .inr ⟨g,cap,cur,e,hB,by rw [hb.block g (Array.getElem?_eq_some_iff.1 hg).1]; exact hg,rest⟩,h.2⟩
theorem Rows.drop {B:Nat} {w:World} {f:Names} (h:Rows B w f) (i:Nat×Nat):Rows B w (upd f i none) :=
 ⟨fun j r hj=>by
   by_cases e:j=i
   ·subst e; rw [upd_same] at hj; cases hj
   ·rw [upd_ne _ _ e] at hj; exact h.1 j r hj,fun j k r s hj hk hne=>by
   by_cases e:j=i
   ·subst e; rw [upd_same] at hj; cases hj
   by_cases e':k=i
   ·subst e'; rw [upd_same] at hk; cases hk
   rw [upd_ne _ _ e] at hj
   rw [upd_ne _ _ e'] at hk
   exact h.2 j k r s hj hk hne⟩
theorem Rows.lt {B:Nat} {w:World} {f:Names} (h:Rows B w f) {i:Nat×Nat} {r:Row} (hi:f i=some r):∀ k,r.v.ownBlock=some k→B≤k∧k<w.heap.size:=World.ownsRow.lt (h.1 i r hi)
theorem Rows.grown {B:Nat} {w w':World} {f:Names} {i:Nat×Nat} {r r':Row} (h:Rows B w f) (hi:f i=some r) (hg:w.grownBy w' r.v.ownBlock) (ho:r'.own B w') (hb:r'.v.ownBlock=r.v.ownBlock∨∃ k,r'.v.ownBlock=some k∧w.heap.size≤k) :
 Rows B w' (upd f i (some r')):=by
 have far:∀ j s,f j=some s→j≠i→s.v.ownBlock=none∨s.v.ownBlock≠r'.v.ownBlock:=fun j s hj hne=>by
  rcases hb with e | ⟨k,e,hk⟩
  ·rw [e]; exact h.2 j i s r hj hi hne
  ·cases hs:s.v.ownBlock with
   | none=>exact .inl rfl
   | some m =>
    have:=(h.lt hj m hs).2
    right; rw [e]; intro e2; injection e2 with e2; omega
 refine ⟨fun j s hj=>?_,fun j k s t hj hk hne=>?_⟩
 ·by_cases e:j=i
  ·subst e; rw [upd_same] at hj; cases hj; exact ho
  ·rw [upd_ne _ _ e] at hj
   exact World.ownsRow.kept (h.1 j s hj) hg (h.2 j i s r hj hi e)
 ·by_cases e:j=i
  ·subst e
   rw [upd_same] at hj; cases hj
   rw [upd_ne _ _ (Ne.symm hne)] at hk
   rcases far k t hk (Ne.symm hne) with e2 | e2
   ·cases hr:r'.v.ownBlock with
    | none=>exact .inl rfl
    | some m=>right; rw [e2]; simp
   ·exact .inr (Ne.symm e2)
  ·rw [upd_ne _ _ e] at hj
   by_cases e':k=i
   ·subst e'; rw [upd_same] at hk; cases hk
    exact far j s hj e
   ·rw [upd_ne _ _ e'] at hk
    exact h.2 j k s t hj hk hne
theorem Rows.fresh {B:Nat} {w w':World} {f:Names} {i:Nat×Nat} {r':Row} (h:Rows B w f) (hg:w.grownBy w' none) (ho:r'.own B w') (hb:∀ k,r'.v.ownBlock=some k→w.heap.size≤k) :
 Rows B w' (upd f i (some r')):=by
 refine ⟨fun j s hj=>?_,fun j k s t hj hk hne=>?_⟩
 ·by_cases e:j=i
  ·subst e; rw [upd_same] at hj; cases hj; exact ho
  ·rw [upd_ne _ _ e] at hj
   exact World.ownsRow.kept (h.1 j s hj) hg (by cases s.v.ownBlock<;>simp)
 ·by_cases e:j=i
  ·subst e
   rw [upd_same] at hj; cases hj
   rw [upd_ne _ _ (Ne.symm hne)] at hk
   cases hr:r'.v.ownBlock with
   | none=>exact .inl rfl
   | some m =>
    right; intro e2
    have h1:=hb m hr
    have h2:=(h.lt hk m e2.symm).2
    omega
  ·rw [upd_ne _ _ e] at hj
   by_cases e':k=i
   ·subst e'; rw [upd_same] at hk; cases hk
    cases hs:s.v.ownBlock with
    | none=>exact .inl rfl
    | some m =>
     right; intro e2
     have h1:=hb m e2.symm
     have h2:=(h.lt hj m hs).2
     omega
   ·rw [upd_ne _ _ e'] at hk
    exact h.2 j k s t hj hk hne
theorem below_grows {w w':World} (h:Below w.heap.size w w') (row:Option Nat):w.grownBy w' row:=⟨h.os,h.tape,h.output,h.size,fun k hk _=>h.block k hk⟩
theorem grown_any {w w':World} (h:w.grownBy w' none) (row:Option Nat):w.grownBy w' row:=⟨h.os,h.tape,h.output,h.size,fun k hk _=>h.block k hk (by simp)⟩
theorem Rows.add {B:Nat} {w w':World} {f:Names} {i:Nat×Nat} {r':Row} (h:Rows B w f) (hb:Below w.heap.size w w') (ho:r'.own B w') (hn:∀ k,r'.v.ownBlock=some k→w.heap.size≤k):Rows B w' (upd f i (some r')) :=
 h.fresh (below_grows hb none) ho hn
theorem Rows.move {B:Nat} {w:World} {f:Names} {i j:Nat×Nat} {r r':Row} (h:Rows B w f) (hi:f i=some r) (ho:r'.own B w) (hb:r'.v.ownBlock=r.v.ownBlock):Rows B w (upd (upd f i none) j (some r')):=by
 refine ⟨fun k s hk=>?_,fun k l s t hk hl hne=>?_⟩
 ·by_cases e:k=j
  ·subst e; rw [upd_same] at hk; cases hk; exact ho
  ·rw [upd_ne _ _ e] at hk
   exact (h.drop i).1 k s hk
 ·by_cases e:k=j
  ·subst e
   rw [upd_same] at hk; cases hk
   rw [upd_ne _ _ (Ne.symm hne)] at hl
   by_cases e2:l=i
   ·subst e2; rw [upd_same] at hl; cases hl
   ·rw [upd_ne _ _ e2] at hl
    rw [hb]
    exact h.2 i l r t hi hl (Ne.symm e2)
  ·rw [upd_ne _ _ e] at hk
   by_cases e':l=j
   ·subst e'; rw [upd_same] at hl; cases hl
    by_cases e2:k=i
    ·subst e2; rw [upd_same] at hk; cases hk
    ·rw [upd_ne _ _ e2] at hk
     rw [hb]
     exact h.2 k i s r hk hi e2
   ·rw [upd_ne _ _ e'] at hl
    exact (h.drop i).2 k l s t hk hl hne
theorem Row.own.shape {B:Nat} {w:World} {r:Row} (h:r.own B w) (hn:0<r.n):∃ g cap,r.v=.slice (some ⟨g,0,none⟩) r.n cap∧B≤g:=by
 rcases h.2 with ⟨_,h0⟩ | ⟨g,cap,cur,e,hB,_⟩
 ·omega
 ·exact ⟨g,cap,e,hB⟩
theorem Rows.set {B:Nat} {w:World} {f:Names} {i:Nat×Nat} {r:Row} (h:Rows B w f) (hi:f i=some r) {g cap:Nat} (hv:r.v=.slice (some ⟨g,0,none⟩) r.n cap) (k:Nat) (y:Value) :
 Rows B (w.setCell ⟨g,k,none⟩ y) (upd f i (some { r with xs:=r.xs.set k y })):=by
 have ho:=h.1 i r hi
 unfold Row.own at ho
 rw [hv] at ho
 have hs:=World.ownsRow.stored ho k y
 refine h.grown hi (by rw [hv]; exact hs.2) ?_ (.inl rfl)
 unfold Row.own
 rw [hv]
 exact hs.1
theorem Rows.cell {B:Nat} {w:World} {f:Names} {i:Nat×Nat} {r:Row} (h:Rows B w f) (hi:f i=some r) {g cap:Nat} (hv:r.v=.slice (some ⟨g,0,none⟩) r.n cap) (k:Nat) (hk:k<r.n*r.size):w.cell? ⟨g,k,none⟩=r.xs[k]?:=by
 have ho:=h.1 i r hi
 unfold Row.own at ho
 rw [hv] at ho
 exact ho.cellAt k hk
theorem Rows.frozen {B:Nat} {w:World} {f:Names} {i:Nat×Nat} {r:Row} (h:Rows B w f) (hi:f i=some r) {g cap:Nat} (hv:r.v=.slice (some ⟨g,0,none⟩) r.n cap) (k:Nat):w.frozen? ⟨g,k,none⟩=false:=by
 have ho:=h.1 i r hi
 unfold Row.own at ho
 rw [hv] at ho
 exact ho.frozenAt k
theorem Rows.congr {B:Nat} {w:World} {f f':Names} (h:Rows B w f) (e:∀ i,f' i=f i):Rows B w f':=by
 rw [show f'=f from funext e]; exact h
theorem Rows.drew {B:Nat} {w:World} {f:Names} (h:Rows B w f):Rows B w.drew f:=h
theorem Rows.drewN {B:Nat} {w:World} {f:Names} (h:Rows B w f) (n:Nat):Rows B (w.drewN n) f:=h
abbrev rowI (v:Value) (xs:List Int):Row:=⟨3,1,v,xs.length,xs.map (Value.int .i64)⟩
abbrev rowV (E:TypeId) (v:Value) (vs:List Value):Row:=⟨E,1,v,vs.length,vs⟩
theorem Rows.ownI {B:Nat} {w:World} {f:Names} {i:Nat×Nat} {v:Value} {xs:List Int} (h:Rows B w f) (hi:f i=some (rowI v xs)):OwnI B w v xs:=h.1 i _ hi
theorem Rows.ownV {B:Nat} {w:World} {f:Names} {i:Nat×Nat} {E:TypeId} {v:Value} {vs:List Value} (h:Rows B w f) (hi:f i=some (rowV E v vs)):OwnV E B w v vs:=h.1 i _ hi
theorem Rows.setI {B:Nat} {w:World} {f:Names} {i:Nat×Nat} {v:Value} {xs:List Int} (h:Rows B w f) (hi:f i=some (rowI v xs)) (k:Nat) (hk:k<xs.length) (y:Int) :
 Rows B (w.setCell (valAt v k) (.int .i64 y)) (upd f i (some (rowI v (xs.set k y)))):=by
 have ho:=h.ownI hi
 have hs:=ho.set k hk y
 refine h.grown hi ?_ hs (.inl rfl)
 have:=ho.toV.setGrown k (by simpa using hk) (.int .i64 y)
 exact this
theorem Rows.setV {B:Nat} {w:World} {f:Names} {i:Nat×Nat} {E:TypeId} {v:Value} {vs:List Value} (h:Rows B w f) (hi:f i=some (rowV E v vs)) (k:Nat) (hk:k<vs.length) (y:Value) :
 Rows B (w.setCell (valAt v k) y) (upd f i (some (rowV E v (vs.set k y)))):=by
 have ho:=h.ownV hi
 refine h.grown hi (ho.setGrown k hk y) ?_ (.inl rfl)
 have:=ho.set k hk y
 unfold Row.own
 exact this
end Go.Proofs.YtkaoebokbfcmhaaGreatDoor
namespace Go.Proofs.YtkaoebokbfcmhaaGreatDoor
def bitsN:List Bool→Nat
 | []=>0
 | b::l=>b.toNat+2*bitsN l
theorem bitsN_testBit:∀ (l:List Bool) (i:Nat),(bitsN l).testBit i=l.getD i false
 | [],i=>by simp [bitsN]
 | b::l,0=>by
  unfold bitsN
  rw [Nat.testBit_zero]
  cases b<;>simp
 | b::l,i+1=>by
  unfold bitsN
  rw [Nat.testBit_succ,show (b.toNat+2*bitsN l)/2=bitsN l by cases b<;>simp<;>omega,bitsN_testBit l i]
  simp
theorem bitsN_lt:∀ (l:List Bool),bitsN l<2 ^ l.length
 | []=>by simp [bitsN]
 | b::l=>by
  have:=bitsN_lt l
  unfold bitsN
  rw [List.length_cons,Nat.pow_succ]
  have:b.toNat≤1:=Bool.toNat_le b
  omega
theorem bitsN_zero (n:Nat):bitsN (List.replicate n false)=0:=by
 induction n with
 | zero=>rfl
 | succ n ih=>rw [List.replicate_succ]; simp [bitsN,ih]
def wordB (l:List Bool) (w:Nat):Nat:=bitsN ((l.drop (64*w)).take 64)
def wordsB (l:List Bool):List Nat:=(List.range ((l.length+63)/64)).map (wordB l)
theorem wordsB_len (l:List Bool):(wordsB l).length=(l.length+63)/64:=by simp [wordsB]
theorem wordsB_get {l:List Bool} {w:Nat} (h:w<(l.length+63)/64):(wordsB l).getD w 0=wordB l w:=by simp [wordsB,List.getD,h]
theorem wordB_lt (l:List Bool) (w:Nat):wordB l w<2 ^ 64:=by
 refine Nat.lt_of_lt_of_le (bitsN_lt _) (Nat.pow_le_pow_right (by decide) ?_)
 rw [List.length_take]; omega
theorem wordB_testBit {l:List Bool} {w j:Nat} (hj:j<64):(wordB l w).testBit j=l.getD (64*w+j) false:=by
 unfold wordB
 rw [bitsN_testBit,List.getD_eq_getElem?_getD,List.getD_eq_getElem?_getD,List.getElem?_take,if_pos hj,List.getElem?_drop]
theorem wordB_set {l:List Bool} {x:Nat} (h:x<l.length) (w:Nat):wordB (l.set x true) w=if w=x/64 then wordB l w ||| 2 ^ (x%64) else wordB l w:=by
 refine Nat.eq_of_testBit_eq fun j=>?_
 by_cases hj:j<64
 ·rw [wordB_testBit hj]
  split
  ·rename_i e
   rw [Nat.testBit_or,wordB_testBit hj,Nat.testBit_two_pow]
   by_cases e2:x=64*w+j
   ·have e3:x%64=j:=by omega
    rw [← e2]
    simp [List.getD,h,e3]
   ·have e3:¬ x%64=j:=by omega
    simp [List.getD,List.getElem?_set_ne e2,e3]
  ·rename_i e
   rw [wordB_testBit hj]
   have e2:x≠64*w+j:=by omega
   simp [List.getD,List.getElem?_set_ne e2]
 ·have big:∀ m,m<2 ^ 64→m.testBit j=false:=fun m hm=>Nat.testBit_lt_two_pow (Nat.lt_of_lt_of_le hm (Nat.pow_le_pow_right (by decide) (by omega)))
  rw [big _ (wordB_lt _ _)]
  split
  ·rw [Nat.testBit_or,big _ (wordB_lt _ _),Nat.testBit_two_pow]
   have:¬ x%64=j:=by omega
   simp [this]
  ·rw [big _ (wordB_lt _ _)]
theorem wordsB_set {l:List Bool} {x:Nat} (h:x<l.length):wordsB (l.set x true)=(wordsB l).set (x/64) (wordB l (x/64) ||| 2 ^ (x%64)):=by
 refine List.ext_getElem (by simp [wordsB_len]) fun i h1 h2=>?_
 rw [List.getElem_set]
 simp only [wordsB,List.getElem_map,List.getElem_range]
 rw [wordB_set h]
 by_cases e:i=x/64
 ·subst e; simp
 ·rw [if_neg e,if_neg (fun q=>e q.symm)]
theorem wordsB_zero (n:Nat):wordsB (List.replicate n false)=List.replicate ((n+63)/64) 0:=by
 unfold wordsB
 refine List.ext_getElem (by simp) fun i h1 h2=>?_
 simp only [List.getElem_map,List.getElem_range,List.getElem_replicate]
 unfold wordB
 rw [List.drop_replicate,List.take_replicate]
 exact bitsN_zero _
def bytesW (w:Nat):List Nat:=(List.range 8).map fun i=>w/256 ^ i%256
theorem bytesW_len (w:Nat):(bytesW w).length=8:=by simp [bytesW]
theorem bytesW_testBit {w i b:Nat} (hb:b<8):(w/256 ^ i%256).testBit b=w.testBit (8*i+b):=by
 rw [show (256:Nat)=2 ^ 8 from rfl,← Nat.pow_mul,Nat.testBit_mod_two_pow,Nat.testBit_div_two_pow]
 simp [hb,Nat.add_comm]
theorem bytesW_inj {w v:Nat} (hw:w<2 ^ 64) (hv:v<2 ^ 64) (h:bytesW w=bytesW v):w=v:=by
 refine Nat.eq_of_testBit_eq fun j=>?_
 by_cases hj:j<64
 ·have hi:j/8<8:=by omega
  have e:=congrArg (fun l:List Nat=>l.getD (j/8) 0) h
  simp only [bytesW,List.getD_eq_getElem?_getD,List.getElem?_map,List.getElem?_range hi,Option.map_some,Option.getD_some] at e
  have e2:=congrArg (fun m:Nat=>m.testBit (j%8)) e
  rw [bytesW_testBit (Nat.mod_lt _ (by decide)),bytesW_testBit (Nat.mod_lt _ (by decide)),Nat.div_add_mod] at e2
  exact e2
 ·have big:∀ m,m<2 ^ 64→m.testBit j=false:=fun m hm=>Nat.testBit_lt_two_pow (Nat.lt_of_lt_of_le hm (Nat.pow_le_pow_right (by decide) (by omega)))
  rw [big _ hw,big _ hv]
def keyB (ws:List Nat):List Nat:=ws.flatMap bytesW
theorem keyB_inj:∀ {ws vs:List Nat},(∀ w∈ws,w<2 ^ 64)→(∀ w∈vs,w<2 ^ 64)→ws.length=vs.length→keyB ws=keyB vs→ws=vs
 | [],[],_,_,_,_=>rfl
 | w::ws,v::vs,hw,hv,hl,h=>by
  unfold keyB at h
  rw [List.flatMap_cons,List.flatMap_cons] at h
  obtain ⟨h1,h2⟩:=List.append_inj h (by rw [bytesW_len,bytesW_len])
  rw [bytesW_inj (hw w (by simp)) (hv v (by simp)) h1,keyB_inj (fun x hx=>hw x (by simp [hx])) (fun x hx=>hv x (by simp [hx])) (by simpa using hl) h2]
theorem wordsB_lt (l:List Bool):∀ w∈wordsB l,w<2 ^ 64:=fun w hw=>by
 obtain ⟨i,_,rfl⟩:=List.mem_map.1 hw
 exact wordB_lt _ _
theorem wordsB_inj {l m:List Bool} (hl:l.length=m.length) (h:wordsB l=wordsB m):l=m:=by
 refine List.ext_getElem hl fun i h1 h2=>?_
 have hi:i/64<(l.length+63)/64:=by omega
 have e:=congrArg (fun q:List Nat=>(q.getD (i/64) 0).testBit (i%64)) h
 rw [wordsB_get hi,wordsB_get (by omega),wordB_testBit (Nat.mod_lt _ (by decide)),wordB_testBit (Nat.mod_lt _ (by decide)),Nat.div_add_mod] at e
 simpa [List.getD,h1,h2] using e
theorem key_inj {l m:List Bool} (hl:l.length=m.length) (h:keyB (wordsB l)=keyB (wordsB m)):l=m :=
 wordsB_inj hl (keyB_inj (wordsB_lt l) (wordsB_lt m) (by rw [wordsB_len,wordsB_len,hl]) h)
theorem bit_at (l:List Bool) (x:Nat):wordB l (x/64)/2 ^ (x%64) &&& 1=if l.getD x false=true then 1 else 0:=by
 have h:=wordB_testBit (l:=l) (w:=x/64) (j:=x%64) (Nat.mod_lt _ (by decide))
 rw [Nat.div_add_mod,Nat.testBit_eq_decide_div_mod_eq] at h
 rw [Nat.and_one_is_mod]
 cases hb:l.getD x false with
 | true =>
  rw [hb] at h
  rw [if_pos rfl]; exact of_decide_eq_true h
 | false =>
  rw [hb] at h
  have:=of_decide_eq_false h
  rw [if_neg (by decide)]; omega
theorem keyB_snoc (ws:List Nat) (w:Nat):keyB (ws++[w])=keyB ws++bytesW w:=by simp [keyB]
theorem bytesW_take (w i:Nat) (h:i<8):(bytesW w).take (i+1)=(bytesW w).take i++[w/256 ^ i%256]:=by
 rw [List.take_add_one]
 simp [bytesW,h]
theorem keyB_len (ws:List Nat):(keyB ws).length=8*ws.length:=by
 induction ws with
 | nil=>rfl
 | cons w ws ih=>unfold keyB at *; rw [List.flatMap_cons,List.length_append,bytesW_len,ih,List.length_cons]; omega
def memB (l:List Bool) (n:Nat):List Nat:=(List.range n).filter fun x=>l.getD x false
theorem memB_succ (l:List Bool) (n:Nat):memB l (n+1)=memB l n++if l.getD n false then [n] else []:=by
 unfold memB
 rw [List.range_succ,List.filter_append]
 congr 1
 by_cases h:l.getD n false=true
 ·rw [if_pos h,List.filter_cons,if_pos h]; rfl
 ·rw [if_neg h,List.filter_cons,if_neg h]; rfl
def setOf (n:Nat) (xs:List Nat):List Bool:=xs.foldl (fun l x=>l.set x true) (List.replicate n false)
theorem setOf_snoc (n:Nat) (xs:List Nat) (x:Nat):setOf n (xs++[x])=(setOf n xs).set x true:=by simp [setOf]
theorem setOf_len (n:Nat) (xs:List Nat):(setOf n xs).length=n:=by
 unfold setOf
 have key:∀ (xs:List Nat) (l:List Bool),(xs.foldl (fun l x=>l.set x true) l).length=l.length:=by
  intro xs
  induction xs with
  | nil=>intro l; rfl
  | cons x xs ih=>intro l; rw [List.foldl_cons,ih,List.length_set]
 rw [key,List.length_replicate]
theorem setOf_get {n:Nat} {xs:List Nat} {v:Nat} (hv:v<n):(setOf n xs).getD v false=decide (v∈xs):=by
 unfold setOf
 have key:∀ (xs:List Nat) (l:List Bool),l.length=n→(xs.foldl (fun l x=>l.set x true) l).getD v false=(l.getD v false||decide (v∈xs)):=by
  intro xs
  induction xs with
  | nil=>intro l _; simp
  | cons x xs ih =>
   intro l hl
   rw [List.foldl_cons,ih _ (by rw [List.length_set]; exact hl)]
   by_cases e:x=v
   ·subst e; simp [List.getD,hl,hv]
   ·have e2:¬ v=x:=fun q=>e q.symm
    simp [List.getD,List.getElem?_set_ne e,e2]
 rw [key _ _ (by simp)]
 simp [List.getD,hv]
theorem setOf_all (n:Nat):setOf n (List.range n)=List.replicate n true:=by
 refine List.ext_getElem (by rw [setOf_len,List.length_replicate]) fun i h1 h2=>?_
 rw [setOf_len] at h1
 have:=setOf_get (n:=n) (xs:=List.range n) h1
 rw [List.getD_eq_getElem?_getD,List.getElem?_eq_getElem (by rw [setOf_len]; exact h1),Option.getD_some] at this
 rw [this]; simp [h1]
def updM (M:Int→Option Int) (p x:Int):Int→Option Int:=fun q=>if q=p then some x else M q
def numM (p:Nat→Int):Nat→(Int→Option Int)×Nat
 | 0=>(fun _=>none,0)
 | k+1=>if ((numM p k).1 (p k)).isSome then numM p k else (updM (numM p k).1 (p k) ((numM p k).2:Int),(numM p k).2+1)
def numO (p:Nat→Int) (k:Nat):Int:=((numM p (k+1)).1 (p k)).getD 0
theorem numM_keep (p:Nat→Int) {q x:Int} (k:Nat) (h:(numM p k).1 q=some x):∀ d,(numM p (k+d)).1 q=some x
 | 0=>h
 | d+1=>by
  have ih:=numM_keep p k h d
  show (numM p (k+d+1)).1 q=some x
  simp only [numM]
  split
  ·exact ih
  ·next hn =>
   show updM _ _ _ q=some x
   unfold updM
   by_cases e:q=p (k+d)
   ·subst e; rw [ih] at hn; exact absurd rfl hn
   ·rw [if_neg e]; exact ih
theorem numM_own (p:Nat→Int) (k:Nat):(numM p (k+1)).1 (p k)=some (numO p k):=by
 unfold numO
 have:((numM p (k+1)).1 (p k)).isSome:=by
  simp only [numM]
  split
  ·next h=>exact h
  ·simp [updM]
 obtain ⟨x,hx⟩:=Option.isSome_iff_exists.1 this
 rw [hx]; rfl
theorem numM_below (p:Nat→Int):∀ k q x,(numM p k).1 q=some x→0≤x∧x<(numM p k).2
 | 0,q,x,h=>by cases h
 | k+1,q,x,h=>by
  have ih:=numM_below p k q x
  simp only [numM] at h ⊢
  split at h
  ·next hs=>rw [if_pos hs]; exact ih h
  ·next hs =>
   rw [if_neg hs]
   simp only [updM] at h ⊢
   by_cases e:q=p k
   ·rw [if_pos e] at h; injection h with h; omega
   ·rw [if_neg e] at h; have:=ih h; omega
theorem numM_inj (p:Nat→Int):∀ k q q' x,(numM p k).1 q=some x→(numM p k).1 q'=some x→q=q'
 | 0,q,q',x,h,_=>by cases h
 | k+1,q,q',x,h,h'=>by
  have ih:=numM_inj p k q q' x
  simp only [numM] at h h'
  split at h
  ·next hs=>rw [if_pos hs] at h'; exact ih h h'
  ·next hs =>
   rw [if_neg hs] at h'
   simp only [updM] at h h'
   by_cases e:q=p k<;>by_cases e':q'=p k
   ·rw [e,e']
   ·rw [if_pos e] at h; rw [if_neg e'] at h'
    have:=numM_below p k q' x h'
    injection h with h; omega
   ·rw [if_neg e] at h; rw [if_pos e'] at h'
    have:=numM_below p k q x h
    injection h' with h'; omega
   ·rw [if_neg e] at h; rw [if_neg e'] at h'; exact ih h h'
theorem numO_eq (p:Nat→Int) (i j:Nat):numO p i=numO p j↔p i=p j:=by
 have key:∀ i d,(numM p (i+1+d)).1 (p i)=some (numO p i):=fun i d=>numM_keep p (i+1) (numM_own p i) d
 have hi:=key i j
 have hj:=key j i
 rw [show j+1+i=i+1+j by omega] at hj
 constructor
 ·intro h; rw [h] at hi; exact numM_inj p _ _ _ _ hi hj
 ·intro h; rw [h] at hi; rw [hi] at hj; injection hj
def PartsOf (n:Nat) (adj:Nat→List Nat) (ps:List Int):Prop :=
 ∃ p:Nat→Int,(∀ x y,x<n→y<n→(p x=p y↔Goes adj x y∧Goes adj y x))∧ps=(List.range n).map (numO p)
theorem PartsOf.len {n:Nat} {adj:Nat→List Nat} {ps:List Int} (h:PartsOf n adj ps):ps.length=n:=by
 obtain ⟨p,_,rfl⟩:=h; simp
theorem PartsOf.eq {n:Nat} {adj:Nat→List Nat} {ps:List Int} (h:PartsOf n adj ps) {x y:Nat} (hx:x<n) (hy:y<n):ps.getD x 0=ps.getD y 0↔Goes adj x y∧Goes adj y x:=by
 obtain ⟨p,hp,rfl⟩:=h
 simp only [List.getD_eq_getElem?_getD,List.getElem?_map,List.getElem?_range hx,List.getElem?_range hy,Option.map_some,Option.getD_some]
 rw [numO_eq,hp x y hx hy]
open Go.RowKit Go.Maps Go.WideMaps
set_option maxRecDepth 100000
theorem uMapB:Tryz.prog.underlying 253=some (.map 9 3):=by kernel_rfl
theorem keyedB:Keyed Tryz.prog 9:=string_keyed uStr
theorem zeroB (w:World):(zeroValue 3).run Tryz.prog w=.ok (.int .i64 0) w:=by kernel_rfl
def heldB (v:Value):Option (DataW Value×List MemPlace):=some (.held v,[])
def numsK (ws:List Nat):List Int:=(keyB ws).map fun n:Nat=>(n:Int)
def txtK (ws:List Nat):ByteArray:=strOfNums (numsK ws)
def keyK (ws:List Nat):Lit:=.string (txtK ws).data.toList
theorem txtK_size (ws:List Nat):(txtK ws).size=8*ws.length:=by
 unfold txtK; rw [strOfNums_size]; unfold numsK; rw [List.length_map,keyB_len]
theorem keyK_of {ws:List Nat} (h:ws.length≤4096):keyOf Tryz.prog 9 (.string (txtK ws))=some (keyK ws):=keyOf_string_mk uStr (by rw [txtK_size]; unfold maxLen; omega)
theorem keyB_byte (ws:List Nat):∀ b∈keyB ws,b<256:=fun b hb=>by
 unfold keyB at hb
 obtain ⟨w,_,hb⟩:=List.mem_flatMap.1 hb
 unfold bytesW at hb
 obtain ⟨i,_,rfl⟩:=List.mem_map.1 hb
 exact Nat.mod_lt _ (by decide)
theorem keyK_inj {l m:List Bool} (hl:l.length=m.length) (h:keyK (wordsB l)=keyK (wordsB m)):l=m:=by
 have h2:(txtK (wordsB l)).data.toList=(txtK (wordsB m)).data.toList:=by injection h
 unfold txtK at h2
 rw [strOfNums_data,strOfNums_data] at h2
 unfold numsK at h2
 rw [List.map_map,List.map_map] at h2
 have key:∀ (a b:List Nat),(∀ x∈a,x<256)→(∀ x∈b,x<256)→a.map ((fun n:Int=>UInt8.ofNat n.toNat) ∘ fun n:Nat=>(n:Int))=b.map ((fun n:Int=>UInt8.ofNat n.toNat) ∘ fun n:Nat=>(n:Int))→a=b:=by
  intro a
  induction a with
  | nil =>
   intro b _ _ h
   cases b with
   | nil=>rfl
   | cons _ _=>simp at h
  | cons p a ih =>
   intro b ha hb h
   cases b with
   | nil=>simp at h
   | cons q b =>
    rw [List.map_cons,List.map_cons] at h
    injection h with h1 h2
    have e1:=ha p List.mem_cons_self
    have e2:=hb q List.mem_cons_self
    have:p=q:=by
     have h3:=congrArg UInt8.toNat h1
     simp only [Function.comp,UInt8.toNat_ofNat',Int.toNat_natCast] at h3
     omega
    rw [this,ih b (fun z hz=>ha z (List.mem_cons_of_mem _ hz)) (fun z hz=>hb z (List.mem_cons_of_mem _ hz)) h2]
 exact key_inj hl (key _ _ (keyB_byte _) (keyB_byte _) h2)
def BagMap (w:World) (b n:Nat) (sets:List (List Bool)):Prop :=
 ∃ D:DataW Value,w.ownsMap Tryz.prog 9 heldB b sets.length D∧(∀ y,y.length=n→(Maps.has D (keyK (wordsB y))=true↔y∈sets))∧∀ i,i<sets.length→D.atKey (keyK (wordsB (sets.getD i []))) (.held (.int .i64 0))=.held (.int .i64 (i:Nat))
theorem BagMap.made (w:World) (n:Nat):BagMap (w.alloc (.map #[] 0)) w.heap.size n [] :=
 ⟨_,World.ownsMap_made w Tryz.prog 9 _,fun y _=>⟨fun h=>(by cases h),fun h=>(by cases h)⟩,fun i hi=>absurd hi (Nat.not_lt_zero _)⟩
section
variable {w:World} {b n:Nat} {sets:List (List Bool)}
theorem BagMap.blk (h:BagMap w b n sets):∃ es c,w.heap[b]?=some (.map es c):=by
 obtain ⟨D,⟨es,c,hb,_⟩,_⟩:=h
 exact ⟨es,c,hb⟩
theorem BagMap.lt (h:BagMap w b n sets):b<w.heap.size:=by
 obtain ⟨D,h1,_⟩:=h
 exact h1.lt
theorem BagMap.below {w':World} (h:BagMap w b n sets) (hb:Below w.heap.size w w'):BagMap w' b n sets:=by
 obtain ⟨D,h1,h2⟩:=h
 refine ⟨D,?_,h2⟩
 have hlt:=h1.lt
 obtain ⟨es,clock,hb',F,hs,hD⟩:=h1
 exact ⟨es,clock,(hb.block b hlt).trans hb',F,hs,hD⟩
theorem BagMap.kept {w':World} {row:Option Nat} (h:BagMap w b n sets) (hg:w.grownBy w' row) (hne:some b≠row):BagMap w' b n sets:=by
 obtain ⟨D,h1,h2⟩:=h
 exact ⟨D,h1.kept hg hne,h2⟩
theorem BagMap.hit (h:BagMap w b n sets) {y:List Bool} (hm:y∈sets) (hl:y.length=n) (hn:n≤4096) :
 (Instr.lookup 253 (.map (some b)) (.string (txtK (wordsB y))) true).run Tryz.prog w=.ok (.tuple #[.int .i64 (sets.idxOf y:Nat),.bool true]) w:=by
 obtain ⟨D,h1,h2,h3⟩:=h
 have hk:=List.idxOf_lt_length_of_mem hm
 have e0:sets.getD (sets.idxOf y) []=y:=by
  rw [List.getD_eq_getElem?_getD,List.getElem?_eq_getElem hk,Option.getD_some]
  exact List.getElem_idxOf hk
 have h4:=h3 _ hk
 rw [e0] at h4
 obtain ⟨v,ps,hr,hv⟩:=h1.look_ok keyedB uMapB (zeroB w) (zd:=.held (.int .i64 0)) (zp:=[]) rfl (keyK_of (ws:=wordsB y) (by rw [wordsB_len]; omega))
 rw [h4] at hv
 unfold heldB at hv
 have e1:=Option.some.inj hv
 have e2:DataW.held v=DataW.held (Value.int .i64 (sets.idxOf y:Nat)):=congrArg Prod.fst e1
 have e:v=Value.int .i64 (sets.idxOf y:Nat):=by injection e2
 rw [hr,e,(h2 _ hl).2 hm]
theorem BagMap.miss (h:BagMap w b n sets) {y:List Bool} (hm:y∉sets) (hl:y.length=n) (hn:n≤4096) :
 ∃ v,(Instr.lookup 253 (.map (some b)) (.string (txtK (wordsB y))) true).run Tryz.prog w=.ok (.tuple #[v,.bool false]) w:=by
 obtain ⟨D,h1,h2,h3⟩:=h
 obtain ⟨v,ps,hr,hv⟩:=h1.look_ok keyedB uMapB (zeroB w) (zd:=.held (.int .i64 0)) (zp:=[]) rfl (keyK_of (ws:=wordsB y) (by rw [wordsB_len]; omega))
 have:Maps.has D (keyK (wordsB y))=false:=by
  cases hh:Maps.has D (keyK (wordsB y)) with
  | false=>rfl
  | true=>exact absurd ((h2 y hl).1 hh) hm
 exact ⟨v,by rw [hr,this]⟩
theorem BagMap.store (h:BagMap w b n sets) {y:List Bool} (hm:y∉sets) (hl:y.length=n) (hn:n≤4096) (hall:∀ x∈sets,x.length=n) (hj:sets.length<100000) :
 ∃ w',(Instr.mapUpdate 253 (.map (some b)) (.string (txtK (wordsB y))) (.int .i64 (sets.length:Nat))).run Tryz.prog w=.ok () w'∧BagMap w' b n (sets++[y])∧w.grownBy w' (some b):=by
 obtain ⟨D,h1,h2,h3⟩:=h
 have hI:=h1.isMap
 have hkey:=keyK_of (ws:=wordsB y) (by rw [wordsB_len]; omega)
 obtain ⟨w',hr,ho,hg⟩:=h1.update keyedB uMapB (by unfold maxLen; omega) hkey (val:=.int .i64 (sets.length:Nat)) (d:=.held (.int .i64 (sets.length:Nat))) (ps:=[]) rfl
 have hkl:WideAt.IsKeyLit (keyK (wordsB y)):=keyedB.key hkey
 refine ⟨w',hr,⟨_,by rw [List.length_append,List.length_singleton]; exact ho,fun z hz=>?_,fun i hi=>?_⟩,hg⟩
 ·by_cases e:z=y
  ·subst e
   exact ⟨fun _=>by simp,fun _=>Maps.has_put_same hI hkl _⟩
  ·have hne:keyK (wordsB z)≠keyK (wordsB y):=fun h=>e (keyK_inj (by rw [hz,hl]) h)
   rw [Maps.has_put_other hne,h2 z hz]
   simp [e]
 ·rw [List.length_append,List.length_singleton] at hi
  by_cases e:i=sets.length
  ·subst e
   have e2:(sets++[y]).getD sets.length []=y:=by simp [List.getD]
   rw [e2,Maps.atKey_put_same hI hkl]
  ·have hi2:i<sets.length:=by omega
   have e2:(sets++[y]).getD i []=sets.getD i []:=by simp [List.getD,List.getElem?_append_left hi2]
   have hmem:sets.getD i []∈sets:=by
    rw [List.getD_eq_getElem?_getD,List.getElem?_eq_getElem hi2,Option.getD_some]
    exact List.getElem_mem hi2
   have hne:keyK (wordsB (sets.getD i []))≠keyK (wordsB y):=fun h=>hm (keyK_inj (by rw [hall _ hmem,hl]) h▸hmem)
   rw [e2,Maps.atKey_put_other hne]
   exact h3 i hi2
end
theorem Rows.mapB {B:Nat} {w w':World} {f:Names} {b:Nat} {es:Array MapEntry} {c:Nat} (h:Rows B w f) (hb:w.heap[b]?=some (.map es c)) (hg:w.grownBy w' (some b)):Rows B w' f :=
 ⟨fun i r hi=>(by
   have ho:=h.1 i r hi
   refine World.ownsRow.kept ho hg ?_
   rcases ho.2 with ⟨e,_⟩ | ⟨g,cap,cur,e,_,hh,_⟩
   ·left; rw [e]; rfl
   ·right; rw [e]; intro q
    have:g=b:=by injection q
    subst this; rw [hh] at hb; cases hb),h.2⟩
end Go.Proofs.YtkaoebokbfcmhaaGreatDoor
namespace Go.Proofs.YtkaoebokbfcmhaaGreatDoor
open Go.RowKit
set_option maxRecDepth 100000
set_option maxHeartbeats 8000000
theorem oneWords:OneCell 257 50 (.int .u64 0) 8:=⟨by kernel_rfl,by kernel_rfl,rfl,by decide,fun _=>by kernel_rfl⟩
theorem take_snocN (l:List Nat) (i:Nat) (h:i<l.length):l.take (i+1)=l.take i++[l[i]]:=by
 rw [List.take_add_one]; simp [h]
def wordsV (ws:List Nat):List Value:=ws.map fun n:Nat=>Value.int .u64 (n:Int)
def byteN (ns:List Nat):List Value:=ns.map fun n:Nat=>Value.int .u8 (n:Int)
theorem wordsV_len (ws:List Nat):(wordsV ws).length=ws.length:=by simp [wordsV]
theorem byteN_snoc (ns:List Nat) (n:Nat):byteN (ns++[n])=byteN ns++[.int .u8 (n:Int)]:=by simp [byteN]
theorem conv_key (B:Nat) (w:World) (v:Value) (ws:List Nat) (h:OwnV 5 B w v (byteN (keyB ws))) (h1:1≤ws.length):(convert 283 9 v).run Tryz.prog w=.ok (.string (txtK ws)) w:=by
 have hl:(byteN (keyB ws)).length=(numsK ws).length:=by simp [byteN,numsK]
 have hp:(numsK ws).length=8*ws.length:=by unfold numsK; rw [List.length_map,keyB_len]
 rcases h.2 with ⟨rfl,hn⟩ | ⟨g,cap,cur,rfl,hb,hg,hn,hm,hs,ht⟩
 ·omega
 ·refine run_convert_bytes_arg (P:=Tryz.prog) w 283 5 oneBytes.ht uByte g 0 (byteN (keyB ws)).length cap (numsK ws) hl.symm (fun i hi=>?_) 9 uStr
  have:=h.at.cell i hi
  rw [valAt_row] at this
  rw [Nat.zero_add,this]
  have hi2:i<(keyB ws).length:=by rw [hl] at hi; unfold numsK at hi; rwa [List.length_map] at hi
  simp [byteN,numsK,List.getD,hi2]
theorem bag_key (v:Value) (ws:List Nat) (w:World) (h:ValsAt w v (wordsV ws)) (h1:1≤ws.length) (hl:ws.length≤64) (hw:∀ x∈ws,x<2 ^ 64) :
 Calls Tryz.prog 191 #[v] w (Ret1 (fun x _=>x=.string (txtK ws)) w):=by
 obtain ⟨va,vn,vc,rfl⟩:∃ a n c,v=.slice a n c:=(by obtain ⟨a,c,e,_⟩:=h; exact ⟨a,_,c,e⟩)
 have l1:=h.len oneWords
 rw [wordsV_len] at l1
 replace h:=Hd h
 replace hw:=Hd hw
 go_enter Tryz.func191,Tryz.ntmps191
 go_wp2_with (at_make; refine wpl_makeV0 oneBytes rfl _ _ rfl (8*ws.length) rfl (by go_num) (by omega) ?_)
 intro bv w2 ho2 b2
 replace ho2:=Hd ho2
 go_wp2_with fail
 go_loopw [3,12] (fun ov iv wr=>∃ (i:Nat) (ow:Value),ow=ov∧iv=.int .i64 i∧i≤ws.length∧OwnV 5 w.heap.size wr ow (byteN (keyB (ws.take i)))∧Below w.heap.size w wr) (fun _ iv _=>ws.length-(intOf iv).toNat)
 case atStart=>exact ⟨0,_,rfl,rfl,Nat.zero_le _,ho2.out,b2⟩
 case round =>
  obtain ⟨i,ow,rfl,rfl,hi,hO,hB⟩:=hrel
  obtain ⟨wo,rfl⟩:∃ wo:World,wo=wr:=⟨_,rfl⟩
  by_cases hil:i<ws.length
  ·have di:decide ((i:Int)<(ws.length:Int))=true:=decide_eq_true (by omega)
   have hv:=h.out.below hB
   have iX:=fun w'=>hv.idx oneWords i (by rw [wordsV_len]; exact hil) w'
   have cX:=hv.cell i (by rw [wordsV_len]; exact hil)
   have ex:(wordsV ws)[i]'(by rw [wordsV_len]; exact hil)=.int .u64 ((ws[i]:Nat):Int):=by simp [wordsV]
   rw [ex] at cX
   have hxb:=hw.out ws[i] (List.getElem_mem hil)
   have htk:keyB (ws.take (i+1))=keyB (ws.take i)++bytesW ws[i]:=by
    rw [take_snocN ws i hil,keyB_snoc]
   obtain ⟨x,hx⟩:∃ x,ws[i]=x:=⟨_,rfl⟩
   rw [hx] at cX hxb htk
   obtain ⟨xa,hxa⟩:∃ xa,valAt (.slice va vn vc) i=xa:=⟨_,rfl⟩
   rw [hxa] at iX cX
   have hlt:(keyB (ws.take i)).length≤512:=by rw [keyB_len,List.length_take]; omega
   obtain ⟨ns,hns⟩:∃ ns,keyB (ws.take i)=ns:=⟨_,rfl⟩
   rw [hns] at htk hO hlt
   replace hx:=Hd hx
   replace hxa:=Hd hxa
   replace hv:=Hd hv
   replace htk:=Hd htk
   replace hns:=Hd hns
   replace hxb:=Hd hxb
   replace hO:=Hd hO
   clear ex
   go_wp2
   go_loopw [3,5,16] (fun ov cv jv wr=>∃ (j c:Nat) (ow:Value),ow=ov∧cv=.int .u64 (c:Int)∧jv=.int .i64 j∧j≤8∧c=x/256 ^ j∧OwnV 5 w.heap.size wr ow (byteN (ns++(bytesW x).take j))∧Below w.heap.size w wr) (fun _ _ jv _=>8-(intOf jv).toNat)
   case atStart=>exact ⟨0,x,_,rfl,rfl,rfl,by omega,by simp,by simpa using hO.out,hB⟩
   case round =>
    obtain ⟨j,c,pw,rfl,rfl,rfl,hj,hc,hP,hBj⟩:=hrel
    obtain ⟨wj,rfl⟩:∃ wj:World,wj=wr:=⟨_,rfl⟩
    by_cases hjl:j<8
    ·have dj:decide ((j:Int)<8)=true:=decide_eq_true (by omega)
     have hBs:=hBj.size
     have hcb:c<2 ^ 64:=by rw [hc]; exact Nat.lt_of_le_of_lt (Nat.div_le_self _ _) hxb.out
     have hse:byteN (ns++(bytesW x).take (j+1))=byteN (ns++(bytesW x).take j)++[.int .u8 ((c%256:Nat):Int)]:=by
      rw [bytesW_take x j hjl,← List.append_assoc,byteN_snoc,hc]
     have hlm:(byteN (ns++(bytesW x).take j)).length<4398046511104:=by
      simp [byteN,bytesW_len]; omega
     have wr8:IntKind.u8.wrap (c:Int)=((c%256:Nat):Int):=by simp [IntKind.wrap,IntKind.signed,IntKind.bits]
     have hdv:(c:Int)/256=((c/256:Nat):Int):=by omega
     have hc2:c/256=x/256 ^ (j+1):=by rw [hc,Nat.div_div_eq_div_mul,Nat.pow_succ]
     obtain ⟨m,hm⟩:∃ m,c%256=m:=⟨_,rfl⟩
     rw [hm] at wr8 hse
     obtain ⟨d,hd⟩:∃ d,c/256=d:=⟨_,rfl⟩
     rw [hd] at hdv hc2
     replace hm:=Hd hm
     replace hd:=Hd hd
     replace hc:=Hd hc
     replace hc2:=Hd hc2
     replace hse:=Hd hse
     go_wp2_with (at_builtin; go_loud (refine wpl_appV oneBytes rfl _ _ rfl w.heap.size pw _ (.int .u8 (m:Int)) rfl hP rfl rfl hlm hBs ?_))
     intro v' w7 ho7 b7
     rw [← hse.out] at ho7
     replace ho7:=Hd ho7
     clear hP
     go_wp2
     go_roundw
     case measure=>simp [intOf]; omega
     case rel=>exact ⟨j+1,d,_,rfl,by simp,by go_num,by omega,hc2.out,ho7.out,hBj.trans b7⟩
    ·obtain rfl:j=8:=by omega
     have e8:(bytesW x).take 8=bytesW x:=List.take_of_length_le (by rw [bytesW_len]; exact Nat.le_refl _)
     rw [e8,← htk.out] at hP
     replace hP:=Hd hP
     have dj:decide (((8:Nat):Int)<8)=false:=by decide
     go_wp2
     go_roundw
     case measure=>simp [intOf]; omega
     case rel=>exact ⟨i+1,_,rfl,by go_num,by omega,hP.out,hBj⟩
  ·have di:decide ((i:Int)<(ws.length:Int))=false:=decide_eq_false (by omega)
   obtain rfl:i=ws.length:=by omega
   rw [List.take_length] at hO
   have hc:=conv_key w.heap.size wo ow ws hO h1
   obtain ⟨oa,on,oc,rfl⟩:=hO.shape
   replace hO:=Hd hO
   go_wp2
   go_ret
   exact ⟨_,rfl,hB,rfl⟩
end Go.Proofs.YtkaoebokbfcmhaaGreatDoor
