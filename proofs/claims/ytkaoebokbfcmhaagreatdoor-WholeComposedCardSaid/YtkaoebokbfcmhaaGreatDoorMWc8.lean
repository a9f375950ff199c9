/-
  Proved: the law edentop.WholeComposed as its tied card: it returns true and never panics, for any two rules and any word. No conditions beyond the cards own.
-/
import Derived.Test.YtkaoebokbfcmhaaGreatDoorMWc7
import Derived.Test.YtkaoebokbfcmhaaGreatDoorRows
import Derived.ProofKit
import Derived.OpenShut
import Derived.ShutString
import Derived.ChangeOld
import Derived.LaidMore
import Derived.Stop.Joined
import Derived.Stop.LaidErr
import Derived.Lib.SmallJoins
import Derived.LaidHandle
import Derived.Test.YtkaoebokbfcmhaaGreatDoorCards
import Derived.Test.YtkaoebokbfcmhaaGreatDoorTie
import Derived.SevenTiedAt
namespace Go.Proofs.YtkaoebokbfcmhaaGreatDoor
open Go.RowKit
set_option maxRecDepth 100000
set_option maxHeartbeats 8000000
theorem wholeComposed_bad (r:Nat→Addr) (k R:Int) (va:Option Addr) (vn vc:Nat) (T:List Int) (k' R':Int) (ua:Option Addr) (un uc:Nat) (T':List Int) (t:Int×List (ByteArray×Int)) (wa:Option Addr) (wn wc:Nat) (w:World) (hg:Glob r w) (hG:GlobE w) (h:IntsAt w (.slice va vn vc) T) (h':IntsAt w (.slice ua un uc) T') (hc:composeP k R T k' R' T'=some t) :
 Calls Tryz.prog 3 #[.agg #[.int .i64 k,.int .i64 R,.slice va vn vc],.agg #[.int .i64 k',.int .i64 R',.slice ua un uc],.slice wa wn wc] w (Ret1 (fun x _=>x=.bool true) w):=by
 have b0:=Below.step (belowAlloc w (.cells #[.int .i64 k,.int .i64 R,.slice va vn vc] 24)) (belowAlloc _ (.cells #[.int .i64 k',.int .i64 R',.slice ua un uc] 24))
 have q:Box3 ((w.alloc (.cells #[.int .i64 k,.int .i64 R,.slice va vn vc] 24)).alloc (.cells #[.int .i64 k',.int .i64 R',.slice ua un uc] 24)) w.heap.size (.int .i64 k) (.int .i64 R) (.slice va vn vc):=by simp [Box3,go_sem]
 have q':Box3 ((w.alloc (.cells #[.int .i64 k,.int .i64 R,.slice va vn vc] 24)).alloc (.cells #[.int .i64 k',.int .i64 R',.slice ua un uc] 24)) (w.heap.size+1) (.int .i64 k') (.int .i64 R') (.slice ua un uc):=by simp [Box3,go_sem]
 replace hg:=Hd (hg.below b0)
 replace hG:=Hd (hG.below b0)
 replace h:=Hd (h.below b0)
 replace h':=Hd (h'.below b0)
 replace hc:=Hd hc
 go_enter Tryz.func3,Tryz.ntmps3
 go_wp2_with fail
 refine (counts_any r _ hg.out hG.out).mono ?_
 rintro e w1 ⟨_,rfl,b1,rfl⟩
 obtain ⟨⟨z0,z1,z2⟩,-,-,-⟩:=q.below b1
 obtain ⟨⟨y0,y1,y2⟩,-,-,-⟩:=q'.below b1
 go_wp2_with fail
 refine (compose_any r k R va vn vc T k' R' ua un uc T' _ (hg.out.below b1) (h.out.below b1) (h'.out.below b1)).mono ?_
 rintro e w2 ⟨x,y,rfl,b2,hy,hx,-⟩
 rw [hc.out] at hy
 obtain rfl:=hx (by rw [hc.out]; simp)
 obtain ⟨T5,a5,rfl⟩:=ErrIs.some_shape hy
 have bb:=Below.step b0 (Below.step b1 (Below.step b2 (belowAlloc w2 (.cells #[.int .i64 0,.int .i64 0,.slice none 0 0] 24))))
 clear hy hx z0 z1 z2 y0 y1 y2
 go_wp2
 go_ret
 exact ⟨_,rfl,bb,rfl⟩
theorem wholeComposed_ok (r:Nat→Addr) (K Q Q':Nat) (va:Option Addr) (vn vc:Nat) (T:List Int) (ua:Option Addr) (un uc:Nat) (T':List Int) (wa:Option Addr) (wn wc:Nat) (ws:List Int) (w:World) (hg:Glob r w) (hG:GlobE w) (h:IntsAt w (.slice va vn vc) T) (h':IntsAt w (.slice ua un uc) T') (hw:IntsAt w (.slice wa wn wc) ws) (hr:RuleOk K Q T) (hr':RuleOk K Q' T') (hR:Q+Q'≤3) :
 Calls Tryz.prog 3 #[.agg #[.int .i64 K,.int .i64 Q,.slice va vn vc],.agg #[.int .i64 K,.int .i64 Q',.slice ua un uc],.slice wa wn wc] w (Ret1 (fun x _=>x=.bool true) w):=by
 have b0:=Below.step (belowAlloc w (.cells #[.int .i64 K,.int .i64 Q,.slice va vn vc] 24)) (belowAlloc _ (.cells #[.int .i64 K,.int .i64 Q',.slice ua un uc] 24))
 have q:Box3 ((w.alloc (.cells #[.int .i64 K,.int .i64 Q,.slice va vn vc] 24)).alloc (.cells #[.int .i64 K,.int .i64 Q',.slice ua un uc] 24)) w.heap.size (.int .i64 K) (.int .i64 Q) (.slice va vn vc):=by simp [Box3,go_sem]
 have q':Box3 ((w.alloc (.cells #[.int .i64 K,.int .i64 Q,.slice va vn vc] 24)).alloc (.cells #[.int .i64 K,.int .i64 Q',.slice ua un uc] 24)) (w.heap.size+1) (.int .i64 K) (.int .i64 Q') (.slice ua un uc):=by simp [Box3,go_sem]
 have hcmp:=fun (w':World) (hgl:Glob r w') (hT:IntsAt w' (.slice va vn vc) T) (hT':IntsAt w' (.slice ua un uc) T')=>compose_ok r K Q Q' va vn vc T ua un uc T' w' hgl hT hT' hr hr' hR
 have hrc:RuleOk K (Q+Q') (behindT K Q T Q' T'):=behindT_ok hr hR
 have hlen:(behindT K Q T Q' T').length=pw K (2*(Q+Q')+1):=compose_len
 have hp1:T.length≤pw K (2*(Q+Q')+1):=by rw [hr.len]; exact pw_mono hr.k1 (by omega)
 have hp2:T'.length≤pw K (2*(Q+Q')+1):=by rw [hr'.len]; exact pw_mono hr.k1 (by omega)
 have hpre:=preN_behind hr hr' ws
 have hsm:=smallP_ok hrc
 have hlw:=hw.len
 generalize behindT K Q T Q' T'=TC at *
 rw [← hlen] at hp1 hp2
 replace hcmp:=Hd hcmp
 replace hg:=Hd (hg.below b0)
 replace hG:=Hd (hG.below b0)
 replace h:=Hd (h.below b0)
 replace h':=Hd (h'.below b0)
 replace hw:=Hd (hw.below b0)
 replace q:=Hd q
 replace q':=Hd q'
 replace hr:=Hd hr
 replace hr':=Hd hr'
 replace hrc:=Hd hrc
 replace hpre:=Hd hpre
 replace hsm:=Hd hsm
 replace b0:=Hd b0
 clear hlen
 go_enter Tryz.func3,Tryz.ntmps3
 go_upto_region 1 with fail
 obtain ⟨w0,hw0⟩:∃ W:World,(w.alloc (.cells #[.int .i64 K,.int .i64 Q,.slice va vn vc] 24)).alloc (.cells #[.int .i64 K,.int .i64 Q',.slice ua un uc] 24)=W:=⟨_,rfl⟩
 rw [hw0] at q q' hg hG h h' hw b0
 rw [hw0]
 clear hw0
 go_wp2_with fail
 refine (counts_any r _ hg.out hG.out).mono ?_
 rintro e w1 ⟨_,rfl,b1,rfl⟩
 obtain ⟨⟨z0,z1,z2⟩,-,-,-⟩:=q.out.below b1
 obtain ⟨⟨y0,y1,y2⟩,-,-,-⟩:=q'.out.below b1
 go_wp2_with fail
 refine (hcmp.out _ (hg.out.below b1) (h.out.below b1) (h'.out.below b1)).mono ?_
 rintro e w2 ⟨_,_,rfl,b2,rfl,ca,cn,cc,rfl,hoc⟩
 have b2a:=Below.step b2 (belowAlloc w2 (.cells #[.int .i64 K,.int .i64 ((Q+Q':Nat):Int),.slice ca cn cc] 24))
 have qc:Box3 (w2.alloc (.cells #[.int .i64 K,.int .i64 ((Q+Q':Nat):Int),.slice ca cn cc] 24)) w2.heap.size (.int .i64 K) (.int .i64 ((Q+Q':Nat):Int)) (.slice ca cn cc):=by simp [Box3,go_sem]
 replace hoc:=(hoc.alloc (.cells #[.int .i64 K,.int .i64 ((Q+Q':Nat):Int),.slice ca cn cc] 24)).at
 have b12:=Below.step b1 b2a
 clear z0 z1 z2 y0 y1 y2
 obtain ⟨QC,hQC⟩:∃ n:Nat,Q+Q'=n:=⟨_,rfl⟩
 rw [hQC] at hrc hpre hsm qc hoc b2a b12
 rw [hQC]
 replace hQC:=Hd hQC
 go_upto_region 4 with fail
 obtain ⟨w3,hw3⟩:∃ W:World,w2.alloc (.cells #[.int .i64 K,.int .i64 (QC:Int),.slice ca cn cc] 24)=W:=⟨_,rfl⟩
 rw [hw3] at qc hoc b2a b12
 rw [hw3]
 obtain ⟨g,hgC⟩:∃ g,w2.heap.size=g:=⟨_,rfl⟩
 rw [hgC] at qc
 rw [hgC]
 have c3:Below w0.heap.size w0 w3:=b12
 replace hg:=Hd (hg.out.below c3)
 replace h:=Hd (h.out.below c3)
 replace h':=Hd (h'.out.below c3)
 replace hw:=Hd (hw.out.below c3)
 replace q:=Hd (q.out.below c3)
 replace q':=Hd (q'.out.below c3)
 have b03:=Hd (b0.out.trans (c3.mono b0.out.size))
 replace hoc:=Hd hoc
 replace qc:=Hd qc
 clear hw3 hgC b1 b2 b2a b12 c3 hcmp b0 hG hQC
 have hsc:=small_any r K QC ca cn cc TC w3 hg.out hoc.out
 rw [hsm.out] at hsc
 obtain ⟨⟨z0,z1,z2⟩,-,-,-⟩:=qc.out
 by_cases hbig:256<TC.length
 ·rw [if_pos hbig] at hsc
  replace hsc:=Hd hsc
  go_wp2_with fail
  refine hsc.out.mono ?_
  rintro e w4 ⟨x,rfl,b4,he⟩
  obtain ⟨T1,p1,rfl⟩:∃ T a,x=.iface T (.pointer (some a)):=by
   unfold fresh at he
   exact he.some_shape
  have bE:=Hd (b03.out.trans (b4.mono b03.out.size))
  clear z0 z1 z2 he b4
  go_wp2
  go_ret
  exact ⟨_,rfl,bE.out,rfl⟩
 ·rw [if_neg hbig] at hsc
  replace hsc:=Hd hsc
  have hl1:T.length≤256:=by omega
  have hl2:T'.length≤256:=by omega
  go_wp2_with fail
  refine hsc.out.mono ?_
  rintro e w4 ⟨x,rfl,b4,he⟩
  obtain rfl:=he.none_eq
  have s1:=small_any r K Q va vn vc T w4 (hg.out.below b4) (h.out.below b4)
  rw [smallP_ok hr.out,if_neg (by omega)] at s1
  replace s1:=Hd s1
  clear z0 z1 z2 he hsc
  obtain ⟨⟨z0,z1,z2⟩,-,-,-⟩:=q.out.below b4
  go_wp2_with fail
  refine s1.out.mono ?_
  rintro e w5 ⟨x,rfl,b5,he⟩
  obtain rfl:=he.none_eq
  have c5:=Below.step b4 b5
  have s2:=small_any r K Q' ua un uc T' w5 (hg.out.below c5) (h'.out.below c5)
  rw [smallP_ok hr'.out,if_neg (by omega)] at s2
  replace s2:=Hd s2
  clear z0 z1 z2 he s1
  obtain ⟨⟨z0,z1,z2⟩,-,-,-⟩:=q'.out.below c5
  go_wp2_with fail
  refine s2.out.mono ?_
  rintro e w6 ⟨x,rfl,b6,he⟩
  obtain rfl:=he.none_eq
  have c6:=Below.step c5 b6
  have b06:=Hd (b03.out.trans (c6.mono b03.out.size))
  replace hg:=Hd (hg.out.below c6)
  replace h:=Hd (h.out.below c6)
  replace h':=Hd (h'.out.below c6)
  replace hw:=Hd (hw.out.below c6)
  replace q:=Hd (q.out.below c6)
  replace q':=Hd (q'.out.below c6)
  replace qc:=Hd (qc.out.below c6)
  replace hoc:=Hd (hoc.out.below c6)
  clear z0 z1 z2 he s2 b4 b5 b6 c5 c6 b03
  by_cases hlong:200<ws.length
  ·have d1:decide ((ws.length:Int)>200)=true:=decide_eq_true (by omega)
   go_wp2
   go_ret
   exact ⟨_,rfl,b06.out,rfl⟩
  ·have d1:decide ((ws.length:Int)>200)=false:=decide_eq_false (by omega)
   have hos:=over_sym (K:=K) (R:=Q) (T:=T) (ws:=ws) (by rw [smallP_ok hr.out,if_neg (by omega)])
   obtain ⟨⟨z0,z1,z2⟩,-,-,-⟩:=q.out
   cases hov:overP K Q T ws 256 with
   | some t =>
    replace hov:=Hd hov
    replace hos:=Hd hos
    go_wp2_with fail
    refine (before_bad r K Q va vn vc T _ ws t _ hg.out h.out hw.out hov.out 256).mono ?_
    rintro e w7 ⟨_,_,x,rfl,b7,rfl,rfl,he7⟩
    obtain ⟨T7,a7,rfl⟩:=ErrIs.some_shape he7
    replace he7:=Hd he7
    clear z0 z1 z2
    obtain ⟨⟨z0,z1,z2⟩,-,-,-⟩:=qc.out.below b7
    go_wp2_with fail
    refine (count_Words_any r K QC ca cn cc TC _ ws w7 (hg.out.below b7) (hoc.out.below b7) (hw.out.below b7) hrc.out (by omega)).mono ?_
    rintro e w8 ⟨x8,y8,rfl,b8,hy8,-,hx8⟩
    have hs8:symP K ws 256≠none:=fun q=>by have:=hos.out.2 q; rw [hov.out] at this; cases this
    obtain rfl:=hx8 hs8
    obtain ⟨T8,a8,rfl⟩:∃ T a,y8=.iface T (.pointer (some a)):=by
     cases hq:symP K ws 256 with
     | none=>exact absurd hq hs8
     | some t8=>rw [hq] at hy8; exact hy8.some_shape
    have bE:=Hd (b06.out.trans ((Below.step b7 b8).mono b06.out.size))
    clear z0 z1 z2 hy8 hx8 hs8 b7 b8
    go_wp2
    go_ret
    exact ⟨_,rfl,bE.out,rfl⟩
   | none =>
    have hsy:=hos.1 hov
    replace hov:=Hd hov
    replace hsy:=Hd hsy
    clear hos
    go_wp2_with fail
    refine (before_ok r K Q va vn vc T _ ws _ hg.out h.out hw.out hr.out hov.out hl1 (by omega) 256 (Nat.le_refl _)).mono ?_
    rintro e w7 ⟨l,_,_,rfl,b7,rfl,ls,LS,more,rfl,hV,hll,hlm,hit,hall,-⟩
    obtain ⟨la,ln,lc,rfl⟩:=hV.shape
    replace hV:=Hd hV
    replace hit:=Hd hit
    replace hall:=Hd hall
    replace hll:=Hd hll
    clear z0 z1 z2
    obtain ⟨⟨z0,z1,z2⟩,-,-,-⟩:=qc.out.below b7
    go_wp2_with fail
    refine (count_Words_any r K QC ca cn cc TC _ ws w7 (hg.out.below b7) (hoc.out.below b7) (hw.out.below b7) hrc.out (by omega)).mono ?_
    rintro e w8 ⟨x8,y8,rfl,b8,hy8,hx8,-⟩
    rw [hsy.out] at hy8
    obtain rfl:=hy8.none_eq
    have hn8:=hx8 hsy.out
    obtain ⟨na,nm,nc,rfl⟩:=hn8.shape
    have c8:=Below.step b7 b8
    have b08:=Hd (b06.out.trans (c8.mono b06.out.size))
    replace hn8:=Hd hn8
    clear z0 z1 z2 hy8 hx8
    cases more with
    | true =>
     clear b7 b8 c8
     go_wp2
     go_ret
     exact ⟨_,rfl,b08.out,rfl⟩
    | false =>
     have hLS:LS=preL K Q T ws:=hall.out rfl
     have hmem:∀ v∈LS,Syms K v∧v.length≤256:=fun v hv=>by
      rw [hLS,mem_preL hr.out.k1] at hv
      have:=hr.out.r3
      exact ⟨hv.1,by rw [hv.2.1]; omega⟩
     have hsl:=fun i=>sumB_le (LS:=LS) hr'.out hl2 (fun v hv=>(hmem v hv).2) hlm i
     have hfin:sumB K Q' T' LS LS.length=preN K QC TC ws:=by
      unfold sumB
      rw [List.take_length,hpre.out,hLS]
     have lV:=fun w'=>hV.out.len oneLists 3 w'
     rw [hll.out] at lV
     have hV8:=Hd (hV.out.below b8)
     have hit8:=Hd (fun j hj=>(hit.out j hj).below b8)
     have h8:=Hd (h'.out.below c8)
     have q8:=Hd (q'.out.below c8)
     have hg8:=Hd (hg.out.below c8)
     have hr8:=hr'
     replace hsl:=Hd hsl
     replace hmem:=Hd hmem
     replace hfin:=Hd hfin
     clear hLS hall hV hit h h' q q' qc hg hoc hw hsm hpre hov hsy b06 b7 b8 c8 hr hr' hrc
     go_wp2
     go_loopw [14,15] (fun sv iv wr=>∃ (i:Nat) (x:Value),x=sv∧iv=.int .i64 i∧i≤LS.length∧NumAt wr x (sumB K Q' T' LS i)∧Below w8.heap.size w8 wr) (fun _ iv _=>LS.length-(intOf iv).toNat)
     case atStart=>exact ⟨0,_,rfl,rfl,Nat.zero_le _,by rw [sumB_zero]; exact NumAt.nil _,Below.refl _ _⟩
     case round =>
      obtain ⟨i,xs,rfl,rfl,hi,hN,hB⟩:=hrel
      obtain ⟨wo,rfl⟩:∃ wo:World,wo=wr:=⟨_,rfl⟩
      obtain ⟨xa,xm,xc,rfl⟩:=hN.shape
      by_cases hlt:i<LS.length
      ·have hls:i<ls.length:=by rw [hll.out]; exact hlt
       obtain ⟨W,hW⟩:∃ W:World,wo.drew=W:=⟨_,rfl⟩
       have hBW:Below w8.heap.size w8 W:=by rw [← hW]; exact hB.drew
       have hbW:Below wo.heap.size wo W:=by rw [← hW]; exact (Below.refl _ _).drew
       have hNW:=hN.below hbW
       have hVw:=hV8.out.below hBW
       have iV:=fun w'=>hVw.idx oneLists i hls w'
       have cV:=hVw.cellV i hls
       have hitem:=(hit8.out i hls).below hBW
       have hss:=sumB_succ (K:=K) (Q':=Q') (T':=T') hlt
       have hb1:=hsl.out i
       obtain ⟨v,hv⟩:∃ v,LS.getD i []=v:=⟨_,rfl⟩
       have hvm:v∈LS:=by rw [← hv]; simp [List.getD,hlt]
       have hvs:=hmem.out v hvm
       have hvb:=preN_le hr8.out hl2 hvs.2
       rw [hv] at hitem hss
       obtain ⟨pv,hpv⟩:∃ pv,vAt ls i=pv:=⟨_,rfl⟩
       rw [hpv] at cV hitem
       obtain ⟨ia,im,ic,rfl⟩:=hitem.shape
       obtain ⟨pa,hpa⟩:∃ pa,valAt (.slice la ln lc) i=pa:=⟨_,rfl⟩
       rw [hpa] at iV cV
       have hS:W.cell? ⟨w.heap.size+1,0,none⟩=some (.int .i64 K)∧W.cell? ⟨w.heap.size+1,1,none⟩=some (.int .i64 Q')∧W.cell? ⟨w.heap.size+1,2,none⟩=some (.slice ua un uc)∧W.cell? pa=some (.slice ia im ic):=by
        obtain ⟨⟨y0,y1,y2⟩,-,-,-⟩:=q8.out.below hBW
        exact ⟨y0,y1,y2,cV⟩
       have hsv:symP K v 256=none:=symP_ok hvs.1 hvs.2
       have hcw:=count_Words_any r K Q' ua un uc T' _ v W (hg8.out.below hBW) (h8.out.below hBW) hitem hr8.out hl2
       have d1:decide ((i:Int)<(LS.length:Int))=true:=decide_eq_true (by omega)
       replace hcw:=Hd hcw
       replace hsv:=Hd hsv
       replace hvb:=Hd hvb
       replace hb1:=Hd hb1
       replace hss:=Hd hss
       replace hNW:=Hd hNW
       replace hW:=Hd hW
       replace hBW:=Hd hBW
       replace hv:=Hd hv
       replace hpv:=Hd hpv
       replace hpa:=Hd hpa
       clear hVw cV hvs hvm hN hB hbW hitem
       go_upto_region 14 with fail
       refine wp_region_plan (fun w'=>w'.cell? ⟨w.heap.size+1,0,none⟩=some (.int .i64 K)∧w'.cell? ⟨w.heap.size+1,1,none⟩=some (.int .i64 Q')∧w'.cell? ⟨w.heap.size+1,2,none⟩=some (.slice ua un uc)∧w'.cell? pa=some (.slice ia im ic)) 10 [(0,true),(1,true),(2,true),(3,true),(4,true),(5,false),(6,true),(7,true),(8,true),(9,true)] (by kernel_rfl) (by kernel_rfl) ?_
       rw [hW.out]
       refine pqY 79 hS ?_
       refine pqY 80 hS ?_
       refine pqY 81 hS ?_
       refine pqY 82 hS ?_
       refine pqY 83 hS ?_
       refine headC rfl (fun KK hK=>?_)
       go_simp
       refine hcw.out.mono ?_
       rintro e w9 ⟨x9,y9,rfl,b9,hy9,hx9,-⟩
       rw [hsv.out] at hy9
       obtain rfl:=hy9.none_eq
       have hn9:=hx9 hsv.out
       obtain ⟨ma,mm,mc,rfl⟩:=hn9.shape
       have hS9:w9.cell? ⟨w.heap.size+1,0,none⟩=some (.int .i64 K)∧w9.cell? ⟨w.heap.size+1,1,none⟩=some (.int .i64 Q')∧w9.cell? ⟨w.heap.size+1,2,none⟩=some (.slice ua un uc)∧w9.cell? pa=some (.slice ia im ic):=⟨cell_keep b9 hS.1,cell_keep b9 hS.2.1,cell_keep b9 hS.2.2.1,(b9.cell (World.block_lt_of_cell? _ _ hS.2.2.2)).trans hS.2.2.2⟩
       have hB9:=Hd (Below.step hBW.out b9)
       have hadd:=nat_addN _ _ _ _ w9 (hNW.out.below b9) hn9 hb1.out (Nat.le_trans hvb.out (Nat.pow_le_pow_right (by decide) (by unfold eW eB; omega)))
       rw [← hss.out] at hadd
       replace hadd:=Hd hadd
       clear hy9 hx9 hn9 b9
       refine hK _ _ hS9 ?_
       clear hK KK
       refine pqY 78 hS9 ?_
       refine pqY 85 hS9 ?_
       refine pqY 86 hS9 ?_
       refine pqY 16 hS9 ?_
       refine head0 ?_
       simp only [List.drop_succ_cons,List.drop_zero]
       clear hS hS9
       go_wp2
       refine NoPanic.normal ?_
       go_wp2_with fail
       refine hadd.out.mono ?_
       rintro e w10 ⟨x10,rfl,b10,hn10⟩
       have hn10':=hn10.num
       have hB10:=Hd (Below.step hB9.out b10)
       obtain ⟨ta,tm,tc,rfl⟩:=hn10'.shape
       replace hn10':=Hd hn10'
       clear hn10 b10
       go_wp2
       go_roundw
       case measure=>simp [intOf]; omega
       case rel=>exact ⟨i+1,_,rfl,by go_num,by omega,hn10'.out,hB10.out⟩
      ·obtain rfl:i=LS.length:=by omega
       have d1:decide ((LS.length:Int)<(LS.length:Int))=false:=decide_eq_false (by omega)
       rw [hfin.out] at hN
       have hnn:=nats_num _ _ _ _ wo hN (hn8.out.below hB)
       rw [decide_eq_true rfl] at hnn
       have bE:=Hd (b08.out.trans (hB.mono b08.out.size))
       replace hnn:=Hd hnn
       clear hN hB
       go_wp2_with fail
       refine hnn.out.mono ?_
       rintro e w10 ⟨nq,rfl,rfl⟩
       have bF:=Hd (below_drewN bE.out nq)
       go_wp2
       go_ret
       exact ⟨_,rfl,bF.out,rfl⟩
theorem wholeComposed_any (r:Nat→Addr) (k R:Int) (v:Value) (T:List Int) (k' R':Int) (v':Value) (T':List Int) (u:Value) (ws:List Int) (w:World) (hg:Glob r w) (hG:GlobE w) (h:IntsAt w v T) (h':IntsAt w v' T') (hw:IntsAt w u ws) :
 Calls Tryz.prog 3 #[.agg #[.int .i64 k,.int .i64 R,v],.agg #[.int .i64 k',.int .i64 R',v'],u] w (Ret1 (fun x _=>x=.bool true) w):=by
 obtain ⟨va,vn,vc,rfl⟩:=h.shape
 obtain ⟨ua,un,uc,rfl⟩:=h'.shape
 obtain ⟨wa,wn,wc,rfl⟩:=hw.shape
 cases hc:composeP k R T k' R' T' with
 | some t=>exact wholeComposed_bad r k R va vn vc T k' R' ua un uc T' t wa wn wc w hg hG h h' hc
 | none =>
  obtain ⟨K,Q,Q',rfl,rfl,rfl,rfl,hr,hr',hR⟩:=composeP_none hc
  exact wholeComposed_ok r K Q Q' va vn vc T ua un uc T' wa wn wc ws w hg hG h h' hw hr hr' hR
end Go.Proofs.YtkaoebokbfcmhaaGreatDoor
namespace Go.Proofs.YtkaoebokbfcmhaaGreatDoor
open Go.ChangeShapes Go.WideShapes Go.ChangeAt Go.RowKit Go.Joins
set_option maxRecDepth 100000
theorem own:ownKnob Tryz.prog.godebug=none:=by kernel_rfl
theorem laidOut:laidOutB Tryz.prog=true:=by kernel_rfl
theorem cellsInt:Tryz.prog.cellsOf 3=1:=by kernel_rfl
theorem uInt:Tryz.prog.underlying 3=some (.int .i64):=by kernel_rfl
theorem bytesInt:Tryz.prog.bytesOf 3=8:=by kernel_rfl
theorem i64_of_wf {n:Int} (h:(Lit.int .i64 n).wf=true):I64 n:=by
 have:=bounds_i64 h
 unfold I64
 omega
theorem open_intsV {H:Type} {enc:TypeId×Value→H} {W:World} {held:Bool} {fuel:Nat} {v:Value} {y:DataW H×List MemPlace}
 (h:DataW.trod enc Tryz.prog W 0 (fun _=>true) held fuel 22 [v]=some y) (hw:∀ n∈y.1.weights Tryz.prog 22,n≤reachBytes) :
 ∃ xs,IntsAt W v xs∧xs.length≤17592186043904∧∀ x∈xs,I64 x:=by
 rcases open_ints uInts uInt cellsInt h with ⟨hcs,_⟩ | ⟨a,len,cap,zs,hcs,_,hl,hm,hz,hx,hcell,hwz⟩
 ·simp at hcs
  subst hcs
  exact ⟨[],(OwnI.nil 0 W).at,by simp,by simp⟩
 ·simp at hcs
  subst hcs
  simp only [if_true] at hz
  have hzl:(zs.take len).length=len:=by simp; omega
  refine ⟨zs.take len,⟨some a,cap,by rw [hzl],by rw [hzl]; exact hl,hm,(fun e=>by cases e),fun i hi=>?_⟩,?_,fun x hx=>i64_of_wf (hwz x (List.mem_of_mem_take hx))⟩
  ·have hi':i<zs.length:=by rw [hzl] at hi; omega
   show W.cell? (a.add i)=_
   rw [hcell i hi']
   simp [List.getD,hi']
  ·rw [hx] at hw
   have:=hw ((lits (H:=H) .i64 (zs.take len)).length*8+(lits (H:=H) .i64 (zs.drop len)).length*8) (by
    simp only [DataW.weights,uInts,bytesInt,List.mem_cons]
    left; omega)
   simp only [lits,List.length_map,reachBytes] at this
   omega
theorem open_intsT {H:Type} {enc:TypeId×Value→H} {W:World} {held:Bool} {v:Value} {d:DataW H} {p:List MemPlace} {b0:Nat}
 (hv:Value.okWide Tryz.prog W .any b0 22 v) (h:DataW.Trod enc Tryz.prog W 0 (fun _=>true) held 22 v d p) (hw:∀ n∈d.weights Tryz.prog 22,n≤reachBytes) :
 ∃ xs,IntsAt W v xs∧xs.length≤17592186043904∧∀ x∈xs,I64 x:=by
 obtain ⟨a,l,c,rfl⟩:=okWide_slice uInts hv
 obtain ⟨fuel,hf⟩:=h
 exact open_intsV (y:=(d,p)) (by simpa [Value.cells] using hf) hw
theorem weights_each3 {H:Type} {t0 t1 t2:TypeId} {y0 y1 y2:DataW H} {n:Nat} (h:n∈y2.weights Tryz.prog t2):n∈DataW.weightsEach Tryz.prog [t0,t1,t2] [y0,y1,y2]:=by
 simp only [DataW.weightsEach,List.mem_append]
 exact .inr (.inr (.inl h))
theorem open_ruleV {H:Type} {enc:TypeId×Value→H} {W:World} {held:Bool} {v:Value} {d:DataW H} {p:List MemPlace} {b0:Nat}
 (hv:Value.okWide Tryz.prog W .any b0 24 v) (h:DataW.Trod enc Tryz.prog W 0 (fun _=>true) held 24 v d p) (hw:∀ n∈d.weights Tryz.prog 24,n≤reachBytes) :
 ∃ (k R:Int) (u:Value) (xs:List Int),v=.agg #[.int .i64 k,.int .i64 R,u]∧IntsAt W u xs∧xs.length≤17592186043904∧(∀ x∈xs,I64 x)∧I64 k∧I64 R:=by
 obtain ⟨v0,v1,v2,y0,y1,y2,n,rfl,rfl,rfl,h0,h1,h2⟩:=open_agg3 Tryz.underlying24 (by kernel_rfl) (by kernel_rfl) hv h
 obtain ⟨a,e0,_,wa⟩:=DataW.trod_int uInt h0
 obtain ⟨b,e1,_,wb⟩:=DataW.trod_int uInt h1
 simp at e0 e1
 subst e0 e1
 obtain ⟨xs,hx,hl,hb⟩:=open_intsV h2 fun n hn=>hw n (by
  simp only [DataW.weights,Tryz.underlying24]
  exact weights_each3 (t0:=3) (t1:=3) (t2:=22) hn)
 exact ⟨a,b,v2,xs,rfl,hx,hl,hb,i64_of_wf wa,i64_of_wf wb⟩
theorem star : "*" ++ "errors.errorString" = "*errors.errorString" := by decide
theorem rowES (u : TypeId) (h : Tryz.prog.typeName? 3 u = some "*errors.errorString") : u = 287 :=
 typeName_ptr_named (nm := "errors.errorString") (by rw [star]; kernel_rfl) (by kernel_rfl) (by decide) u (by rw [star]; exact h)
theorem pES:Tryz.prog.underlying 287=some (.pointer 307):=by kernel_rfl
theorem cES:Tryz.prog.cellsOf 307=1:=by kernel_rfl
theorem cStr:Tryz.prog.cellsOf 9=1:=by kernel_rfl
def laid12 : List (String × DataW Unit) := [("eden/api.BadRule", Rows.laid_eden_api_BadRule), ("eden/api.BadWord", Rows.laid_eden_api_BadWord), ("eden/api.BadArg", Rows.laid_eden_api_BadArg), ("eden/api.TooBig", Rows.laid_eden_api_TooBig), ("eden/api.NoBudget", Rows.laid_eden_api_NoBudget), ("eden/api.BadText", Rows.laid_eden_api_BadText), ("eden/api.BadPatch", Rows.laid_eden_api_BadPatch), ("eden/api.BadCert", Rows.laid_eden_api_BadCert), ("eden/api.NoInverse", Rows.laid_eden_api_NoInverse), ("eden/api.BadLine", Rows.laid_eden_api_BadLine), ("eden/api.BadState", Rows.laid_eden_api_BadState), ("eden/api.Unknown", Rows.laid_eden_api_Unknown)]
theorem sentinel {n:String} {text:List UInt8} {r:List (String×DataW Unit)} {W:World} {g:Nat}
 (h : laidMet Tryz.prog ((n, .iface "*errors.errorString" (.ptr (.agg [.lit (.string text)]))) :: r) W)
 (hg:Tryz.prog.globalNamed n=some g) (ht:(Tryz.prog.globals[g]?).map (·.type)=some 27) :
 (∃ a:Addr,W.cell? ⟨g,0,none⟩=some (.iface 287 (.pointer (some a)))∧∃ s,W.cell? a=some (.string s)∧s.data.toList=text∧∃ c t,W.heap[a.block]?=some (.cells c t (0,0)))∧laidMet Tryz.prog r W:=by
 refine ⟨?_,h.tail⟩
 obtain ⟨ps,⟨g0,t0,cs0,f0,p0,q0,hg0,ht0,hv0,hd0,_,e0⟩,_,hrows⟩:=h
 obtain rfl:=Option.some.inj (hg.symm.trans hg0)
 obtain rfl:=Option.some.inj (ht.symm.trans ht0)
 subst e0
 obtain ⟨l0⟩:=cs0
 have ok0:∀ u v,l0=[.iface u v]→Value.okWide Tryz.prog W .any 0 u v:=fun u v e=>by
  subst e
  exact (hrows g 0 (by simp [MemPlace.row])).2 u v (by simpa using World.var?_cell hg hv0 0)
 obtain ⟨a0,s0,rfl,hc0,hs0,hz0,rfl⟩:=errorString_of_trod Tryz.underlying27 rowES pES Tryz.underlying307 rfl rfl Tryz.underlying9 cES cStr hd0 ok0
 exact ⟨a0,by simpa using World.var?_cell hg hv0 0,s0,hc0,hs0,(hrows a0.block a0.off (by simp [MemPlace.row])).1⟩
def txt:Nat→List UInt8
 | 1=>[98,97,100,32,114,117,108,101]
 | 2=>[98,97,100,32,119,111,114,100]
 | 3=>[98,97,100,32,97,114,103,117,109,101,110,116]
 | 4=>[116,111,111,32,98,105,103]
 | 5=>[110,111,32,98,117,100,103,101,116]
 | 6=>[98,97,100,32,116,101,120,116]
 | 7=>[98,97,100,32,112,97,116,99,104]
 | 8=>[98,97,100,32,99,101,114,116,105,102,105,99,97,116,101]
 | 9=>[110,111,32,105,110,118,101,114,115,101]
 | 10=>[98,97,100,32,108,105,110,101]
 | 11=>[98,97,100,32,115,116,97,116,101]
 | 99=>[117,110,107,110,111,119,110]
 | _=>[]
theorem txt_apart:∀ m n:Fin 12,1≤m.val→1≤n.val→txt m.val=txt n.val→m=n:=by decide
theorem glob_of_laidR {W:World} {l:List (String×DataW Unit)} (h:laidMet Tryz.prog (laid12++l) W):∃ r,Glob r W:=by
 obtain ⟨⟨a1,c1,s1,e1,t1,f1⟩,h⟩:=sentinel (text:=txt 1) h (g:=0) (by kernel_rfl) (by kernel_rfl)
 obtain ⟨⟨a2,c2,s2,e2,t2,f2⟩,h⟩:=sentinel (text:=txt 2) h (g:=4) (by kernel_rfl) (by kernel_rfl)
 obtain ⟨⟨a3,c3,s3,e3,t3,f3⟩,h⟩:=sentinel (text:=txt 3) h (g:=5) (by kernel_rfl) (by kernel_rfl)
 obtain ⟨⟨a4,c4,s4,e4,t4,f4⟩,h⟩:=sentinel (text:=txt 4) h (g:=1) (by kernel_rfl) (by kernel_rfl)
 obtain ⟨⟨a5,c5,s5,e5,t5,f5⟩,h⟩:=sentinel (text:=txt 5) h (g:=6) (by kernel_rfl) (by kernel_rfl)
 obtain ⟨⟨a6,c6,s6,e6,t6,f6⟩,h⟩:=sentinel (text:=txt 6) h (g:=7) (by kernel_rfl) (by kernel_rfl)
 obtain ⟨⟨a7,c7,s7,e7,t7,f7⟩,h⟩:=sentinel (text:=txt 7) h (g:=8) (by kernel_rfl) (by kernel_rfl)
 obtain ⟨⟨a8,c8,s8,e8,t8,f8⟩,h⟩:=sentinel (text:=txt 8) h (g:=9) (by kernel_rfl) (by kernel_rfl)
 obtain ⟨⟨a9,c9,s9,e9,t9,f9⟩,h⟩:=sentinel (text:=txt 9) h (g:=2) (by kernel_rfl) (by kernel_rfl)
 obtain ⟨⟨a10,c10,s10,e10,t10,f10⟩,h⟩:=sentinel (text:=txt 10) h (g:=10) (by kernel_rfl) (by kernel_rfl)
 obtain ⟨⟨a11,c11,s11,e11,t11,f11⟩,h⟩:=sentinel (text:=txt 11) h (g:=11) (by kernel_rfl) (by kernel_rfl)
 obtain ⟨⟨a99,c99,s99,e99,t99,f99⟩,h⟩:=sentinel (text:=txt 99) h (g:=12) (by kernel_rfl) (by kernel_rfl)
 clear h
 have key:∀ n:Nat,(1≤n∧n≤11)∨n=99→∃ s,W.cell? ((fun n:Nat=>match n with | 1=>a1 | 2=>a2 | 3=>a3 | 4=>a4 | 5=>a5 | 6=>a6 | 7=>a7 | 8=>a8 | 9=>a9 | 10=>a10 | 11=>a11 | _=>a99) n)=some (.string s)∧s.data.toList=txt n∧∃ c t,W.heap[((fun n:Nat=>match n with | 1=>a1 | 2=>a2 | 3=>a3 | 4=>a4 | 5=>a5 | 6=>a6 | 7=>a7 | 8=>a8 | 9=>a9 | 10=>a10 | 11=>a11 | _=>a99) n).block]?=some (.cells c t (0,0)):=by
  intro n hn
  have:n=1∨n=2∨n=3∨n=4∨n=5∨n=6∨n=7∨n=8∨n=9∨n=10∨n=11∨n=99:=by omega
  rcases this with rfl | rfl | rfl | rfl | rfl | rfl | rfl | rfl | rfl | rfl | rfl | rfl
  ·exact ⟨s1,e1,t1,f1⟩
  ·exact ⟨s2,e2,t2,f2⟩
  ·exact ⟨s3,e3,t3,f3⟩
  ·exact ⟨s4,e4,t4,f4⟩
  ·exact ⟨s5,e5,t5,f5⟩
  ·exact ⟨s6,e6,t6,f6⟩
  ·exact ⟨s7,e7,t7,f7⟩
  ·exact ⟨s8,e8,t8,f8⟩
  ·exact ⟨s9,e9,t9,f9⟩
  ·exact ⟨s10,e10,t10,f10⟩
  ·exact ⟨s11,e11,t11,f11⟩
  ·exact ⟨s99,e99,t99,f99⟩
 refine ⟨(fun n:Nat=>match n with | 1=>a1 | 2=>a2 | 3=>a3 | 4=>a4 | 5=>a5 | 6=>a6 | 7=>a7 | 8=>a8 | 9=>a9 | 10=>a10 | 11=>a11 | _=>a99),c1,c2,c3,c4,c5,c6,c7,c8,c9,c10,c11,c99,(fun n hn=>?_),fun m n hm1 hm2 hn1 hn2 he=>?_,fun n hn=>?_⟩
 ·obtain ⟨s,hs,_⟩:=key n hn
  exact ⟨s,hs⟩
 ·obtain ⟨s,hs,ts,_⟩:=key m.toNat (by omega)
  obtain ⟨s',hs',ts',_⟩:=key n.toNat (by omega)
  have hss:s=s':=by
   have:=hs.symm.trans ((congrArg W.cell? he).trans hs')
   simpa using this
  subst hss
  have:=txt_apart ⟨m.toNat,by omega⟩ ⟨n.toNat,by omega⟩ (by simp; omega) (by simp; omega) (ts.symm.trans ts')
  have:=congrArg Fin.val this
  simp at this
  omega
 ·obtain ⟨_,_,_,hf⟩:=key n hn
  exact hf
theorem glob_of_laid {W:World} (h:laidMet Tryz.prog laid12 W):∃ r,Glob r W:=glob_of_laidR (l:=[]) h
end Go.Proofs.YtkaoebokbfcmhaaGreatDoor
namespace Go.Proofs.YtkaoebokbfcmhaaGreatDoor
open Go.RowKit
set_option maxRecDepth 100000
def laid13 : List (String × DataW Unit) := ("errors.errorType", Rows.laid_errors_errorType) :: laid12
theorem rtypeNo : (Tryz.prog.cutTypes.find? (·.1 == "internal/reflectlite.rtype")).map (·.2) = some 192 := by kernel_rfl
theorem errorTypeNo : Tryz.prog.globalNamed "errors.errorType" = some 3 := by kernel_rfl
theorem typesNo:Tryz.prog.types.size=419-100:=by kernel_rfl
theorem oneError:((List.range (419-100)).filter fun t=>Tryz.prog.rowNamed t [101,114,114,111,114])=[27]:=by kernel_rfl
theorem handleErr:typeHandle Tryz.prog 27=.pointer (some ⟨13,27,none⟩):=by kernel_rfl
theorem glob_of_laidH {W:World} (h:laidMetH Tryz.prog laid13 W):∃ r,Glob r W∧GlobE W:=by
 have h' : laidMet Tryz.prog laid12 W ∧ handlesMet Tryz.prog [("errors.errorType", Rows.laid_errors_errorType)] W := h
 obtain ⟨r,hg⟩:=glob_of_laid h'.1
 refine ⟨r,hg,?_⟩
 obtain ⟨name,u,ty,e1,e2,e3,e4,e5⟩:=h'.2 _ (List.mem_cons_self ..)
 have en:name=[101,114,114,111,114]:=(Option.some.inj e1).symm
 subst en
 obtain rfl:=Option.some.inj (rtypeNo.symm.trans e2)
 have hm:ty∈(List.range (419-100)).filter fun t=>Tryz.prog.rowNamed t [101,114,114,111,114]:=List.mem_filter.2 ⟨List.mem_range.2 (by rw [← typesNo]; exact e3),e4⟩
 rw [oneError] at hm
 obtain rfl:=List.mem_singleton.1 hm
 rw [handleErr] at e5
 simpa [GlobE] using World.var?_cell errorTypeNo e5 0
end Go.Proofs.YtkaoebokbfcmhaaGreatDoor
namespace Go.Proofs.YtkaoebokbfcmhaaGreatDoor
open Go.ChangeShapes Go.WideShapes Go.ChangeAt Go.RowKit Go.Joins
namespace WholeComposedP
set_option maxRecDepth 100000 in
theorem door_met (os:Os) (args:Array Value):laidMetH Tryz.prog Rows.wholeComposedRow.laid ((World.doorLaid Tryz.prog 400 os).forCall (fun _ _=>0) ⟨#[],args,[]⟩).memory :=
 laidMetH_of_parts3 (fuel:=8) (laidMet_of_run' 8 (by kernel_rfl) (by kernel_rfl)) (by kernel_rfl) (by kernel_rfl)
set_option maxRecDepth 100000 in
theorem lifted (os:Os) (started:os.Started) (H:Type) (enc:TypeId×Value→H) :
 ReturnsInHanded {} Tryz.checked os 3 .any (fun w args=>(Rows.wholeComposedSpec.pre enc Tryz.prog Tryz.f3 [] false w args∧laidMetH Tryz.prog Rows.wholeComposedRow.laid w)∧sizedMet enc Tryz.prog Tryz.f3 (OpenSpec.ofChange Rows.wholeComposedSpec) false w args)
  (Rows.wholeComposedSpec.post enc Tryz.prog Tryz.f3 false true false false):=by
 refine returnsInHanded_of_change_and (C:=Tryz.checked) (X:=fun w _=>laidMetH Tryz.prog Rows.wholeComposedRow.laid w) (fun _ _ _ hh h=>h.of_heap hh) own started (by kernel_rfl) Tryz.func3
  (ChangeSpec.witness_shaped (enc:=enc) (C:=Tryz.checked) (os:=os) (X:=fun w _=>laidMetH Tryz.prog Rows.wholeComposedRow.laid w) false (World.doorLaid Tryz.prog 400 os) #[.agg #[.int .i64 0,.int .i64 0,.slice none 0 0],.agg #[.int .i64 0,.int .i64 0,.slice none 0 0],.slice none 0 0] 8 rfl (World.shaped_of_RefB (by kernel_rfl) (by kernel_rfl)) (by kernel_rfl) (by kernel_rfl) (by kernel_rfl) (door_met os _)) ?_
 intro W base args ds gs before hval0 hW _ hsz hL _
 have hval:∀ (j:Nat) t v,Tryz.f3.params[j]?=some t→args[j]?=some v→Value.okWide Tryz.prog W .any base t v:=hval0
 have hW':=hW
 obtain ⟨p,q,hA0,hV,rfl,hfz,hnd⟩:=hW
 have hA:DataW.TrodAll enc Tryz.prog W 0 (fun _=>true) true Tryz.f3.params.toList args.toList ds p:=hA0
 rw [Tryz.params3] at hA hval hsz
 obtain ⟨v0,vs0,d0,ds0,p0,q0,hargs,rfl,rfl,g0,t0⟩:=trodAll_cons hA
 obtain ⟨v1,vs1,d1,ds1,p1,q1,rfl,rfl,rfl,g1,t1⟩:=trodAll_cons t0
 obtain ⟨v2,vs2,d2,ds2,p2,q2,rfl,rfl,rfl,g2,t2⟩:=trodAll_cons t1
 obtain ⟨rfl,rfl,rfl⟩:=trodAll_nil t2
 obtain rfl:args=#[v0,v1,v2]:=by cases args; simp_all
 obtain ⟨rfl,rfl⟩:=trodVars_none hV
 have kk0:=g0
 have lt0:∀ x∈p0,x.block<W.heap.size:=by obtain ⟨m,hm⟩:=kk0; exact DataW.trod_lt m _ _ _ hm
 obtain ⟨kr0,rr0,u0,x0,rfl,h0,l0,b0,bk0,br0⟩:=open_ruleV (hval 0 24 v0 rfl rfl) g0 (fun n hn=>by
  have:=List.all_eq_true.1 hsz n (DataW.weights_mem_each (j:=0) (t:=24) rfl rfl n hn)
  simpa using this)
 have kk1:=g1
 have lt1:∀ x∈p1,x.block<W.heap.size:=by obtain ⟨m,hm⟩:=kk1; exact DataW.trod_lt m _ _ _ hm
 obtain ⟨kr1,rr1,u1,x1,rfl,h1,l1,b1,bk1,br1⟩:=open_ruleV (hval 1 24 v1 rfl rfl) g1 (fun n hn=>by
  have:=List.all_eq_true.1 hsz n (DataW.weights_mem_each (j:=1) (t:=24) rfl rfl n hn)
  simpa using this)
 have kk2:=g2
 have lt2:∀ x∈p2,x.block<W.heap.size:=by obtain ⟨m,hm⟩:=kk2; exact DataW.trod_lt m _ _ _ hm
 obtain ⟨x2,h2,l2,b2⟩:=open_intsT (hval 2 22 v2 rfl rfl) g2 (fun n hn=>by
  have:=List.all_eq_true.1 hsz n (DataW.weights_mem_each (j:=2) (t:=22) rfl rfl n hn)
  simpa using this)
 obtain ⟨r,hg,hG⟩:=glob_of_laidH (W:=W) (by
  exact hL)
 clear hA0 hval0
 refine (wholeComposed_any r _ _ _ _ _ _ _ _ _ _ _ hg hG h0 h1 h2).mono fun e W' ⟨x,he,bel,hxx⟩=>?_
 subst he; subst hxx
 exact ⟨_,rfl,_,_,_,[],_,[],hW',trodAll_mk1 (shut_bool Tryz.underlying4 _),(trodAll_cons_mk (Below.trod laidOut (by kernel_rfl) (of_decide_eq_true (by kernel_rfl)) kk0 bel lt0) (trodAll_cons_mk (Below.trod laidOut (by kernel_rfl) (of_decide_eq_true (by kernel_rfl)) kk1 bel lt1) (trodAll_cons_mk (Below.trod laidOut (by kernel_rfl) (of_decide_eq_true (by kernel_rfl)) kk2 bel lt2) trodAll_mk0))),rfl,bel.frame _,fun h=>by cases h⟩
theorem and_t {a b:Bool} (h:a=true) (k:b=true):(a&&b)=true:=by rw [h,k]; rfl
theorem jf_wf:Rows.wholeComposedRow.wf (OpenSpec.ofChange Rows.wholeComposedSpec)=true:=by kernel_rfl
theorem jf_lo:laidOutB Tryz.prog=true:=by kernel_rfl
theorem jf_mr:mapsRowed Tryz.prog=true:=by kernel_rfl
theorem jf_nt:namedTie Tryz.prog Rows.wholeComposedRow.named Rows.wholeComposedSpec.vars=true:=by kernel_rfl
theorem jf_ip:(Rows.wholeComposedRow.inPlace==Tryz.prog.inPlace 3)=true:=by kernel_rfl
theorem jf_uf:(Rows.wholeComposedRow.unfollowed==Tryz.prog.unfollowed 3)=true:=by kernel_rfl
theorem jf_rc:(Rows.wholeComposedRow.recurses==Tryz.prog.recurses 3)=true:=by kernel_rfl
theorem jf_nm:(Rows.wholeComposedRow.named==Tryz.prog.varsNamed 3)=true:=by kernel_rfl
theorem jf_pk:(Rows.wholeComposedRow.plainKeys==Tryz.prog.plainKeys)=true:=by kernel_rfl
theorem jf_sh:Tryz.prog.stopsHeard=true:=by kernel_rfl
theorem jf_me:Tryz.prog.mayEnter=true:=by kernel_rfl
theorem jf_lf:(Rows.wholeComposedRow.lifted==Tryz.prog.liftsFinal)=true:=by kernel_rfl
theorem jf_mk:(Tryz.prog.make==some Rows.wholeComposedRow.make)=true:=by kernel_rfl
theorem joined:joinedFacts Tryz.prog 3 Tryz.f3 Rows.wholeComposedSpec Rows.wholeComposedRow=true:=and_t (and_t (and_t (and_t (and_t (and_t (and_t (and_t (and_t (and_t (and_t (and_t (and_t (and_t (and_t (and_t (and_t (and_t (and_t (and_t (and_t (and_t (and_t (and_t (and_t (and_t (and_t (and_t (and_t (and_t (and_t jf_wf jf_lo) jf_mr) (by kernel_rfl)) jf_nt) (by kernel_rfl)) (by kernel_rfl)) (by kernel_rfl)) (by kernel_rfl)) jf_ip) jf_uf) jf_rc) jf_nm) (by kernel_rfl)) (by kernel_rfl)) (by kernel_rfl)) (by kernel_rfl)) (by kernel_rfl)) (by kernel_rfl)) (by kernel_rfl)) (by kernel_rfl)) (by kernel_rfl)) jf_pk) (by kernel_rfl)) jf_sh) jf_me) jf_lf) jf_mk) (by kernel_rfl)) (by kernel_rfl)) (by kernel_rfl)) (by kernel_rfl)
theorem fnamed:Tryz.prog.funcNamed Rows.wholeComposedRow.func=some 3:=by kernel_rfl
theorem inst:Tryz.f3.isInstance Tryz.prog Rows.wholeComposedRow.origin Rows.wholeComposedRow.targs:=of_decide_eq_true (by kernel_rfl)
theorem wrapd:Tryz.f3.isWrapper Tryz.prog Rows.wholeComposedRow.wrapper Rows.wholeComposedRow.mainSum:=by unfold Func.isWrapper; first | (rw [if_pos (by decide +kernel)]; kernel_rfl) | (rw [if_neg (by decide +kernel)]; exact ⟨rfl,rfl⟩)
theorem over:Rows.WholeComposedSaid :=
 OpenClaim.holds_of_wide 3 Tryz.f3 rfl rfl rfl rfl rfl rfl rfl ⟨rfl,rfl,rfl,rfl,rfl⟩ rfl rfl rfl rfl rfl fnamed Tryz.func3 joined
  inst wrapd
  (fun os started H enc _=>lifted os started H enc)
theorem cw:Rows.wholeComposedRow.wfByText (OpenSpec.ofChange Rows.wholeComposedSpec)=true:=by kernel_rfl
theorem cm:Tryz.prog.mainIs=some (Rows.wholeComposedCard.stood.harness.1,Rows.wholeComposedCard.stood.harness.2.toList):=by kernel_rfl
theorem cl:Rows.wholeComposedCard.stood.looks=Tryz.prog.looks []:=by kernel_rfl
theorem cg:false=Rows.wholeComposedRow.goesBy Tryz.prog:=by kernel_rfl
theorem cs:([24,24,22].all fun u=>!Tryz.prog.wantsStandIn u)=true:=by kernel_rfl
theorem card_holds:Rows.WholeComposedCardSaid :=
 Claim7.holds_tied_plain_at .later [] [.handle,.sentinel,.sentinel,.sentinel,.sentinel,.sentinel,.sentinel,.sentinel,.sentinel,.sentinel,.sentinel,.sentinel,.sentinel] true _ _
  over (fun _ h=>by cases h) cw (fun _ h=>by cases h) wholeComposed_row_tie rfl ⟨rfl,rfl⟩ cm rfl
  (fun f fn hf hfn=>by
    obtain rfl:f=3:=Option.some.inj (fnamed.symm.trans hf) |>.symm
    obtain rfl:fn=Tryz.f3:=(Option.some.inj (Tryz.func3.symm.trans hfn)).symm
    exact ⟨cl,fun j t ht=>by
     rw [Tryz.params3] at ht
     have hm:t∈[24,24,22]:=by simpa using Array.mem_of_getElem? ht
     exact (show Tryz.prog.wantsStandIn t=false by simpa using List.all_eq_true.1 cs t hm)⟩)
  cg
end WholeComposedP
#print axioms WholeComposedP.card_holds
end Go.Proofs.YtkaoebokbfcmhaaGreatDoor
