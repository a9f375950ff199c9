/-
  Proved: the second form of the law edenlaw26.LabTexts as its tied card: it returns true and never panics, for any report, where what is read is of bulk at most the second form's bound. No conditions beyond the card's own.
-/
import Derived.Test.YtncpnaoabkjegaaGreatDoorMLt11
import Derived.Test.YtncpnaoabkjegaaGreatDoorRows
import Derived.ProofKit
import Derived.OpenShut
import Derived.ShutString
import Derived.ChangeOld
import Derived.LaidMore
import Derived.Stop.Joined
import Derived.Stop.LaidErr
import Derived.Lib.SmallJoins
import Derived.LaidHandle
import Derived.Lib.LaidTab
import Derived.Test.YtncpnaoabkjegaaGreatDoorCards
import Derived.Test.YtncpnaoabkjegaaGreatDoorTie
import Derived.SevenTiedAt
import Derived.Deep.DeepHandedRow
import Derived.Deep.DeepWitnessRowRef
namespace Go.Proofs.YtncpnaoabkjegaaGreatDoor
open Go.RowKit
set_option maxRecDepth 100000
set_option maxHeartbeats 8000000
theorem text_lab (N X:Int) (oa:Option Addr) (on oc:Nat) (ol:List Int) (fa:Option Addr) (fn fc:Nat) (fl:List Int) (Y F Z L P:Bool) (w:World) (ho:IntsAt w (.slice oa on oc) ol) (hf:IntsAt w (.slice fa fn fc) fl) (bo:OkNums ol) (bf:OkNums fl) (lo:ol.length≤1048576) (lf:fl.length≤1048576) (x0:-9223372036854775808≤X) (x1:X≤9223372036854775807) (ht:Tabs w) :
 Calls Tryz.prog 38 #[.agg #[.int .i64 N,.slice oa on oc,.bool Y,.bool F,.int .i64 X,.bool Z,.slice fa fn fc,.bool L,.bool P]] w (Ret1 (fun x _=>x=.string ⟨(Lib.join (linesB (kindL Y F) N ol Y F X Z fl L P) [10]).toArray⟩) w):=by
 have b0:=belowAlloc w (.cells #[.int .i64 N,.slice oa on oc,.bool Y,.bool F,.int .i64 X,.bool Z,.slice fa fn fc,.bool L,.bool P] 46)
 have q:=Cells9.alloc w 46 (.int .i64 N) (.slice oa on oc) (.bool Y) (.bool F) (.int .i64 X) (.bool Z) (.slice fa fn fc) (.bool L) (.bool P)
 obtain ⟨W0,hW0⟩:∃ W:World,w.alloc (.cells #[.int .i64 N,.slice oa on oc,.bool Y,.bool F,.int .i64 X,.bool Z,.slice fa fn fc,.bool L,.bool P] 46)=W:=⟨_,rfl⟩
 rw [hW0] at b0 q
 replace ho:=Hd (ho.below b0)
 replace hf:=Hd (hf.below b0)
 replace ht:=Hd (ht.below b0)
 replace bo:=Hd bo
 replace bf:=Hd bf
 replace hW0:=Hd hW0
 obtain ⟨g,hg⟩:∃ g,w.heap.size=g:=⟨_,rfl⟩
 go_enter Tryz.func38,Tryz.ntmps38
 go_upto_region 2 with fail
 rw [hW0.out]
 rw [hg] at q
 obtain ⟨z0,z1,z2,z3,z4,z5,z6,z7,z8⟩:=id q
 replace hg:=Hd hg
 go_upto_block 0 with fail
 go_cut [3] from 8 (fun s wx=>s=.string ⟨(ontoL N ol).toArray⟩∧Below W0.heap.size W0 wx)
 case first =>
  by_cases c1:N=1
  ·subst c1
   go_wp2
   go_meet
   case rel=>exact ⟨rfl,Below.refl _ _⟩
  ·have d1:(N==1)=false:=by simp [c1]
   by_cases c2:N=2
   ·subst c2
    have hll:=listB_len bo.out
    have hn:¬ 9223372036854775807<3+(listB ol).length:=by omega
    go_wp2_with fail
    refine (lab_list _ ol _ ho.out bo.out lo ht.out).mono ?_
    rintro e w1 ⟨_,rfl,b1,rfl⟩
    go_wp2
    go_meet
    case rel=>exact ⟨by rw [show (⟨#[110,111,32]⟩:ByteArray)=⟨([110,111,32]:List UInt8).toArray⟩ from rfl,add_bytes]; rfl,b1⟩
   ·have d2:(N==2)=false:=by simp [c2]
    have e1:ontoL N ol=[63]:=by unfold ontoL; rw [if_neg c1,if_neg c2]
    replace c1:=Hd c1
    replace c2:=Hd c2
    replace e1:=Hd e1
    go_wp2
    go_meet
    case rel=>exact ⟨by rw [e1.out],Below.refl _ _⟩
 case rest =>
  obtain ⟨rfl,bA⟩:=hcut
  obtain ⟨WA,hWA⟩:∃ W:World,wc=W:=⟨_,rfl⟩
  rw [hWA] at bA ⊢
  clear hWA z0 z1 z2 z3 z4 z5 z6 z7 z8
  obtain ⟨z0,z1,z2,z3,z4,z5,z6,z7,z8⟩:=q.below bA
  go_upto_if 17 with fail
  go_cut [4] from 8 (fun s wx=>s=.string ⟨(sumL Z fl).toArray⟩∧Below W0.heap.size W0 wx)
  case first =>
   cases Z with
   | true =>
    have hll:=listB_len bf.out
    have hn:¬ 9223372036854775807<4+(listB fl).length:=by omega
    go_wp2_with fail
    refine (lab_list _ fl _ (hf.out.below bA) bf.out lf (ht.out.below bA)).mono ?_
    rintro e w1 ⟨_,rfl,b1,rfl⟩
    have bB:=Below.step bA b1
    go_wp2
    go_meet
    case rel=>exact ⟨by rw [show (⟨#[121,101,115,32]⟩:ByteArray)=⟨([121,101,115,32]:List UInt8).toArray⟩ from rfl,add_bytes]; rfl,bB⟩
   | false =>
    go_wp2
    go_meet
    case rel=>exact ⟨rfl,bA⟩
  case rest =>
   obtain ⟨rfl,bB⟩:=hcut
   obtain ⟨WB,hWB⟩:∃ W:World,wc=W:=⟨_,rfl⟩
   rw [hWB] at bB ⊢
   clear hWB z0 z1 z2 z3 z4 z5 z6 z7 z8 bA
   go_upto_region 10 with fail
   refine wp_region_plan (fun w'=>w'.cell? ⟨g,0,none⟩=some (.int .i64 N)∧w'.cell? ⟨g,1,none⟩=some (.slice oa on oc)∧w'.cell? ⟨g,2,none⟩=some (.bool Y)∧w'.cell? ⟨g,3,none⟩=some (.bool F)∧w'.cell? ⟨g,4,none⟩=some (.int .i64 X)∧w'.cell? ⟨g,5,none⟩=some (.bool Z)∧w'.cell? ⟨g,6,none⟩=some (.slice fa fn fc)∧w'.cell? ⟨g,7,none⟩=some (.bool L)∧w'.cell? ⟨g,8,none⟩=some (.bool P)) 26 [(0,true),(3,true),(4,true),(5,true),(6,true),(9,true),(10,true),(13,true),(14,true),(17,true),(18,true),(19,true),(20,true),(21,true),(22,true),(1,false),(2,true),(7,false),(8,true),(11,false),(12,true),(15,false),(16,true),(23,false),(24,true),(25,false)] (by kernel_rfl) (by kernel_rfl) ?_
   obtain ⟨W,hW⟩:∃ W:World,WB.drew=W:=⟨_,rfl⟩
   have bW:Below W0.heap.size W0 W:=by rw [← hW]; exact bB.drew
   rw [hW]
   clear hW bB
   have hS0:∀ w',Below W0.heap.size W0 w'→w'.cell? ⟨g,0,none⟩=some (.int .i64 N)∧w'.cell? ⟨g,1,none⟩=some (.slice oa on oc)∧w'.cell? ⟨g,2,none⟩=some (.bool Y)∧w'.cell? ⟨g,3,none⟩=some (.bool F)∧w'.cell? ⟨g,4,none⟩=some (.int .i64 X)∧w'.cell? ⟨g,5,none⟩=some (.bool Z)∧w'.cell? ⟨g,6,none⟩=some (.slice fa fn fc)∧w'.cell? ⟨g,7,none⟩=some (.bool L)∧w'.cell? ⟨g,8,none⟩=some (.bool P):=fun w' b=>by
    obtain ⟨s0,s1,s2,s3,s4,s5,s6,s7,s8⟩:=q.below b
    exact ⟨s0,s1,s2,s3,s4,s5,s6,s7,s8⟩
   have hS:=hS0 _ bW
   replace hS0:=Hd hS0
   have lK:=kindL_len Y F
   have lO:=ontoL_len (N:=N) bo.out lo
   have lS:=sumL_len (Z:=Z) bf.out lf
   have lD:=sidesB_len L P
   have lY:=yesB_len Y
   have lF:=yesB_len F
   have lI:=Lib.itoa_length_le X x0 x1
   obtain ⟨kk,hkk⟩:∃ l,kindL Y F=l:=⟨_,rfl⟩
   obtain ⟨oo,hoo⟩:∃ l,ontoL N ol=l:=⟨_,rfl⟩
   obtain ⟨ss,hss⟩:∃ l,sumL Z fl=l:=⟨_,rfl⟩
   obtain ⟨dd,hdd⟩:∃ l,sidesB L P=l:=⟨_,rfl⟩
   obtain ⟨yy,hyy⟩:∃ l,yesB Y=l:=⟨_,rfl⟩
   obtain ⟨ff,hff⟩:∃ l,yesB F=l:=⟨_,rfl⟩
   obtain ⟨ii,hii⟩:∃ l,Lib.itoa X=l:=⟨_,rfl⟩
   rw [hkk] at lK
   rw [hoo] at lO ⊢
   rw [hss] at lS ⊢
   rw [hdd] at lD
   rw [hyy] at lY
   rw [hff] at lF
   rw [hii] at lI
   replace hkk:=Hd hkk
   replace hoo:=Hd hoo
   replace hss:=Hd hss
   replace hdd:=Hd hdd
   replace hyy:=Hd hyy
   replace hff:=Hd hff
   replace hii:=Hd hii
   refine pqY 22 hS ?_
   refine pqY 25 hS ?_
   obtain ⟨t26,e26⟩:∃ l:List UInt8,([111,110,116,111,32]:List UInt8)++oo=l:=⟨_,rfl⟩
   have l26:t26.length≤30000005:=by rw [← e26,List.length_append]; simp only [List.length_cons,List.length_nil]; omega
   replace e26:=Hd e26
   refine headY (v:=.string ⟨t26.toArray⟩) (some 26) rfl rfl (Or.inl ⟨by rfl,fun W' _=>by rw [← e26.out]; exact add_step [111,110,116,111,32] oo W' rfl rfl rfl (by simp only [List.length_cons,List.length_nil]; omega)⟩) hS ?_
   simp only [pq]
   refine pqY 27 hS ?_
   refine pqY 28 hS ?_
   refine pqY 31 hS ?_
   refine pqY 32 hS ?_
   refine pqY 35 hS ?_
   refine pqY 36 hS ?_
   refine pqY 39 hS ?_
   obtain ⟨t40,e40⟩:∃ l:List UInt8,([97,100,100,105,116,105,118,101,32]:List UInt8)++ss=l:=⟨_,rfl⟩
   have l40:t40.length≤30000009:=by rw [← e40,List.length_append]; simp only [List.length_cons,List.length_nil]; omega
   replace e40:=Hd e40
   refine headY (v:=.string ⟨t40.toArray⟩) (some 40) rfl rfl (Or.inl ⟨by rfl,fun W' _=>by rw [← e40.out]; exact add_step [97,100,100,105,116,105,118,101,32] ss W' rfl rfl rfl (by simp only [List.length_cons,List.length_nil]; omega)⟩) hS ?_
   simp only [pq]
   refine pqY 41 hS ?_
   refine pqY 42 hS ?_
   refine pqY 43 hS ?_
   refine pqY 44 hS ?_
   refine headC rfl (fun KK hK=>?_)
   go_simp
   refine (kind_any _ _ _ _ _ _ _ Y F W).mono ?_
   rintro e w1 ⟨_,rfl,b1,rfl⟩
   have bW1:=Below.step bW b1
   have hS1:=hS0.out _ bW1
   rw [kindL_eq]
   rw [hkk.out]
   refine hK _ _ hS1 ?_
   clear hK KK
   obtain ⟨t24,e24⟩:∃ l:List UInt8,([107,105,110,100,32]:List UInt8)++kk=l:=⟨_,rfl⟩
   have l24:t24.length≤15:=by rw [← e24,List.length_append]; simp only [List.length_cons,List.length_nil]; omega
   replace e24:=Hd e24
   refine headY (v:=.string ⟨t24.toArray⟩) (some 24) rfl rfl (Or.inl ⟨by rfl,fun W' _=>by rw [← e24.out]; exact add_step [107,105,110,100,32] kk W' rfl rfl rfl (by simp only [List.length_cons,List.length_nil]; omega)⟩) hS1 ?_
   simp only [pq]
   refine headC rfl (fun KK hK=>?_)
   go_simp
   refine (yes_lab Y _).mono ?_
   rintro e w2 ⟨_,rfl,b2,rfl⟩
   have bW2:=Below.step bW1 b2
   have hS2:=hS0.out _ bW2
   rw [hyy.out]
   refine hK _ _ hS2 ?_
   clear hK KK
   obtain ⟨t30,e30⟩:∃ l:List UInt8,([111,110,101,32]:List UInt8)++yy=l:=⟨_,rfl⟩
   have l30:t30.length≤7:=by rw [← e30,List.length_append]; simp only [List.length_cons,List.length_nil]; omega
   replace e30:=Hd e30
   refine headY (v:=.string ⟨t30.toArray⟩) (some 30) rfl rfl (Or.inl ⟨by rfl,fun W' _=>by rw [← e30.out]; exact add_step [111,110,101,32] yy W' rfl rfl rfl (by simp only [List.length_cons,List.length_nil]; omega)⟩) hS2 ?_
   simp only [pq]
   refine headC rfl (fun KK hK=>?_)
   go_simp
   refine (yes_lab F _).mono ?_
   rintro e w3 ⟨_,rfl,b3,rfl⟩
   have bW3:=Below.step bW2 b3
   have hS3:=hS0.out _ bW3
   rw [hff.out]
   refine hK _ _ hS3 ?_
   clear hK KK
   obtain ⟨t34,e34⟩:∃ l:List UInt8,([102,105,110,105,116,101,32]:List UInt8)++ff=l:=⟨_,rfl⟩
   have l34:t34.length≤10:=by rw [← e34,List.length_append]; simp only [List.length_cons,List.length_nil]; omega
   replace e34:=Hd e34
   refine headY (v:=.string ⟨t34.toArray⟩) (some 34) rfl rfl (Or.inl ⟨by rfl,fun W' _=>by rw [← e34.out]; exact add_step [102,105,110,105,116,101,32] ff W' rfl rfl rfl (by simp only [List.length_cons,List.length_nil]; omega)⟩) hS3 ?_
   simp only [pq]
   refine headC rfl (fun KK hK=>?_)
   go_simp
   refine (itoa_any X x0 x1 _ (ht.out.below bW3)).mono ?_
   rintro e w4 ⟨_,rfl,b4,rfl⟩
   have bW4:=Below.step bW3 b4
   have hS4:=hS0.out _ bW4
   rw [hii.out]
   refine hK _ _ hS4 ?_
   clear hK KK
   obtain ⟨t38,e38⟩:∃ l:List UInt8,([105,110,118,101,114,115,101,32]:List UInt8)++ii=l:=⟨_,rfl⟩
   have l38:t38.length≤29:=by rw [← e38,List.length_append]; simp only [List.length_cons,List.length_nil]; omega
   replace e38:=Hd e38
   refine headY (v:=.string ⟨t38.toArray⟩) (some 38) rfl rfl (Or.inl ⟨by rfl,fun W' _=>by rw [← e38.out]; exact add_step [105,110,118,101,114,115,101,32] ii W' rfl rfl rfl (by simp only [List.length_cons,List.length_nil]; omega)⟩) hS4 ?_
   simp only [pq]
   refine headC rfl (fun KK hK=>?_)
   go_simp
   refine (sides_lab L P _).mono ?_
   rintro e w5 ⟨_,rfl,b5,rfl⟩
   have bW5:=Below.step bW4 b5
   have hS5:=hS0.out _ bW5
   rw [hdd.out]
   refine hK _ _ hS5 ?_
   clear hK KK
   obtain ⟨t46,e46⟩:∃ l:List UInt8,([112,101,114,109,117,116,101,115,32]:List UInt8)++dd=l:=⟨_,rfl⟩
   have l46:t46.length≤14:=by rw [← e46,List.length_append]; simp only [List.length_cons,List.length_nil]; omega
   replace e46:=Hd e46
   refine headY (v:=.string ⟨t46.toArray⟩) (some 46) rfl rfl (Or.inl ⟨by rfl,fun W' _=>by rw [← e46.out]; exact add_step [112,101,114,109,117,116,101,115,32] dd W' rfl rfl rfl (by simp only [List.length_cons,List.length_nil]; omega)⟩) hS5 ?_
   simp only [pq]
   refine headC rfl (fun KK hK=>?_)
   go_simp
   have ba:=belowAlloc w5 (.cells #[.string ⟨t24.toArray⟩,.string ⟨t26.toArray⟩,.string ⟨t30.toArray⟩,.string ⟨t34.toArray⟩,.string ⟨t38.toArray⟩,.string ⟨t40.toArray⟩,.string ⟨t46.toArray⟩,.string ⟨#[]⟩] 9)
   have bE:=Below.step bW5 ba
   have hSE:=hS0.out _ bE
   refine hK _ _ hSE ?_
   clear hK KK
   refine head0 ?_
   simp only [List.drop_succ_cons,List.drop_zero]
   have hend:Lib.join (([⟨t24.toArray⟩,⟨t26.toArray⟩,⟨t30.toArray⟩,⟨t34.toArray⟩,⟨t38.toArray⟩,⟨t40.toArray⟩,⟨t46.toArray⟩,⟨#[]⟩]:List ByteArray).map (·.data.toList)) ((⟨#[10]⟩:ByteArray).data.toList)=Lib.join (linesB (kindL Y F) N ol Y F X Z fl L P) [10]:=by
    unfold linesB; rw [hkk.out,hoo.out,hss.out,hdd.out,hyy.out,hff.out,hii.out,e24.out,e26.out,e30.out,e34.out,e38.out,e40.out,e46.out]
    simp
   have hjl:(Lib.join (([⟨t24.toArray⟩,⟨t26.toArray⟩,⟨t30.toArray⟩,⟨t34.toArray⟩,⟨t38.toArray⟩,⟨t40.toArray⟩,⟨t46.toArray⟩,⟨#[]⟩]:List ByteArray).map (·.data.toList)) ((⟨#[10]⟩:ByteArray).data.toList)).length≤140737488355328:=by
    simp [Lib.join]
    omega
   have hcell:∀ (j:Nat) x,([⟨t24.toArray⟩,⟨t26.toArray⟩,⟨t30.toArray⟩,⟨t34.toArray⟩,⟨t38.toArray⟩,⟨t40.toArray⟩,⟨t46.toArray⟩,⟨#[]⟩]:List ByteArray)[j]?=some x→(w5.alloc (.cells #[.string ⟨t24.toArray⟩,.string ⟨t26.toArray⟩,.string ⟨t30.toArray⟩,.string ⟨t34.toArray⟩,.string ⟨t38.toArray⟩,.string ⟨t40.toArray⟩,.string ⟨t46.toArray⟩,.string ⟨#[]⟩] 9)).cell? ⟨w5.heap.size,0+j,none⟩=some (.string x):=by
    intro j x hj
    have hj8:j<8:=by have:=(List.getElem?_eq_some_iff.1 hj).1; simpa using this
    obtain rfl | rfl | rfl | rfl | rfl | rfl | rfl | rfl:j=0∨j=1∨j=2∨j=3∨j=4∨j=5∨j=6∨j=7:=by omega
    all_goals (simp at hj; subst hj; simp [go_sem])
   have J:=join_any w5.heap.size 0 8 [⟨t24.toArray⟩,⟨t26.toArray⟩,⟨t30.toArray⟩,⟨t34.toArray⟩,⟨t38.toArray⟩,⟨t40.toArray⟩,⟨t46.toArray⟩,⟨#[]⟩] ⟨#[10]⟩ _ hcell (by simp) (by simp) (by simp) hjl
   rw [hend] at J
   clear hjl hend hcell
   obtain ⟨WE,hWE⟩:∃ W:World,w5.alloc (.cells #[.string ⟨t24.toArray⟩,.string ⟨t26.toArray⟩,.string ⟨t30.toArray⟩,.string ⟨t34.toArray⟩,.string ⟨t38.toArray⟩,.string ⟨t40.toArray⟩,.string ⟨t46.toArray⟩,.string ⟨#[]⟩] 9)=W:=⟨_,rfl⟩
   rw [hWE] at J bE ⊢
   clear hWE ba
   go_wp2
   refine NoPanic.normal ?_
   go_wp2_with fail
   refine J.mono ?_
   rintro e w9 ⟨_,rfl,b9,rfl⟩
   have bF:=Below.step b0 (Below.step bE b9)
   go_wp2
   go_ret
   exact ⟨_,rfl,bF,rfl⟩
theorem beqB (s:ByteArray):(s==s)=true:=by cases s; show ((_:Array UInt8)==_)=true; simp
theorem labTexts_any (r:Nat→Addr) (N X:Int) (oa:Option Addr) (on oc:Nat) (ol:List Int) (fa:Option Addr) (fn fc:Nat) (fl:List Int) (Y F Z L P:Bool) (w:World) (hgl:Glob r w) (hG:GlobE w) (ht:Tabs w) (ho:IntsAt w (.slice oa on oc) ol) (hf:IntsAt w (.slice fa fn fc) fl) (bo:OkNums ol) (bf:OkNums fl) (lo:ol.length≤1048576) (lf:fl.length≤1048576) (x0:-9223372036854775808≤X) (x1:X≤9223372036854775807) :
 Calls Tryz.prog 10 #[.agg #[.int .i64 N,.slice oa on oc,.bool Y,.bool F,.int .i64 X,.bool Z,.slice fa fn fc,.bool L,.bool P]] w (Ret1 (fun x _=>x=.bool true) w):=by
 have b0:=belowAlloc w (.cells #[.int .i64 N,.slice oa on oc,.bool Y,.bool F,.int .i64 X,.bool Z,.slice fa fn fc,.bool L,.bool P] 46)
 obtain ⟨f0,hR0,nx,-⟩:=(Rows.void w.heap.size w).mkN (40,0) (Nat.le_refl _) 46 9 #[.int .i64 N,.slice oa on oc,.bool Y,.bool F,.int .i64 X,.bool Z,.slice fa fn fc,.bool L,.bool P] rfl
 obtain ⟨W0,hW0⟩:∃ W:World,w.alloc (.cells #[.int .i64 N,.slice oa on oc,.bool Y,.bool F,.int .i64 X,.bool Z,.slice fa fn fc,.bool L,.bool P] 46)=W:=⟨_,rfl⟩
 rw [hW0] at b0 hR0
 replace ho:=Hd ho
 replace hf:=Hd hf
 replace ht:=Hd ht
 replace bo:=Hd bo
 replace bf:=Hd bf
 replace hW0:=Hd hW0
 have haw:=awake26 r W0 (hgl.below b0) (hG.below b0)
 replace hR0:=Hd hR0
 obtain ⟨x,hx⟩:∃ g,w.heap.size=g:=⟨_,rfl⟩
 go_enter Tryz.func10,Tryz.ntmps10
 go_upto_region 1 with fail
 rw [hW0.out]
 rw [hx] at nx
 replace hx:=Hd hx
 go_wp2_with fail
 refine haw.mono ?_
 rintro e w1 ⟨_,rfl,b1,rfl⟩
 clear haw
 have c1:=Below.step b0 b1
 have R1:=hR0.out.below b1
 obtain ⟨f1,hR1,ny,o1⟩:=R1.mkN (41,0) c1.size 46 9 #[.int .i64 N,.slice oa on oc,.bool Y,.bool F,.int .i64 X,.bool Z,.slice fa fn fc,.bool L,.bool P] rfl
 replace nx:=(o1 _ (by decide)).trans nx
 have c2:=Below.step c1 (belowAlloc w1 (.cells #[.int .i64 N,.slice oa on oc,.bool Y,.bool F,.int .i64 X,.bool Z,.slice fa fn fc,.bool L,.bool P] 46))
 obtain ⟨W1,hW1⟩:∃ W:World,w1.alloc (.cells #[.int .i64 N,.slice oa on oc,.bool Y,.bool F,.int .i64 X,.bool Z,.slice fa fn fc,.bool L,.bool P] 46)=W:=⟨_,rfl⟩
 rw [hW1] at hR1 c2
 have hyx:¬ (w1.heap.size=x):=by have:=(R1.lowN (hi:=(by first | exact (o1 _ (by decide)).symm.trans nx))).2; omega
 have z0:=R1.cellN ((o1 _ (by decide)).symm.trans nx) 0 (by decide)
 have z1:=R1.cellN ((o1 _ (by decide)).symm.trans nx) 1 (by decide)
 have z2:=R1.cellN ((o1 _ (by decide)).symm.trans nx) 2 (by decide)
 have z3:=R1.cellN ((o1 _ (by decide)).symm.trans nx) 3 (by decide)
 have z4:=R1.cellN ((o1 _ (by decide)).symm.trans nx) 4 (by decide)
 have z5:=R1.cellN ((o1 _ (by decide)).symm.trans nx) 5 (by decide)
 have z6:=R1.cellN ((o1 _ (by decide)).symm.trans nx) 6 (by decide)
 have z7:=R1.cellN ((o1 _ (by decide)).symm.trans nx) 7 (by decide)
 have z8:=R1.cellN ((o1 _ (by decide)).symm.trans nx) 8 (by decide)
 replace hW1:=Hd hW1
 replace hR1:=Hd hR1
 clear R1
 go_upto_region 4 with fail
 rw [hW1.out]
 obtain ⟨y,hy⟩:∃ g,w1.heap.size=g:=⟨_,rfl⟩
 rw [hy] at ny hyx ⊢
 clear z0 z1 z2 z3 z4 z5 z6 z7 z8
 have z1:=hR1.out.cellN nx 1 (by decide)
 go_wp2_with fail
 refine (lent_any _ ol W1 (ho.out.below c2) (by omega)).mono ?_
 rintro e w2 ⟨m1,rfl,b2,hm1⟩
 obtain ⟨ma,mn,mc,rfl⟩:=hm1.at.shape
 have c3:=Below.step c2 b2
 have R2:=hR1.out.below b2
 have y1:=R2.cellN ny 1 (by decide)
 have k1:=R2.frzN ny 1
 have lowy:=R2.lowN ny
 have lowy1:=(hR1.out.lowN ny).2
 obtain ⟨f2,R3,ny2,o2⟩:=R2.stN ny 1 (.slice ma mn mc)
 have nx2:=(o2 _ (by decide)).trans nx
 have hm2:=hm1.setBelow (a:=⟨y,1,none⟩) lowy1 (.slice ma mn mc)
 have c4:=c3.setCell (p:=⟨y,1,none⟩) lowy.1 (.slice ma mn mc)
 obtain ⟨W2,hW2⟩:∃ W:World,w2.setCell ⟨y,1,none⟩ (.slice ma mn mc)=W:=⟨_,rfl⟩
 rw [hW2] at R3 hm2 c4
 replace hW2:=Hd hW2
 replace hm2:=Hd hm2
 clear hm1 R2 z1
 go_upto_region 5 with fail
 rw [hW2.out]
 clear y1 k1
 have z1:=R3.cellN nx2 6 (by decide)
 go_wp2_with fail
 refine (lent_any _ fl W2 (hf.out.below c4) (by omega)).mono ?_
 rintro e w3 ⟨m2,rfl,b3,hn1⟩
 obtain ⟨na,nn,nc,rfl⟩:=hn1.at.shape
 have c5:=Below.step c4 b3
 have R4:=R3.below b3
 have y1:=R4.cellN ny2 6 (by decide)
 have k1:=R4.frzN ny2 6
 have lowy2:=(R3.lowN ny2).2
 obtain ⟨f3,R5,ny3,o3⟩:=R4.stN ny2 6 (.slice na nn nc)
 have nx3:=(o3 _ (by decide)).trans nx2
 have hn2:=hn1.setBelow (a:=⟨y,6,none⟩) lowy2 (.slice na nn nc)
 have hm3:=(hm2.out.below b3).setBelow (a:=⟨y,6,none⟩) lowy1 (.slice na nn nc)
 have c6:=c5.setCell (p:=⟨y,6,none⟩) lowy.1 (.slice na nn nc)
 obtain ⟨W3,hW3⟩:∃ W:World,w3.setCell ⟨y,6,none⟩ (.slice na nn nc)=W:=⟨_,rfl⟩
 rw [hW3] at R5 hn2 hm3 c6
 replace hW3:=Hd hW3
 replace hn2:=Hd hn2
 replace hm3:=Hd hm3
 clear hn1 R4 z1 R3 hm2
 go_upto_region 6 with fail
 rw [hW3.out]
 clear y1 k1
 refine wp_region_plan (fun w'=>w'.cell? ⟨x,0,none⟩=some (.int .i64 N)∧w'.cell? ⟨x,1,none⟩=some (.slice oa on oc)∧w'.cell? ⟨x,2,none⟩=some (.bool Y)∧w'.cell? ⟨x,3,none⟩=some (.bool F)∧w'.cell? ⟨x,4,none⟩=some (.int .i64 X)∧w'.cell? ⟨x,5,none⟩=some (.bool Z)∧w'.cell? ⟨x,6,none⟩=some (.slice fa fn fc)∧w'.cell? ⟨x,7,none⟩=some (.bool L)∧w'.cell? ⟨x,8,none⟩=some (.bool P)∧w'.cell? ⟨y,0,none⟩=some (.int .i64 N)∧w'.cell? ⟨y,1,none⟩=some (.slice ma mn mc)∧w'.cell? ⟨y,2,none⟩=some (.bool Y)∧w'.cell? ⟨y,3,none⟩=some (.bool F)∧w'.cell? ⟨y,4,none⟩=some (.int .i64 X)∧w'.cell? ⟨y,5,none⟩=some (.bool Z)∧w'.cell? ⟨y,6,none⟩=some (.slice na nn nc)∧w'.cell? ⟨y,7,none⟩=some (.bool L)∧w'.cell? ⟨y,8,none⟩=some (.bool P)) 26 [(0,true),(2,true),(1,false),(3,false),(4,true),(5,true),(6,true),(8,true),(7,false),(9,false),(10,true),(11,true),(12,true),(13,true),(14,true),(15,true),(16,true),(17,false),(18,true),(19,true),(20,true),(21,true),(22,true),(23,true),(24,false),(25,true)] (by kernel_rfl) (by kernel_rfl) ?_
 obtain ⟨W,hW⟩:∃ W:World,W3.drew=W:=⟨_,rfl⟩
 have bW:Below w.heap.size w W:=by rw [← hW]; exact c6.drew
 have RW:Rows w.heap.size W f3:=by rw [← hW]; exact R5.drew
 have hmW:LentI W1.heap.size W (.slice ma mn mc) ol:=by rw [← hW]; exact hm3.out.below ((Below.refl _ _).drew)
 have hnW:LentI W2.heap.size W (.slice na nn nc) fl:=by rw [← hW]; exact hn2.out.below ((Below.refl _ _).drew)
 rw [hW]
 clear hW R5 c6 hm3 hn2
 have hS0:∀ w',Below W.heap.size W w'→w'.cell? ⟨x,0,none⟩=some (.int .i64 N)∧w'.cell? ⟨x,1,none⟩=some (.slice oa on oc)∧w'.cell? ⟨x,2,none⟩=some (.bool Y)∧w'.cell? ⟨x,3,none⟩=some (.bool F)∧w'.cell? ⟨x,4,none⟩=some (.int .i64 X)∧w'.cell? ⟨x,5,none⟩=some (.bool Z)∧w'.cell? ⟨x,6,none⟩=some (.slice fa fn fc)∧w'.cell? ⟨x,7,none⟩=some (.bool L)∧w'.cell? ⟨x,8,none⟩=some (.bool P)∧w'.cell? ⟨y,0,none⟩=some (.int .i64 N)∧w'.cell? ⟨y,1,none⟩=some (.slice ma mn mc)∧w'.cell? ⟨y,2,none⟩=some (.bool Y)∧w'.cell? ⟨y,3,none⟩=some (.bool F)∧w'.cell? ⟨y,4,none⟩=some (.int .i64 X)∧w'.cell? ⟨y,5,none⟩=some (.bool Z)∧w'.cell? ⟨y,6,none⟩=some (.slice na nn nc)∧w'.cell? ⟨y,7,none⟩=some (.bool L)∧w'.cell? ⟨y,8,none⟩=some (.bool P):=fun w' b=>by
  have R:=RW.below b
  exact ⟨R.cellN nx3 0 (by decide),R.cellN nx3 1 (by decide),R.cellN nx3 2 (by decide),R.cellN nx3 3 (by decide),R.cellN nx3 4 (by decide),R.cellN nx3 5 (by decide),R.cellN nx3 6 (by decide),R.cellN nx3 7 (by decide),R.cellN nx3 8 (by decide),R.cellN ny3 0 (by decide),R.cellN ny3 1 (by decide),R.cellN ny3 2 (by decide),R.cellN ny3 3 (by decide),R.cellN ny3 4 (by decide),R.cellN ny3 5 (by decide),R.cellN ny3 6 (by decide),R.cellN ny3 7 (by decide),R.cellN ny3 8 (by decide)⟩
 have hS:=hS0 _ (Below.refl _ _)
 replace hS0:=Hd hS0
 replace RW:=Hd RW
 replace hmW:=Hd hmW
 replace hnW:=Hd hnW
 clear nx nx2 ny ny2 lowy lowy1 lowy2 hyx
 refine pqY 15 hS ?_
 refine pqY 17 hS ?_
 refine headC rfl (fun KK hK=>?_)
 go_simp
 refine (kind_any _ _ _ _ _ _ _ Y F W).mono ?_
 rintro e v1 ⟨_,rfl,e1,rfl⟩
 have d1:=e1
 have hS1:=hS0.out _ d1
 refine hK _ _ hS1 ?_
 clear hK KK
 refine headC rfl (fun KK hK=>?_)
 go_simp
 refine (kind_ref _ _ _ _ _ _ _ Y F _).mono ?_
 rintro e v2 ⟨_,rfl,e2,rfl⟩
 have d2:=Below.step d1 e2
 have hS2:=hS0.out _ d2
 obtain ⟨K0,hK0⟩:∃ k,kindB Y F=k:=⟨_,rfl⟩
 rw [hK0]
 replace hK0:=Hd hK0
 have bk:=beqB K0
 refine hK _ _ hS2 ?_
 clear hK KK
 refine pqY 19 hS2 ?_
 refine pqY 20 hS2 ?_
 refine pqY 21 hS2 ?_
 refine pqY 23 hS2 ?_
 refine headC rfl (fun KK hK=>?_)
 go_simp
 refine (text_lab N X ma mn mc ol na nn nc fl Y F Z L P _ (hmW.out.below d2).at (hnW.out.below d2).at bo.out bf.out lo lf x0 x1 (ht.out.below (Below.step bW d2))).mono ?_
 rintro e v3 ⟨_,rfl,e3,rfl⟩
 have d3:=Below.step d2 e3
 have hS3:=hS0.out _ d3
 refine hK _ _ hS3 ?_
 clear hK KK
 refine headC rfl (fun KK hK=>?_)
 go_simp
 refine (text_ref N X oa on oc ol fa fn fc fl Y F Z L P _ (ho.out.below (Below.step bW d3)) (hf.out.below (Below.step bW d3)) bo.out bf.out lo lf x0 x1).mono ?_
 rintro e v4 ⟨_,rfl,e4,rfl⟩
 have d4:=Below.step d3 e4
 have hS4:=hS0.out _ d4
 obtain ⟨T0,hT0⟩:∃ k,(⟨(Lib.join (linesB (kindL Y F) N ol Y F X Z fl L P) [10]).toArray⟩:ByteArray)=k:=⟨_,rfl⟩
 rw [hT0]
 replace hT0:=Hd hT0
 have bt:=beqB T0
 refine hK _ _ hS4 ?_
 clear hK KK
 refine pqY 25 hS4 ?_
 refine pqY 26 hS4 ?_
 refine pqY 27 hS4 ?_
 refine pqY 28 hS4 ?_
 refine pqY 29 hS4 ?_
 refine pqY 30 hS4 ?_
 refine pqY 31 hS4 ?_
 refine headC rfl (fun KK hK=>?_)
 go_simp
 refine (kept_any _ _ _ ol _ (hmW.out.below d4) (ho.out.below (Below.step bW d4)) (by omega)).mono ?_
 rintro e v5 hq
 obtain ⟨rfl,e5⟩:=hq.below
 have d5:=Below.step d4 e5
 have hS5:=hS0.out _ d5
 refine hK _ _ hS5 ?_
 clear hK KK hq
 refine pqY 33 hS5 ?_
 refine pqY 34 hS5 ?_
 refine pqY 35 hS5 ?_
 refine pqY 36 hS5 ?_
 refine pqY 37 hS5 ?_
 refine pqY 38 hS5 ?_
 refine headC rfl (fun KK hK=>?_)
 go_simp
 refine (kept_any _ _ _ fl _ (hnW.out.below d5) (hf.out.below (Below.step bW d5)) (by omega)).mono ?_
 rintro e v6 hq
 obtain ⟨rfl,e6⟩:=hq.below
 have d6:=Below.step d5 e6
 have hS6:=hS0.out _ d6
 refine hK _ _ hS6 ?_
 clear hK KK hq
 refine pqY 40 hS6 ?_
 refine head0 ?_
 simp only [List.drop_succ_cons,List.drop_zero]
 have bF:=Below.step bW d6
 go_wp2
 refine NoPanic.normal ?_
 go_wp2
 go_ret
 exact ⟨_,rfl,bF,rfl⟩
end Go.Proofs.YtncpnaoabkjegaaGreatDoor
namespace Go.Proofs.YtncpnaoabkjegaaGreatDoor
open Go.ChangeShapes Go.WideShapes Go.ChangeAt Go.RowKit Go.Joins
set_option maxRecDepth 100000
theorem own:ownKnob Tryz.prog.godebug=none:=by kernel_rfl
theorem laidOut:laidOutB Tryz.prog=true:=by kernel_rfl
theorem cellsInt:Tryz.prog.cellsOf 3=1:=by kernel_rfl
theorem uInt:Tryz.prog.underlying 3=some (.int .i64):=by kernel_rfl
theorem bytesInt:Tryz.prog.bytesOf 3=8:=by kernel_rfl
theorem i64_of_wf {n:Int} (h:(Lit.int .i64 n).wf=true):I64 n:=by
 have:=bounds_i64 h
 unfold I64
 omega
theorem open_intsV {H:Type} {enc:TypeId×Value→H} {W:World} {held:Bool} {fuel:Nat} {v:Value} {y:DataW H×List MemPlace}
 (h:DataW.trod enc Tryz.prog W 0 (fun _=>true) held fuel 22 [v]=some y) (hw:∀ n∈y.1.weights Tryz.prog 22,n≤reachBytes) :
 ∃ xs,IntsAt W v xs∧xs.length≤17592186043904∧∀ x∈xs,I64 x:=by
 rcases open_ints uInts uInt cellsInt h with ⟨hcs,_⟩ | ⟨a,len,cap,zs,hcs,_,hl,hm,hz,hx,hcell,hwz⟩
 ·simp at hcs
  subst hcs
  exact ⟨[],(OwnI.nil 0 W).at,by simp,by simp⟩
 ·simp at hcs
  subst hcs
  simp only [if_true] at hz
  have hzl:(zs.take len).length=len:=by simp; omega
  refine ⟨zs.take len,⟨some a,cap,by rw [hzl],by rw [hzl]; exact hl,hm,(fun e=>by cases e),fun i hi=>?_⟩,?_,fun x hx=>i64_of_wf (hwz x (List.mem_of_mem_take hx))⟩
  ·have hi':i<zs.length:=by rw [hzl] at hi; omega
   show W.cell? (a.add i)=_
   rw [hcell i hi']
   simp [List.getD,hi']
  ·rw [hx] at hw
   have:=hw ((lits (H:=H) .i64 (zs.take len)).length*8+(lits (H:=H) .i64 (zs.drop len)).length*8) (by
    simp only [DataW.weights,uInts,bytesInt,List.mem_cons]
    left; omega)
   simp only [lits,List.length_map,reachBytes] at this
   omega
theorem star : "*" ++ "errors.errorString" = "*errors.errorString" := by decide
theorem rowES (u : TypeId) (h : Tryz.prog.typeName? 3 u = some "*errors.errorString") : u = 322 :=
 typeName_ptr_named (nm := "errors.errorString") (by rw [star]; kernel_rfl) (by kernel_rfl) (by decide) u (by rw [star]; exact h)
theorem pES:Tryz.prog.underlying 322=some (.pointer 340):=by kernel_rfl
theorem cES:Tryz.prog.cellsOf 340=1:=by kernel_rfl
theorem cStr:Tryz.prog.cellsOf 9=1:=by kernel_rfl
def laid12 : List (String × DataW Unit) := [("eden/api.BadRule", Rows.laid_eden_api_BadRule), ("eden/api.BadWord", Rows.laid_eden_api_BadWord), ("eden/api.BadArg", Rows.laid_eden_api_BadArg), ("eden/api.TooBig", Rows.laid_eden_api_TooBig), ("eden/api.NoBudget", Rows.laid_eden_api_NoBudget), ("eden/api.BadText", Rows.laid_eden_api_BadText), ("eden/api.BadPatch", Rows.laid_eden_api_BadPatch), ("eden/api.BadCert", Rows.laid_eden_api_BadCert), ("eden/api.NoInverse", Rows.laid_eden_api_NoInverse), ("eden/api.BadLine", Rows.laid_eden_api_BadLine), ("eden/api.BadState", Rows.laid_eden_api_BadState), ("eden/api.Unknown", Rows.laid_eden_api_Unknown)]
theorem sentinel {n:String} {text:List UInt8} {r:List (String×DataW Unit)} {W:World} {g:Nat}
 (h : laidMet Tryz.prog ((n, .iface "*errors.errorString" (.ptr (.agg [.lit (.string text)]))) :: r) W)
 (hg:Tryz.prog.globalNamed n=some g) (ht:(Tryz.prog.globals[g]?).map (·.type)=some 27) :
 (∃ a:Addr,W.cell? ⟨g,0,none⟩=some (.iface 322 (.pointer (some a)))∧∃ s,W.cell? a=some (.string s)∧s.data.toList=text∧∃ c t,W.heap[a.block]?=some (.cells c t (0,0)))∧laidMet Tryz.prog r W:=by
 refine ⟨?_,h.tail⟩
 obtain ⟨ps,⟨g0,t0,cs0,f0,p0,q0,hg0,ht0,hv0,hd0,_,e0⟩,_,hrows⟩:=h
 obtain rfl:=Option.some.inj (hg.symm.trans hg0)
 obtain rfl:=Option.some.inj (ht.symm.trans ht0)
 subst e0
 obtain ⟨l0⟩:=cs0
 have ok0:∀ u v,l0=[.iface u v]→Value.okWide Tryz.prog W .any 0 u v:=fun u v e=>by
  subst e
  exact (hrows g 0 (by simp [MemPlace.row])).2 u v (by simpa using World.var?_cell hg hv0 0)
 obtain ⟨a0,s0,rfl,hc0,hs0,hz0,rfl⟩:=errorString_of_trod Tryz.underlying27 rowES pES Tryz.underlying340 rfl rfl Tryz.underlying9 cES cStr hd0 ok0
 exact ⟨a0,by simpa using World.var?_cell hg hv0 0,s0,hc0,hs0,(hrows a0.block a0.off (by simp [MemPlace.row])).1⟩
def txt:Nat→List UInt8
 | 1=>[98,97,100,32,114,117,108,101]
 | 2=>[98,97,100,32,119,111,114,100]
 | 3=>[98,97,100,32,97,114,103,117,109,101,110,116]
 | 4=>[116,111,111,32,98,105,103]
 | 5=>[110,111,32,98,117,100,103,101,116]
 | 6=>[98,97,100,32,116,101,120,116]
 | 7=>[98,97,100,32,112,97,116,99,104]
 | 8=>[98,97,100,32,99,101,114,116,105,102,105,99,97,116,101]
 | 9=>[110,111,32,105,110,118,101,114,115,101]
 | 10=>[98,97,100,32,108,105,110,101]
 | 11=>[98,97,100,32,115,116,97,116,101]
 | 99=>[117,110,107,110,111,119,110]
 | _=>[]
theorem txt_apart:∀ m n:Fin 12,1≤m.val→1≤n.val→txt m.val=txt n.val→m=n:=by decide
theorem glob_of_laidR {W:World} {l:List (String×DataW Unit)} (h:laidMet Tryz.prog (laid12++l) W):∃ r,Glob r W:=by
 obtain ⟨⟨a1,c1,s1,e1,t1,f1⟩,h⟩:=sentinel (text:=txt 1) h (g:=3) (by kernel_rfl) (by kernel_rfl)
 obtain ⟨⟨a2,c2,s2,e2,t2,f2⟩,h⟩:=sentinel (text:=txt 2) h (g:=4) (by kernel_rfl) (by kernel_rfl)
 obtain ⟨⟨a3,c3,s3,e3,t3,f3⟩,h⟩:=sentinel (text:=txt 3) h (g:=5) (by kernel_rfl) (by kernel_rfl)
 obtain ⟨⟨a4,c4,s4,e4,t4,f4⟩,h⟩:=sentinel (text:=txt 4) h (g:=0) (by kernel_rfl) (by kernel_rfl)
 obtain ⟨⟨a5,c5,s5,e5,t5,f5⟩,h⟩:=sentinel (text:=txt 5) h (g:=6) (by kernel_rfl) (by kernel_rfl)
 obtain ⟨⟨a6,c6,s6,e6,t6,f6⟩,h⟩:=sentinel (text:=txt 6) h (g:=7) (by kernel_rfl) (by kernel_rfl)
 obtain ⟨⟨a7,c7,s7,e7,t7,f7⟩,h⟩:=sentinel (text:=txt 7) h (g:=8) (by kernel_rfl) (by kernel_rfl)
 obtain ⟨⟨a8,c8,s8,e8,t8,f8⟩,h⟩:=sentinel (text:=txt 8) h (g:=9) (by kernel_rfl) (by kernel_rfl)
 obtain ⟨⟨a9,c9,s9,e9,t9,f9⟩,h⟩:=sentinel (text:=txt 9) h (g:=1) (by kernel_rfl) (by kernel_rfl)
 obtain ⟨⟨a10,c10,s10,e10,t10,f10⟩,h⟩:=sentinel (text:=txt 10) h (g:=10) (by kernel_rfl) (by kernel_rfl)
 obtain ⟨⟨a11,c11,s11,e11,t11,f11⟩,h⟩:=sentinel (text:=txt 11) h (g:=11) (by kernel_rfl) (by kernel_rfl)
 obtain ⟨⟨a99,c99,s99,e99,t99,f99⟩,h⟩:=sentinel (text:=txt 99) h (g:=12) (by kernel_rfl) (by kernel_rfl)
 clear h
 have key:∀ n:Nat,(1≤n∧n≤11)∨n=99→∃ s,W.cell? ((fun n:Nat=>match n with | 1=>a1 | 2=>a2 | 3=>a3 | 4=>a4 | 5=>a5 | 6=>a6 | 7=>a7 | 8=>a8 | 9=>a9 | 10=>a10 | 11=>a11 | _=>a99) n)=some (.string s)∧s.data.toList=txt n∧∃ c t,W.heap[((fun n:Nat=>match n with | 1=>a1 | 2=>a2 | 3=>a3 | 4=>a4 | 5=>a5 | 6=>a6 | 7=>a7 | 8=>a8 | 9=>a9 | 10=>a10 | 11=>a11 | _=>a99) n).block]?=some (.cells c t (0,0)):=by
  intro n hn
  have:n=1∨n=2∨n=3∨n=4∨n=5∨n=6∨n=7∨n=8∨n=9∨n=10∨n=11∨n=99:=by omega
  rcases this with rfl | rfl | rfl | rfl | rfl | rfl | rfl | rfl | rfl | rfl | rfl | rfl
  ·exact ⟨s1,e1,t1,f1⟩
  ·exact ⟨s2,e2,t2,f2⟩
  ·exact ⟨s3,e3,t3,f3⟩
  ·exact ⟨s4,e4,t4,f4⟩
  ·exact ⟨s5,e5,t5,f5⟩
  ·exact ⟨s6,e6,t6,f6⟩
  ·exact ⟨s7,e7,t7,f7⟩
  ·exact ⟨s8,e8,t8,f8⟩
  ·exact ⟨s9,e9,t9,f9⟩
  ·exact ⟨s10,e10,t10,f10⟩
  ·exact ⟨s11,e11,t11,f11⟩
  ·exact ⟨s99,e99,t99,f99⟩
 refine ⟨(fun n:Nat=>match n with | 1=>a1 | 2=>a2 | 3=>a3 | 4=>a4 | 5=>a5 | 6=>a6 | 7=>a7 | 8=>a8 | 9=>a9 | 10=>a10 | 11=>a11 | _=>a99),c1,c2,c3,c4,c5,c6,c7,c8,c9,c10,c11,c99,(fun n hn=>?_),fun m n hm1 hm2 hn1 hn2 he=>?_,fun n hn=>?_⟩
 ·obtain ⟨s,hs,_⟩:=key n hn
  exact ⟨s,hs⟩
 ·obtain ⟨s,hs,ts,_⟩:=key m.toNat (by omega)
  obtain ⟨s',hs',ts',_⟩:=key n.toNat (by omega)
  have hss:s=s':=by
   have:=hs.symm.trans ((congrArg W.cell? he).trans hs')
   simpa using this
  subst hss
  have:=txt_apart ⟨m.toNat,by omega⟩ ⟨n.toNat,by omega⟩ (by simp; omega) (by simp; omega) (ts.symm.trans ts')
  have:=congrArg Fin.val this
  simp at this
  omega
 ·obtain ⟨_,_,_,hf⟩:=key n hn
  exact hf
theorem glob_of_laid {W:World} (h:laidMet Tryz.prog laid12 W):∃ r,Glob r W:=glob_of_laidR (l:=[]) h
end Go.Proofs.YtncpnaoabkjegaaGreatDoor
namespace Go.Proofs.YtncpnaoabkjegaaGreatDoor
open Go.RowKit
set_option maxRecDepth 100000
def laid13 : List (String × DataW Unit) := ("errors.errorType", Rows.laid_errors_errorType) :: laid12
theorem rtypeNo : (Tryz.prog.cutTypes.find? (·.1 == "internal/reflectlite.rtype")).map (·.2) = some 239 := by kernel_rfl
theorem errorTypeNo : Tryz.prog.globalNamed "errors.errorType" = some 2 := by kernel_rfl
theorem typesNo:Tryz.prog.types.size=452-100:=by kernel_rfl
theorem oneError:((List.range (452-100)).filter fun t=>Tryz.prog.rowNamed t [101,114,114,111,114])=[27]:=by kernel_rfl
theorem handleErr:typeHandle Tryz.prog 27=.pointer (some ⟨17,27,none⟩):=by kernel_rfl
theorem glob_of_laidH {W:World} (h:laidMetH Tryz.prog laid13 W):∃ r,Glob r W∧GlobE W:=by
 have h' : laidMet Tryz.prog laid12 W ∧ handlesMet Tryz.prog [("errors.errorType", Rows.laid_errors_errorType)] W := h
 obtain ⟨r,hg⟩:=glob_of_laid h'.1
 refine ⟨r,hg,?_⟩
 obtain ⟨name,u,ty,e1,e2,e3,e4,e5⟩:=h'.2 _ (List.mem_cons_self ..)
 have en:name=[101,114,114,111,114]:=(Option.some.inj e1).symm
 subst en
 obtain rfl:=Option.some.inj (rtypeNo.symm.trans e2)
 have hm:ty∈(List.range (452-100)).filter fun t=>Tryz.prog.rowNamed t [101,114,114,111,114]:=List.mem_filter.2 ⟨List.mem_range.2 (by rw [← typesNo]; exact e3),e4⟩
 rw [oneError] at hm
 obtain rfl:=List.mem_singleton.1 hm
 rw [handleErr] at e5
 simpa [GlobE] using World.var?_cell errorTypeNo e5 0
end Go.Proofs.YtncpnaoabkjegaaGreatDoor
namespace Go.Proofs.YtncpnaoabkjegaaGreatDoor
open Go.ChangeShapes Go.WideShapes Go.ChangeAt Go.RowKit Go.Joins
set_option maxRecDepth 100000
theorem bulk_one {H:Type} (d:DataW H):1≤Rows.uptoBulk d:=by
 cases d with
 | lit l=>cases l<;>simp [Rows.uptoBulk]
 | nil=>simp [Rows.uptoBulk]
 | ptr d=>simp [Rows.uptoBulk]
 | slice elems spare=>simp [Rows.uptoBulk]
 | agg parts=>simp [Rows.uptoBulk]
 | iface t d=>simp [Rows.uptoBulk]
 | map entries=>simp [Rows.uptoBulk]
 | held h=>simp [Rows.uptoBulk]
theorem bulk_len {H:Type}:∀ (l:List (DataW H)),l.length≤Rows.uptoBulkAll l
 | []=>by simp [Rows.uptoBulkAll]
 | x::r=>by have:=bulk_one x; have:=bulk_len r; simp only [Rows.uptoBulkAll,List.length_cons]; omega
theorem open_intsB {H:Type} {enc:TypeId×Value→H} {W:World} {held:Bool} {fuel:Nat} {v:Value} {y:DataW H×List MemPlace}
 (h:DataW.trod enc Tryz.prog W 0 (fun _=>true) held fuel 22 [v]=some y) (hw:∀ n∈y.1.weights Tryz.prog 22,n≤reachBytes) :
 ∃ xs,IntsAt W v xs∧(∀ x∈xs,I64 x)∧xs.length≤Rows.uptoBulk y.1:=by
 obtain ⟨xs,h1,_,h3⟩:=open_intsV h hw
 refine ⟨xs,h1,h3,?_⟩
 rcases open_ints uInts uInt cellsInt h with ⟨hcs,_⟩ | ⟨a,len,cap,zs,hcs,_,hl,hm,hz,hx,hcell,hwz⟩
 ·simp at hcs
  subst hcs
  have:=h1.uniq (OwnI.nil 0 W).at
  subst this
  simp
 ·simp at hcs
  subst hcs
  simp only [if_true] at hz
  have hzl:(zs.take len).length=len:=by simp; omega
  have e:xs.length=len:=by
   obtain ⟨a',c',e,_⟩:=h1
   injection e with _ e
   exact e.symm
  rw [hx,e]
  simp only [Rows.uptoBulk]
  have:=bulk_len (lits (H:=H) .i64 (zs.take len))
  simp only [lits,List.length_map] at this
  simp only [lits]
  omega
theorem weights_each9 {H:Type} {t0 t1 t2 t3 t4 t5 t6 t7 t8:TypeId} {y0 y1 y2 y3 y4 y5 y6 y7 y8:DataW H} {n:Nat} (h:n∈y1.weights Tryz.prog t1∨n∈y6.weights Tryz.prog t6):n∈DataW.weightsEach Tryz.prog [t0,t1,t2,t3,t4,t5,t6,t7,t8] [y0,y1,y2,y3,y4,y5,y6,y7,y8]:=by
 simp only [DataW.weightsEach,List.mem_append]
 rcases h with h | h
 ·exact .inr (.inl h)
 ·exact .inr (.inr (.inr (.inr (.inr (.inr (.inl h))))))
theorem open_reportV {H:Type} {enc:TypeId×Value→H} {W:World} {held:Bool} {v:Value} {d:DataW H} {p:List MemPlace} {b0:Nat}
 (hv:Value.okWide Tryz.prog W .any b0 46 v) (h:DataW.Trod enc Tryz.prog W 0 (fun _=>true) held 46 v d p) (hw:∀ n∈d.weights Tryz.prog 46,n≤reachBytes) :
 ∃ (N X:Int) (u1 u2:Value) (Y F Z L P:Bool) (x1 x2:List Int),v=.agg #[.int .i64 N,u1,.bool Y,.bool F,.int .i64 X,.bool Z,u2,.bool L,.bool P]∧IntsAt W u1 x1∧IntsAt W u2 x2∧(∀ x∈x1,I64 x)∧(∀ x∈x2,I64 x)∧I64 X∧x1.length≤Rows.uptoBulk d∧x2.length≤Rows.uptoBulk d:=by
 obtain ⟨⟨cs⟩,rfl,hsz⟩:=okWide_struct Tryz.underlying46 hv
 have h9:cs.length=9:=hsz.trans (show Tryz.prog.cellsOf 46=9 by kernel_rfl)
 match cs,h9 with
 | [c0,c1,c2,c3,c4,c5,c6,c7,c8],_ =>
  obtain ⟨fuel,hf⟩:=h
  obtain ⟨xs,n,_,hx,hl,hlen,hfld⟩:=DataW.trod_struct Tryz.underlying46 hf
  match xs,hlen with
  | [y0,y1,y2,y3,y4,y5,y6,y7,y8],_ =>
   have cI:Tryz.prog.cellsOf 3=1:=cellsInt
   have cB:Tryz.prog.cellsOf 4=1:=by kernel_rfl
   have cL:Tryz.prog.cellsOf 22=1:=by kernel_rfl
   have h0:DataW.trod enc Tryz.prog W 0 (fun _=>true) held n 3 [c0]=some y0:=by simpa [Value.cells,cI] using hfld 0 _ rfl
   have h1:DataW.trod enc Tryz.prog W 0 (fun _=>true) held n 22 [c1]=some y1:=by simpa [Value.cells,cL] using hfld 1 _ rfl
   have h2:DataW.trod enc Tryz.prog W 0 (fun _=>true) held n 4 [c2]=some y2:=by simpa [Value.cells,cB] using hfld 2 _ rfl
   have h3:DataW.trod enc Tryz.prog W 0 (fun _=>true) held n 4 [c3]=some y3:=by simpa [Value.cells,cB] using hfld 3 _ rfl
   have h4:DataW.trod enc Tryz.prog W 0 (fun _=>true) held n 3 [c4]=some y4:=by simpa [Value.cells,cI] using hfld 4 _ rfl
   have h5:DataW.trod enc Tryz.prog W 0 (fun _=>true) held n 4 [c5]=some y5:=by simpa [Value.cells,cB] using hfld 5 _ rfl
   have h6:DataW.trod enc Tryz.prog W 0 (fun _=>true) held n 22 [c6]=some y6:=by simpa [Value.cells,cL] using hfld 6 _ rfl
   have h7:DataW.trod enc Tryz.prog W 0 (fun _=>true) held n 4 [c7]=some y7:=by simpa [Value.cells,cB] using hfld 7 _ rfl
   have h8:DataW.trod enc Tryz.prog W 0 (fun _=>true) held n 4 [c8]=some y8:=by simpa [Value.cells,cB] using hfld 8 _ rfl
   obtain ⟨N,e0,_,_⟩:=DataW.trod_int uInt h0
   obtain ⟨X,e4,_,wX⟩:=DataW.trod_int uInt h4
   obtain ⟨Y,e2,_⟩:=DataW.trod_bool Tryz.underlying4 h2
   obtain ⟨F,e3,_⟩:=DataW.trod_bool Tryz.underlying4 h3
   obtain ⟨Z,e5,_⟩:=DataW.trod_bool Tryz.underlying4 h5
   obtain ⟨L,e7,_⟩:=DataW.trod_bool Tryz.underlying4 h7
   obtain ⟨P,e8,_⟩:=DataW.trod_bool Tryz.underlying4 h8
   simp only [List.cons.injEq,and_true] at e0 e2 e3 e4 e5 e7 e8
   subst e0 e2 e3 e4 e5 e7 e8
   simp only [Prod.mk.injEq] at hx
   obtain ⟨rfl,rfl⟩:=hx
   have hh:∀ n,(n∈y1.1.weights Tryz.prog 22∨n∈y6.1.weights Tryz.prog 22)→n≤reachBytes:=fun n hn=>hw n (by
    simp only [DataW.weights,Tryz.underlying46]
    exact weights_each9 (t0:=3) (t1:=22) (t2:=4) (t3:=4) (t4:=3) (t5:=4) (t6:=22) (t7:=4) (t8:=4) hn)
   obtain ⟨x1,hx1,hb1,hl1⟩:=open_intsB h1 fun n hn=>hh n (.inl hn)
   obtain ⟨x2,hx2,hb2,hl2⟩:=open_intsB h6 fun n hn=>hh n (.inr hn)
   refine ⟨N,X,c1,c6,Y,F,Z,L,P,x1,x2,rfl,hx1,hx2,hb1,hb2,i64_of_wf wX,?_,?_⟩
   ·simp only [List.map_cons,List.map_nil,Rows.uptoBulk,Rows.uptoBulkAll]; omega
   ·simp only [List.map_cons,List.map_nil,Rows.uptoBulk,Rows.uptoBulkAll]; omega
def laid16 : List (String × DataW Unit) := ("math/bits.deBruijn32tab", Rows.laid_math_bits_deBruijn32tab) :: ("math/bits.deBruijn64tab", Rows.laid_math_bits_deBruijn64tab) :: ("internal/strconv.uint64pow10", Rows.laid_internal_strconv_uint64pow10) :: laid13
theorem glob_of_laidT {W:World} (h:laidMetH Tryz.prog laid16 W):∃ r,Glob r W∧GlobE W∧Tabs W:=by
 have h' : laidMet Tryz.prog (("math/bits.deBruijn32tab", Rows.laid_math_bits_deBruijn32tab) :: ("math/bits.deBruijn64tab", Rows.laid_math_bits_deBruijn64tab) :: ("internal/strconv.uint64pow10", Rows.laid_internal_strconv_uint64pow10) :: laid12) W ∧ handlesMet Tryz.prog [("errors.errorType", Rows.laid_errors_errorType)] W := h
 have hT:Tabs W:=Lib.tabIs_of_head (rest:=laid12) (g:=13) (t:=315) (e:=272) (n:=20) (by kernel_rfl) (by kernel_rfl) (by kernel_rfl) (by kernel_rfl) (by kernel_rfl) (by kernel_rfl) h'.1.tail.tail
 have hH:laidMetH Tryz.prog laid13 W:=⟨h'.1.tail.tail.tail,h'.2⟩
 obtain ⟨r,hg,hG⟩:=glob_of_laidH hH
 exact ⟨r,hg,hG,hT⟩
end Go.Proofs.YtncpnaoabkjegaaGreatDoor
namespace Go.Proofs.YtncpnaoabkjegaaGreatDoor
open Go.ChangeShapes Go.WideShapes Go.ChangeAt Go.RowKit Go.Joins
namespace LabTextsP
set_option maxRecDepth 100000 in
theorem door_met (os:Os) (args:Array Value):laidMetH Tryz.prog Rows.labTextsUptoRow.laid ((World.doorLaid Tryz.prog 400 os).forCall (fun _ _=>0) ⟨#[],args,[]⟩).memory :=
 laidMetH_of_parts3 (fuel:=8) (laidMet_of_run' 8 (by kernel_rfl) (by kernel_rfl)) (by kernel_rfl) (by kernel_rfl)
set_option maxRecDepth 100000 in
theorem reads (os:Os) {H:Type} (enc:TypeId×Value→H):∃ x,DataW.whole enc Tryz.prog ((World.doorLaid Tryz.prog 400 os).forCall (fun _ _=>0) ⟨#[],#[.agg #[.int .i64 0,.slice none 0 0,.bool false,.bool false,.int .i64 0,.bool false,.slice none 0 0,.bool false,.bool false]],[]⟩).memory Tryz.f10.params.toList Rows.labTextsSpec.vars false #[Value.agg #[.int .i64 0,.slice none 0 0,.bool false,.bool false,.int .i64 0,.bool false,.slice none 0 0,.bool false,.bool false]].toList 8=some ([.agg [.lit (.int .i64 0),.nil,.lit (.bool false),.lit (.bool false),.lit (.int .i64 0),.lit (.bool false),.nil,.lit (.bool false),.lit (.bool false)]],[],x) :=
 ⟨[],by kernel_rfl⟩
set_option maxRecDepth 100000 in
theorem lifted (os:Os) (started:os.Started) (H:Type) (enc:TypeId×Value→H) (F:Stop.Interp) :
 ReturnsInHanded {} Tryz.checked os 10 .any ((Rows.OpenSpec.upto Rows.labTextsSpec).preRow enc Tryz.prog Tryz.f10 Rows.labTextsUptoRow.domain false Rows.labTextsUptoRow.laid) (((Rows.OpenSpec.upto Rows.labTextsSpec).at F).post enc Tryz.prog Tryz.f10 false true false false):=by
 obtain ⟨places,hx⟩:=reads os enc
 refine returnsInHanded_of_row (C:=Tryz.checked) (s:=Rows.OpenSpec.upto Rows.labTextsSpec) own started (by kernel_rfl) Tryz.func10
  (witness_row_atRef (enc:=enc) (C:=Tryz.checked) false (World.doorLaid Tryz.prog 400 os) #[.agg #[.int .i64 0,.slice none 0 0,.bool false,.bool false,.int .i64 0,.bool false,.slice none 0 0,.bool false,.bool false]] rfl (by kernel_rfl) (by kernel_rfl) (by kernel_rfl)
    (OpenSpec.preRow_of_cond 8 hx (by kernel_rfl) (fun k hk=>by cases hk; kernel_rfl) (by kernel_rfl) (door_met os _))) ?_
 intro W base args ds gs before hval0 hW _ hcond hsz hL _ _
 have hval:∀ (j:Nat) t v,Tryz.f10.params[j]?=some t→args[j]?=some v→Value.okWide Tryz.prog W .any base t v:=hval0
 have hW':=hW
 obtain ⟨p,q,hA0,hV,rfl,hfz,hnd⟩:=hW
 have hA:DataW.TrodAll enc Tryz.prog W 0 (fun _=>true) true Tryz.f10.params.toList args.toList ds p:=hA0
 rw [Tryz.params10] at hA hval hsz
 obtain ⟨v0,vs0,d0,ds0,p0,q0,hargs,rfl,rfl,g0,t0⟩:=trodAll_cons hA
 obtain ⟨rfl,rfl,rfl⟩:=trodAll_nil t0
 obtain rfl:args=#[v0]:=by cases args; simp_all
 obtain ⟨rfl,rfl⟩:=trodVars_none hV
 have kk0:=g0
 have lt0:∀ x∈p0,x.block<W.heap.size:=by obtain ⟨m,hm⟩:=kk0; exact DataW.trod_lt m _ _ _ hm
 have hk:=hcond _ rfl
 have hbulk:Rows.uptoBulk d0≤1048576:=by
  have h:=of_decide_eq_true hk
  simp only [List.append_nil,Rows.uptoBulkAll] at h
  omega
 obtain ⟨N,X,u1,u2,Y,Fi,Z,L,Pm,x1,x2,rfl,h1,h2,b1,b2,bX,l1,l2⟩:=open_reportV (hval 0 46 v0 rfl rfl) g0 (fun n hn=>by
  have:=List.all_eq_true.1 hsz n (DataW.weights_mem_each (j:=0) (t:=46) rfl rfl n hn)
  simpa using this)
 obtain ⟨r,hg,hG,hT⟩:=glob_of_laidT (W:=W) (by
  exact hL)
 clear hA0 hval0
 obtain ⟨oa,on,oc,rfl⟩:=h1.shape
 obtain ⟨fa,fn,fc,rfl⟩:=h2.shape
 refine (labTexts_any r N X oa on oc x1 fa fn fc x2 Y Fi Z L Pm W hg hG hT h1 h2 (fun x hx=>by have:=b1 x hx; unfold I64 at this; omega) (fun x hx=>by have:=b2 x hx; unfold I64 at this; omega) (by omega) (by omega) (by unfold I64 at bX; omega) (by unfold I64 at bX; omega)).mono fun e W' ⟨x,he,bel,hxx⟩=>?_
 subst he; subst hxx
 exact ⟨_,rfl,_,_,_,[],_,[],hW',trodAll_mk1 (shut_bool Tryz.underlying4 _),(trodAll_cons_mk (Below.trod laidOut (by kernel_rfl) (of_decide_eq_true (by kernel_rfl)) kk0 bel lt0) trodAll_mk0),rfl,bel.frame _,fun h=>by cases h⟩
theorem fnamed:Tryz.prog.funcNamed Rows.labTextsUptoRow.func=some 10:=by kernel_rfl
theorem inst:Tryz.f10.isInstance Tryz.prog Rows.labTextsUptoRow.origin Rows.labTextsUptoRow.targs:=of_decide_eq_true (by kernel_rfl)
theorem wrapd:Tryz.f10.isWrapper Tryz.prog Rows.labTextsUptoRow.wrapper Rows.labTextsUptoRow.mainSum:=by unfold Func.isWrapper; first | (rw [if_pos (by decide +kernel)]; kernel_rfl) | (rw [if_neg (by decide +kernel)]; exact ⟨rfl,rfl⟩)
theorem and_t {a b:Bool} (h:a=true) (k:b=true):(a&&b)=true:=by rw [h,k]; rfl
theorem jf_wf:Rows.labTextsUptoRow.wf (OpenSpec.ofChange Rows.labTextsSpec)=true:=by kernel_rfl
theorem jf_lo:laidOutB Tryz.prog=true:=by kernel_rfl
theorem jf_mr:mapsRowed Tryz.prog=true:=by kernel_rfl
theorem jf_nt:namedTie Tryz.prog Rows.labTextsUptoRow.named Rows.labTextsSpec.vars=true:=by kernel_rfl
theorem jf_ip:(Rows.labTextsUptoRow.inPlace==Tryz.prog.inPlace 10)=true:=by kernel_rfl
theorem jf_uf:(Rows.labTextsUptoRow.unfollowed==Tryz.prog.unfollowed 10)=true:=by kernel_rfl
theorem jf_rc:(Rows.labTextsUptoRow.recurses==Tryz.prog.recurses 10)=true:=by kernel_rfl
theorem jf_nm:(Rows.labTextsUptoRow.named==Tryz.prog.varsNamed 10)=true:=by kernel_rfl
theorem jf_pk:(Rows.labTextsUptoRow.plainKeys==Tryz.prog.plainKeys)=true:=by kernel_rfl
theorem jf_sh:Tryz.prog.stopsHeard=true:=by kernel_rfl
theorem jf_me:Tryz.prog.mayEnter=true:=by kernel_rfl
theorem jf_lf:(Rows.labTextsUptoRow.lifted==Tryz.prog.liftsFinal)=true:=by kernel_rfl
theorem jf_mk:(Tryz.prog.make==some Rows.labTextsUptoRow.make)=true:=by kernel_rfl
theorem joined:joinedFacts Tryz.prog 10 Tryz.f10 Rows.labTextsSpec Rows.labTextsUptoRow=true:=and_t (and_t (and_t (and_t (and_t (and_t (and_t (and_t (and_t (and_t (and_t (and_t (and_t (and_t (and_t (and_t (and_t (and_t (and_t (and_t (and_t (and_t (and_t (and_t (and_t (and_t (and_t (and_t (and_t (and_t (and_t jf_wf jf_lo) jf_mr) (by kernel_rfl)) jf_nt) (by kernel_rfl)) (by kernel_rfl)) (by kernel_rfl)) (by kernel_rfl)) jf_ip) jf_uf) jf_rc) jf_nm) (by kernel_rfl)) (by kernel_rfl)) (by kernel_rfl)) (by kernel_rfl)) (by kernel_rfl)) (by kernel_rfl)) (by kernel_rfl)) (by kernel_rfl)) (by kernel_rfl)) jf_pk) (by kernel_rfl)) jf_sh) jf_me) jf_lf) jf_mk) (by kernel_rfl)) (by kernel_rfl)) (by kernel_rfl)) (by kernel_rfl)
set_option maxRecDepth 100000 in
theorem over:Rows.LabTextsUptoSaid :=
 OpenClaim.holds_of_cond 10 Tryz.f10 rfl rfl rfl rfl rfl rfl rfl ⟨rfl,rfl,rfl,rfl,rfl⟩ rfl rfl rfl rfl rfl fnamed Tryz.func10 joined
  inst wrapd
  (fun os started H enc _ F=>by rw [OpenClaim.pre_eq_preRow]; exact lifted os started H enc F)
theorem cw:Rows.labTextsUptoRow.wfByText (Rows.OpenSpec.upto Rows.labTextsSpec)=true:=by kernel_rfl
theorem cm:Tryz.prog.mainIs=some (Rows.labTextsUptoCard.stood.harness.1,Rows.labTextsUptoCard.stood.harness.2.toList):=by kernel_rfl
theorem cl:Rows.labTextsUptoCard.stood.looks=Tryz.prog.looks []:=by kernel_rfl
theorem cg:false=Rows.labTextsUptoRow.goesBy Tryz.prog:=by kernel_rfl
theorem cs:([46].all fun u=>!Tryz.prog.wantsStandIn u)=true:=by kernel_rfl
theorem card_holds:Rows.LabTextsUptoCardSaid :=
 Claim7.holds_tied_plain_at .later [] [.data,.data,.data,.handle,.sentinel,.sentinel,.sentinel,.sentinel,.sentinel,.sentinel,.sentinel,.sentinel,.sentinel,.sentinel,.sentinel,.sentinel] true _ true
  over (fun _ h=>by cases h) cw (fun _ h=>by cases h) labTextsUpto_row_tie rfl ⟨rfl,rfl⟩ cm rfl
  (fun f fn hf hfn=>by
    obtain rfl:f=10:=Option.some.inj (fnamed.symm.trans hf) |>.symm
    obtain rfl:fn=Tryz.f10:=(Option.some.inj (Tryz.func10.symm.trans hfn)).symm
    exact ⟨cl,fun j t ht=>by
     rw [Tryz.params10] at ht
     have hm:t∈[46]:=by simpa using Array.mem_of_getElem? ht
     exact (show Tryz.prog.wantsStandIn t=false by simpa using List.all_eq_true.1 cs t hm)⟩)
  cg
end LabTextsP
#print axioms LabTextsP.card_holds
end Go.Proofs.YtncpnaoabkjegaaGreatDoor
