/-
  Proved: the law edenlaw20.InverseComposes as its tied card: it returns true and never panics, for any two rules. No conditions beyond the card's own.
  Walk: edenlaw20.InverseComposes returns true.
-/
import Derived.Test.YtjiadfblphdchaaGreatDoorMVb11
import Derived.Test.YtjiadfblphdchaaGreatDoorCards
import Derived.Test.YtjiadfblphdchaaGreatDoorTie
import Derived.SevenTiedAt
namespace Go.Proofs.YtjiadfblphdchaaGreatDoor
open Go.RowKit
set_option maxRecDepth 100000
set_option maxHeartbeats 4000000 in
theorem inverseComposes_any (r : Nat → Addr) (k R : Int) (v : Value) (T : List Int) (k' R' : Int) (v' : Value) (T' : List Int) (w : World) (hg : Glob r w) (hG : GlobE w) (h : IntsAt w v T) (h' : IntsAt w v' T') :
 Calls Tryz.prog 6 #[.agg #[.int .i64 k,.int .i64 R,v],.agg #[.int .i64 k',.int .i64 R',v']] w (Ret1 (fun x _ => x = .bool true) w):=by
 obtain ⟨va,vn,vc,rfl⟩:=h.shape
 obtain ⟨ua,un,uc,rfl⟩:=h'.shape
 have b0:=Below.step (belowAlloc w (.cells #[.int .i64 k,.int .i64 R,.slice va vn vc] 24)) (belowAlloc _ (.cells #[.int .i64 k',.int .i64 R',.slice ua un uc] 24))
 have a : Box3 ((w.alloc (.cells #[.int .i64 k,.int .i64 R,.slice va vn vc] 24)).alloc (.cells #[.int .i64 k',.int .i64 R',.slice ua un uc] 24)) w.heap.size (.int .i64 k) (.int .i64 R) (.slice va vn vc):=by simp [Box3,go_sem]
 have b : Box3 ((w.alloc (.cells #[.int .i64 k,.int .i64 R,.slice va vn vc] 24)).alloc (.cells #[.int .i64 k',.int .i64 R',.slice ua un uc] 24)) (w.heap.size + 1) (.int .i64 k') (.int .i64 R') (.slice ua un uc):=by simp [Box3,go_sem]
 replace hg:=Lib.hid (hg.below b0)
 replace hG:=Lib.hid (hG.below b0)
 replace h:=Lib.hid (h.below b0)
 replace h':=Lib.hid (h'.below b0)
 obtain ⟨tl,htl⟩ : ∃ tl,T.length = tl:=⟨_,rfl⟩
 obtain ⟨ul,hul⟩ : ∃ tl,T'.length = tl:=⟨_,rfl⟩
 replace htl:=Lib.hid htl
 replace hul:=Lib.hid hul
 go_enter Tryz.func6,Tryz.ntmps6
 go_wp2_with fail
 refine (awake20 r _ hg.out hG.out).mono ?_
 rintro e w1 ⟨_,rfl,b1,rfl⟩
 obtain ⟨⟨a_0,a_1,a_2⟩,-,-,-⟩:=(a.below b1)
 go_wp2_with fail
 refine (heavy20 k R va vn vc T _ (h.out.below b1)).mono ?_
 rintro e w2 ⟨_,rfl,b2,rfl⟩
 rw [htl.out]
 clear a_0 a_1 a_2
 by_cases hh : 64 < tl
 ·have dh : decide (64 < tl) = true:=decide_eq_true hh
  have c0_2:=Below.step b1 b2
  have bE:=Below.step b0 c0_2
  go_wp2
  go_ret
  exact ⟨_,rfl,bE,rfl⟩
 have dh : decide (64 < tl) = false:=decide_eq_false hh
 have c0_2:=Below.step b1 b2
 obtain ⟨⟨b_0,b_1,b_2⟩,-,-,-⟩:=(b.below c0_2)
 go_wp2_with fail
 refine (heavy20 k' R' ua un uc T' _ (h'.out.below c0_2)).mono ?_
 rintro e w3 ⟨_,rfl,b3,rfl⟩
 rw [hul.out]
 clear b_0 b_1 b_2
 by_cases hh' : 64 < ul
 ·have dh' : decide (64 < ul) = true:=decide_eq_true hh'
  have c0_3:=Below.step c0_2 b3
  have bE:=Below.step b0 c0_3
  go_wp2
  go_ret
  exact ⟨_,rfl,bE,rfl⟩
 have dh' : decide (64 < ul) = false:=decide_eq_false hh'
 have c0_3:=Below.step c0_2 b3
 obtain ⟨⟨a_0,a_1,a_2⟩,-,-,-⟩:=(a.below c0_3)
 obtain ⟨⟨b_0,b_1,b_2⟩,-,-,-⟩:=(b.below c0_3)
 go_wp2_with fail
 refine (compose_any r k R va vn vc T k' R' ua un uc T' _ (hg.out.below c0_3) (h.out.below c0_3) (h'.out.below c0_3)).mono ?_
 rintro e w4 ⟨x,y,rfl,b4,hy4,hx4,hz4⟩
 have hs4 : ∃ k4 q4 a4 n4 m4,x = .agg #[.int .i64 k4,.int .i64 q4,.slice a4 n4 m4]:=by
  by_cases hc : composeP k R T k' R' T' = none
  ·obtain ⟨a,n,c,e,_⟩:=hz4 hc; exact ⟨_,_,_,_,_,e⟩
  ·exact ⟨0,0,none,0,0,hx4 hc⟩
 obtain ⟨k4,q4,a4,n4,m4,rfl⟩:=hs4
 have al4:=(belowAlloc w4 (.cells #[.int .i64 k4,.int .i64 q4,.slice a4 n4 m4] 24))
 have d4:=Below.step b4 al4
 clear a_0 a_1 a_2 b_0 b_1 b_2
 have hy4':=hy4.open2
 replace hy4:=Lib.hid hy4
 replace hx4:=Lib.hid hx4
 replace hz4:=Lib.hid hz4
 have c0_4:=Below.step c0_3 d4
 obtain ⟨⟨a_0,a_1,a_2⟩,-,-,-⟩:=(a.below c0_4)
 rcases hy4' with rfl | ⟨Ty4,py4,rfl⟩
 ·skip
  go_wp2_with fail
  refine (inv_rule r k R va vn vc T _ (hg.out.below c0_4) (h.out.below c0_4)).mono ?_
  rintro e w5 ⟨x5,y5,rfl,b5,hy5,hx5⟩
  obtain ⟨k5,q5,a5,n5,m5,rfl⟩:=hx5.shape
  have al5:=(belowAlloc w5 (.cells #[.int .i64 k5,.int .i64 q5,.slice a5 n5 m5] 24))
  have d5:=Below.step b5 al5
  clear a_0 a_1 a_2
  have hy5':=hy5.open2
  replace hy5:=Lib.hid hy5
  replace hx5:=Lib.hid hx5
  have c0_5:=Below.step c0_4 d5
  obtain ⟨⟨b_0,b_1,b_2⟩,-,-,-⟩:=(b.below c0_5)
  rcases hy5' with rfl | ⟨Ty5,py5,rfl⟩
  ·skip
   go_wp2_with fail
   refine (inv_rule r k' R' ua un uc T' _ (hg.out.below c0_5) (h'.out.below c0_5)).mono ?_
   rintro e w6 ⟨x6,y6,rfl,b6,hy6,hx6⟩
   obtain ⟨k6,q6,a6,n6,m6,rfl⟩:=hx6.shape
   have al6:=(belowAlloc w6 (.cells #[.int .i64 k6,.int .i64 q6,.slice a6 n6 m6] 24))
   have d6:=Below.step b6 al6
   clear b_0 b_1 b_2
   have hy6':=hy6.open2
   replace hy6:=Lib.hid hy6
   replace hx6:=Lib.hid hx6
   rcases hy6' with rfl | ⟨Ty6,py6,rfl⟩
   ·skip
    have e4 : composeP k R T k' R' T' = none:=hy4.out.nil_none
    have e5 : invE k R T = none:=hy5.out.nil_none
    have e6 : invE k' R' T' = none:=hy6.out.nil_none
    obtain ⟨K,Q,Q',rfl,rfl,rfl,rfl,hr,hr',hR⟩:=composeP_none e4
    obtain ⟨b4,c4,d4,e1,ho4⟩:=hz4.out e4
    injection e1 with e1
    simp only [Array.mk.injEq,List.cons.injEq,Value.int.injEq,Value.slice.injEq,true_and,and_true] at e1
    obtain ⟨rfl,e1b,rfl,rfl,rfl⟩:=e1
    rw [show (Q : Int) + (Q' : Int) = ((Q + Q' : Nat) : Int) from rfl] at e1b
    subst e1b
    obtain ⟨_,_,d,S,b5,c5,d5,f1,f2,hl5,e1,ho5,hF⟩:=hx5.out.found e5
    obtain rfl:=Int.ofNat.inj f1
    obtain rfl:=Int.ofNat.inj f2
    clear f1 f2
    injection e1 with e1
    simp only [Array.mk.injEq,List.cons.injEq,Value.int.injEq,Value.slice.injEq,true_and,and_true] at e1
    obtain ⟨rfl,rfl,rfl,rfl,rfl⟩:=e1
    obtain ⟨_,_,d',S',b6,c6,d6,f1,f2,hl6,e1,ho6,hF'⟩:=hx6.out.found e6
    obtain rfl:=Int.ofNat.inj f1
    obtain rfl:=Int.ofNat.inj f2
    clear f1 f2
    injection e1 with e1
    simp only [Array.mk.injEq,List.cons.injEq,Value.int.injEq,Value.slice.injEq,true_and,and_true] at e1
    obtain ⟨rfl,rfl,rfl,rfl,rfl⟩:=e1
    simp only [Int.toNat_natCast] at ho4
    have hrc : RuleOk K (Q + Q') (behindT K Q T Q' T'):=behindT_ok hr hR
    have hfb:=fun N P => find_behind (N:=N) (Q:=P) hF.rule hF'.rule hR hF.one hF'.one hF.find hF'.find
    obtain ⟨TC,hTC⟩ : ∃ t,behindT K Q T Q' T' = t:=⟨_,rfl⟩
    obtain ⟨QC,hQC⟩ : ∃ t,Q + Q' = t:=⟨_,rfl⟩
    rw [hTC] at ho4 hrc
    rw [hTC] at hfb
    simp only [hQC] at hrc hfb
    have hQi : ((Q + Q' : Nat) : Int) = (QC : Int):=by rw [hQC]
    have c : Box3 (w4.alloc (.cells #[.int .i64 K,.int .i64 ((Q + Q' : Nat) : Int),.slice a4 n4 m4] 24)) w4.heap.size (.int .i64 K) (.int .i64 ((Q + Q' : Nat) : Int)) (.slice a4 n4 m4):=by simp [Box3,go_sem]
    have x : Box3 (w5.alloc (.cells #[.int .i64 K,.int .i64 d,.slice a5 n5 m5] 24)) w5.heap.size (.int .i64 K) (.int .i64 d) (.slice a5 n5 m5):=by simp [Box3,go_sem]
    have y : Box3 (w6.alloc (.cells #[.int .i64 K,.int .i64 d',.slice a6 n6 m6] 24)) w6.heap.size (.int .i64 K) (.int .i64 d') (.slice a6 n6 m6):=by simp [Box3,go_sem]
    have hd3:=hF.inv.r3
    have hd3':=hF'.inv.r3
    obtain ⟨cl,hcl⟩ : ∃ t,TC.length = t:=⟨_,rfl⟩
    replace ho4:=ho4.below al4
    replace ho5:=ho5.below al5
    replace ho6:=ho6.below al6
    replace ho4:=Lib.hid ho4
    replace ho5:=Lib.hid ho5
    replace ho6:=Lib.hid ho6
    replace hF:=Lib.hid hF
    replace hF':=Lib.hid hF'
    replace hrc:=Lib.hid hrc
    replace hfb:=Lib.hid hfb
    replace hTC:=Lib.hid hTC
    replace hQC:=Lib.hid hQC
    replace hcl:=Lib.hid hcl
    replace e4:=Lib.hid e4
    replace e5:=Lib.hid e5
    replace e6:=Lib.hid e6
    replace hl5:=Lib.hid hl5
    replace hl6:=Lib.hid hl6
    replace hr:=Lib.hid hr
    replace hr':=Lib.hid hr'
    have c4_6:=Below.step d5 d6
    obtain ⟨⟨c_0,c_1,c_2⟩,-,-,-⟩:=(c.below c4_6)
    rw [hQi] at c_1
    replace hQi:=Lib.hid hQi
    go_wp2_with fail
    refine (heavy20 K QC a4 n4 m4 TC _ (ho4.out.below c4_6).at).mono ?_
    rintro e w7 ⟨_,rfl,b7,rfl⟩
    clear c_0 c_1 c_2
    rw [hcl.out]
    by_cases hs : 64 < cl
    ·have ds : decide (64 < cl) = true:=decide_eq_true hs
     have c0_6:=Below.step c0_5 d6
     have c0_7:=Below.step c0_6 b7
     have bE:=Below.step b0 c0_7
     go_wp2
     go_ret
     exact ⟨_,rfl,bE,rfl⟩
    have ds : decide (64 < cl) = false:=decide_eq_false hs
    have c4_7:=Below.step c4_6 b7
    obtain ⟨⟨c_0,c_1,c_2⟩,-,-,-⟩:=(c.below c4_7)
    rw [hQi.out] at c_1
    have c0_6:=Below.step c0_5 d6
    have c0_7:=Below.step c0_6 b7
    go_wp2_with fail
    refine (inv_rule r K QC a4 n4 m4 TC _ (hg.out.below c0_7) (ho4.out.below c4_7).at).mono ?_
    rintro e w8 ⟨x8,y8,rfl,b8,hy8,hx8⟩
    clear c_0 c_1 c_2
    obtain ⟨k8,q8,a8,n8,m8,rfl⟩:=hx8.shape
    have al8:=(belowAlloc w8 (.cells #[.int .i64 k8,.int .i64 q8,.slice a8 n8 m8] 24))
    have d8:=Below.step b8 al8
    have z : Box3 (w8.alloc (.cells #[.int .i64 k8,.int .i64 q8,.slice a8 n8 m8] 24)) w8.heap.size (.int .i64 k8) (.int .i64 q8) (.slice a8 n8 m8):=by simp [Box3,go_sem]
    replace hy8:=Lib.hid hy8
    replace hx8:=Lib.hid hx8
    have c5_7:=Below.step d6 b7
    have c5_8:=Below.step c5_7 d8
    obtain ⟨⟨x_0,x_1,x_2⟩,-,-,-⟩:=(x.below c5_8)
    have c6_8:=Below.step b7 d8
    obtain ⟨⟨y_0,y_1,y_2⟩,-,-,-⟩:=(y.below c6_8)
    by_cases h3 : 3 < d + d'
    ·have d3 : decide ((3 : Int) < (d : Int) + (d' : Int)) = true:=decide_eq_true (by omega)
     have c0_8:=Below.step c0_7 d8
     have bE:=Below.step b0 c0_8
     go_wp2
     go_ret
     exact ⟨_,rfl,bE,rfl⟩
    have d3 : decide ((3 : Int) < (d : Int) + (d' : Int)) = false:=decide_eq_false (by omega)
    have c0_8:=Below.step c0_7 d8
    go_wp2_with fail
    refine (compose_ok r K d' d a6 n6 m6 S' a5 n5 m5 S _ (hg.out.below c0_8) (ho6.out.below c6_8).at (ho5.out.below c5_8).at hF'.out.inv hF.out.inv (by omega)).mono ?_
    rintro e w9 ⟨_,_,rfl,b9,rfl,a9,n9,m9,rfl,ho9⟩
    clear x_0 x_1 x_2 y_0 y_1 y_2
    have al9:=(belowAlloc w9 (.cells #[.int .i64 K,.int .i64 ((d' + d : Nat) : Int),.slice a9 n9 m9] 24))
    have d9:=Below.step b9 al9
    have v : Box3 (w9.alloc (.cells #[.int .i64 K,.int .i64 ((d' + d : Nat) : Int),.slice a9 n9 m9] 24)) w9.heap.size (.int .i64 K) (.int .i64 ((d' + d : Nat) : Int)) (.slice a9 n9 m9):=by simp [Box3,go_sem]
    replace ho9:=ho9.below al9
    have hrw : RuleOk K (d' + d) (behindT K d' S' d S):=behindT_ok hF'.out.inv (by omega)
    replace ho9:=Lib.hid ho9
    replace hrw:=Lib.hid hrw
    obtain ⟨⟨v_0,v_1,v_2⟩,-,-,-⟩:=id v
    have c0_9:=Below.step c0_8 d9
    go_wp2_with fail
    refine (narrow_ok r K (d' + d) a9 n9 m9 _ _ (hg.out.below c0_9) ho9.out.at hrw.out).mono ?_
    rintro e w10 ⟨_,_,rfl,b10,rfl,Q10,N10,a10,n10,m10,rfl,ho10,hN10⟩
    clear v_0 v_1 v_2
    have al10:=(belowAlloc w10 (.cells #[.int .i64 K,.int .i64 Q10,.slice a10 n10 m10] 24))
    have d10:=Below.step b10 al10
    have u : Box3 (w10.alloc (.cells #[.int .i64 K,.int .i64 Q10,.slice a10 n10 m10] 24)) w10.heap.size (.int .i64 K) (.int .i64 Q10) (.slice a10 n10 m10):=by simp [Box3,go_sem]
    replace ho10:=ho10.below al10
    have hE2 : findP K QC TC = some (Q10,N10):=hfb.out _ _ hN10
    have hE3 : invE K QC TC = none:=invE_of hrc.out (by rw [hcl.out]; omega) hE2
    have hy9:=hy8.out
    rw [hE3] at hy9
    obtain rfl:=hy9.none_eq
    clear hy9 hy8
    obtain ⟨d2,S2,a2,n2,m2,hf2,e2,ho2⟩:=hx8.out.1 hE3
    rw [Int.toNat_natCast,Int.toNat_natCast,hE2] at hf2
    injection hf2 with hf2
    injection hf2 with f1 f2
    subst f1
    subst f2
    injection e2 with e2
    simp only [Array.mk.injEq,List.cons.injEq,Value.int.injEq,Value.slice.injEq,true_and,and_true] at e2
    obtain ⟨rfl,rfl,rfl,rfl,rfl⟩:=e2
    replace ho2:=ho2.below al8
    have c8_10:=Below.step d9 d10
    have hrul:=rules_any K Q10 K Q10 a8 n8 m8 a10 n10 m10 N10 N10 _ (ho2.below c8_10).at ho10.at
    have hkk : ((K : Int) == (K : Int) && ((Q10 : Int) == (Q10 : Int) && decide (N10 = N10))) = true:=by simp
    rw [hkk] at hrul
    replace hrul:=Lib.hid hrul
    replace ho2:=Lib.hid ho2
    replace ho10:=Lib.hid ho10
    replace hN10:=Lib.hid hN10
    clear hE2 hE3 hkk
    obtain ⟨⟨z_0,z_1,z_2⟩,-,-,-⟩:=(z.below c8_10)
    obtain ⟨⟨u_0,u_1,u_2⟩,-,-,-⟩:=id u
    go_wp2_with fail
    refine (hrul.out).mono ?_
    rintro e w11 ⟨_,rfl,b11,rfl⟩
    clear z_0 z_1 z_2 u_0 u_1 u_2
    have c0_10:=Below.step c0_9 d10
    have c0_11:=Below.step c0_10 b11
    have bE:=Below.step b0 c0_11
    go_wp2
    go_ret
    exact ⟨_,rfl,bE,rfl⟩
   ·have c0_6:=Below.step c0_5 d6
    have bE:=Below.step b0 c0_6
    go_wp2
    go_ret
    exact ⟨_,rfl,bE,rfl⟩
  ·skip
   go_wp2_with fail
   refine (inv_rule r k' R' ua un uc T' _ (hg.out.below c0_5) (h'.out.below c0_5)).mono ?_
   rintro e w6 ⟨x6,y6,rfl,b6,hy6,hx6⟩
   obtain ⟨k6,q6,a6,n6,m6,rfl⟩:=hx6.shape
   have al6:=(belowAlloc w6 (.cells #[.int .i64 k6,.int .i64 q6,.slice a6 n6 m6] 24))
   have d6:=Below.step b6 al6
   clear b_0 b_1 b_2
   have hy6':=hy6.open2
   clear hy6
   replace hx6:=Lib.hid hx6
   have c0_6:=Below.step c0_5 d6
   have bE:=Below.step b0 c0_6
   rcases hy6' with rfl | ⟨Ty6,py6,rfl⟩
   ·go_wp2
    go_ret
    exact ⟨_,rfl,bE,rfl⟩
   ·go_wp2
    go_ret
    exact ⟨_,rfl,bE,rfl⟩
 ·skip
  go_wp2_with fail
  refine (inv_rule r k R va vn vc T _ (hg.out.below c0_4) (h.out.below c0_4)).mono ?_
  rintro e w5 ⟨x5,y5,rfl,b5,hy5,hx5⟩
  obtain ⟨k5,q5,a5,n5,m5,rfl⟩:=hx5.shape
  have al5:=(belowAlloc w5 (.cells #[.int .i64 k5,.int .i64 q5,.slice a5 n5 m5] 24))
  have d5:=Below.step b5 al5
  clear a_0 a_1 a_2
  have hy5':=hy5.open2
  replace hy5:=Lib.hid hy5
  replace hx5:=Lib.hid hx5
  have c0_5:=Below.step c0_4 d5
  obtain ⟨⟨b_0,b_1,b_2⟩,-,-,-⟩:=(b.below c0_5)
  rcases hy5' with rfl | ⟨Ty5,py5,rfl⟩
  ·skip
   go_wp2_with fail
   refine (inv_rule r k' R' ua un uc T' _ (hg.out.below c0_5) (h'.out.below c0_5)).mono ?_
   rintro e w6 ⟨x6,y6,rfl,b6,hy6,hx6⟩
   obtain ⟨k6,q6,a6,n6,m6,rfl⟩:=hx6.shape
   have al6:=(belowAlloc w6 (.cells #[.int .i64 k6,.int .i64 q6,.slice a6 n6 m6] 24))
   have d6:=Below.step b6 al6
   clear b_0 b_1 b_2
   have hy6':=hy6.open2
   clear hy6
   replace hx6:=Lib.hid hx6
   have c0_6:=Below.step c0_5 d6
   have bE:=Below.step b0 c0_6
   rcases hy6' with rfl | ⟨Ty6,py6,rfl⟩
   ·go_wp2
    go_ret
    exact ⟨_,rfl,bE,rfl⟩
   ·go_wp2
    go_ret
    exact ⟨_,rfl,bE,rfl⟩
  ·skip
   go_wp2_with fail
   refine (inv_rule r k' R' ua un uc T' _ (hg.out.below c0_5) (h'.out.below c0_5)).mono ?_
   rintro e w6 ⟨x6,y6,rfl,b6,hy6,hx6⟩
   obtain ⟨k6,q6,a6,n6,m6,rfl⟩:=hx6.shape
   have al6:=(belowAlloc w6 (.cells #[.int .i64 k6,.int .i64 q6,.slice a6 n6 m6] 24))
   have d6:=Below.step b6 al6
   clear b_0 b_1 b_2
   have hy6':=hy6.open2
   clear hy6
   replace hx6:=Lib.hid hx6
   have c0_6:=Below.step c0_5 d6
   have bE:=Below.step b0 c0_6
   rcases hy6' with rfl | ⟨Ty6,py6,rfl⟩
   ·go_wp2
    go_ret
    exact ⟨_,rfl,bE,rfl⟩
   ·go_wp2
    go_ret
    exact ⟨_,rfl,bE,rfl⟩
end Go.Proofs.YtjiadfblphdchaaGreatDoor
namespace Go.Proofs.YtjiadfblphdchaaGreatDoor
open Go.ChangeShapes Go.WideShapes Go.ChangeAt Go.RowKit Go.Joins
namespace InverseComposesP
set_option maxRecDepth 100000 in
theorem door_met (os : Os) (args : Array Value) : laidMetH Tryz.prog Rows.inverseComposesRow.laid ((doorP os).forCall (fun _ _ => 0) ⟨#[],args,[]⟩).memory :=
 laidMetH_of_parts3 (fuel:=8) (laidMet_of_run' 8 (by kernel_rfl) (by kernel_rfl)) (by kernel_rfl) (by kernel_rfl)
set_option maxRecDepth 100000 in
theorem lifted (os : Os) (started : os.Started) (H : Type) (enc : TypeId × Value → H) :
 ReturnsInHanded {} Tryz.checked os 6 .any (fun w args => (Rows.inverseComposesSpec.pre enc Tryz.prog Tryz.f6 [] false w args ∧ laidMetH Tryz.prog Rows.inverseComposesRow.laid w) ∧ sizedMet enc Tryz.prog Tryz.f6 (OpenSpec.ofChange Rows.inverseComposesSpec) false w args)
  (Rows.inverseComposesSpec.post enc Tryz.prog Tryz.f6 false true false false):=by
 refine returnsInHanded_of_change_and (C:=Tryz.checked) (X:=fun w _ => laidMetH Tryz.prog Rows.inverseComposesRow.laid w) (fun _ _ _ hh h => h.of_heap hh) own started (by kernel_rfl) Tryz.func6
  (ChangeSpec.witness_shaped (enc:=enc) (C:=Tryz.checked) (os:=os) (X:=fun w _ => laidMetH Tryz.prog Rows.inverseComposesRow.laid w) false (doorP os) #[.agg #[.int .i64 0,.int .i64 0,.slice none 0 0],.agg #[.int .i64 0,.int .i64 0,.slice none 0 0]] 8 (doorP_os _) (World.shaped_of_RefB (by kernel_rfl) (by kernel_rfl)) (by kernel_rfl) (by kernel_rfl) (by kernel_rfl) (door_met os _)) ?_
 intro W base args ds gs before hval0 hW _ hsz hL _
 have hval : ∀ (j : Nat) t v,Tryz.f6.params[j]? = some t → args[j]? = some v → Value.okWide Tryz.prog W .any base t v:=hval0
 have hW':=hW
 obtain ⟨p,q,hA0,hV,rfl,hfz,hnd⟩:=hW
 have hA : DataW.TrodAll enc Tryz.prog W 0 (fun _ => true) true Tryz.f6.params.toList args.toList ds p:=hA0
 rw [Tryz.params6] at hA hval hsz
 obtain ⟨v0,vs0,d0,ds0,p0,q0,hargs,rfl,rfl,g0,t0⟩:=trodAll_cons hA
 obtain ⟨v1,vs1,d1,ds1,p1,q1,rfl,rfl,rfl,g1,t1⟩:=trodAll_cons t0
 obtain ⟨rfl,rfl,rfl⟩:=trodAll_nil t1
 obtain rfl : args = #[v0,v1]:=by cases args; simp_all
 obtain ⟨rfl,rfl⟩:=trodVars_none hV
 have kk0:=g0
 have lt0 : ∀ x ∈ p0,x.block < W.heap.size:=by obtain ⟨m,hm⟩:=kk0; exact DataW.trod_lt m _ _ _ hm
 obtain ⟨kr0,rr0,u0,x0,rfl,h0,l0,b0,bk0,br0⟩:=open_ruleV (hval 0 24 v0 rfl rfl) g0 (fun n hn => by
  have:=List.all_eq_true.1 hsz n (DataW.weights_mem_each (j:=0) (t:=24) rfl rfl n hn)
  simpa using this)
 have kk1:=g1
 have lt1 : ∀ x ∈ p1,x.block < W.heap.size:=by obtain ⟨m,hm⟩:=kk1; exact DataW.trod_lt m _ _ _ hm
 obtain ⟨kr1,rr1,u1,x1,rfl,h1,l1,b1,bk1,br1⟩:=open_ruleV (hval 1 24 v1 rfl rfl) g1 (fun n hn => by
  have:=List.all_eq_true.1 hsz n (DataW.weights_mem_each (j:=1) (t:=24) rfl rfl n hn)
  simpa using this)
 obtain ⟨r,hg,hG⟩:=glob_of_laidP (W:=W) (by
  exact hL)
 clear hA0 hval0
 refine (inverseComposes_any r kr0 rr0 u0 x0 kr1 rr1 u1 x1 W hg hG h0 h1).mono fun e W' ⟨x,he,bel,hxx⟩ => ?_
 subst he; subst hxx
 exact ⟨_,rfl,_,_,_,[],_,[],hW',trodAll_mk1 (shut_bool Tryz.underlying4 _),(trodAll_cons_mk (Below.trod laidOut (by kernel_rfl) (of_decide_eq_true (by kernel_rfl)) kk0 bel lt0) (trodAll_cons_mk (Below.trod laidOut (by kernel_rfl) (of_decide_eq_true (by kernel_rfl)) kk1 bel lt1) trodAll_mk0)),rfl,bel.frame _,fun h => by cases h⟩
theorem and_t {a b : Bool} (h : a = true) (k : b = true) : (a && b) = true:=by rw [h,k]; rfl
theorem jf_wf : Rows.inverseComposesRow.wf (OpenSpec.ofChange Rows.inverseComposesSpec) = true:=by kernel_rfl
theorem jf_lo : laidOutB Tryz.prog = true:=by kernel_rfl
theorem jf_mr : mapsRowed Tryz.prog = true:=by kernel_rfl
theorem jf_nt : namedTie Tryz.prog Rows.inverseComposesRow.named Rows.inverseComposesSpec.vars = true:=by kernel_rfl
theorem jf_ip : (Rows.inverseComposesRow.inPlace == Tryz.prog.inPlace 6) = true:=by kernel_rfl
theorem jf_uf : (Rows.inverseComposesRow.unfollowed == Tryz.prog.unfollowed 6) = true:=by kernel_rfl
theorem jf_rc : (Rows.inverseComposesRow.recurses == Tryz.prog.recurses 6) = true:=by kernel_rfl
theorem jf_nm : (Rows.inverseComposesRow.named == Tryz.prog.varsNamed 6) = true:=by kernel_rfl
theorem jf_pk : (Rows.inverseComposesRow.plainKeys == Tryz.prog.plainKeys) = true:=by kernel_rfl
theorem jf_sh : Tryz.prog.stopsHeard = true:=by kernel_rfl
theorem jf_me : Tryz.prog.mayEnter = true:=by kernel_rfl
theorem jf_lf : (Rows.inverseComposesRow.lifted == Tryz.prog.liftsFinal) = true:=by kernel_rfl
theorem jf_mk : (Tryz.prog.make == some Rows.inverseComposesRow.make) = true:=by kernel_rfl
theorem joined : joinedFacts Tryz.prog 6 Tryz.f6 Rows.inverseComposesSpec Rows.inverseComposesRow = true:=and_t (and_t (and_t (and_t (and_t (and_t (and_t (and_t (and_t (and_t (and_t (and_t (and_t (and_t (and_t (and_t (and_t (and_t (and_t (and_t (and_t (and_t (and_t (and_t (and_t (and_t (and_t (and_t (and_t (and_t (and_t jf_wf jf_lo) jf_mr) (by kernel_rfl)) jf_nt) (by kernel_rfl)) (by kernel_rfl)) (by kernel_rfl)) (by kernel_rfl)) jf_ip) jf_uf) jf_rc) jf_nm) (by kernel_rfl)) (by kernel_rfl)) (by kernel_rfl)) (by kernel_rfl)) (by kernel_rfl)) (by kernel_rfl)) (by kernel_rfl)) (by kernel_rfl)) (by kernel_rfl)) jf_pk) (by kernel_rfl)) jf_sh) jf_me) jf_lf) jf_mk) (by kernel_rfl)) (by kernel_rfl)) (by kernel_rfl)) (by kernel_rfl)
theorem fnamed : Tryz.prog.funcNamed Rows.inverseComposesRow.func = some 6:=by kernel_rfl
theorem inst : Tryz.f6.isInstance Tryz.prog Rows.inverseComposesRow.origin Rows.inverseComposesRow.targs:=of_decide_eq_true (by kernel_rfl)
theorem wrapd : Tryz.f6.isWrapper Tryz.prog Rows.inverseComposesRow.wrapper Rows.inverseComposesRow.mainSum:=by unfold Func.isWrapper; first | (rw [if_pos (by decide +kernel)]; kernel_rfl) | (rw [if_neg (by decide +kernel)]; exact ⟨rfl,rfl⟩)
theorem over : Rows.InverseComposesSaid :=
 OpenClaim.holds_of_wide 6 Tryz.f6 rfl rfl rfl rfl rfl rfl rfl ⟨rfl,rfl,rfl,rfl,rfl⟩ rfl rfl rfl rfl rfl fnamed Tryz.func6 joined
  inst wrapd
  (fun os started H enc _ => lifted os started H enc)
theorem cw : Rows.inverseComposesRow.wfByText (OpenSpec.ofChange Rows.inverseComposesSpec) = true:=by kernel_rfl
theorem cm : Tryz.prog.mainIs = some (Rows.inverseComposesCard.stood.harness.1,Rows.inverseComposesCard.stood.harness.2.toList):=by kernel_rfl
theorem cl : Rows.inverseComposesCard.stood.looks = Tryz.prog.looks []:=by kernel_rfl
theorem cg : false = Rows.inverseComposesRow.goesBy Tryz.prog:=by kernel_rfl
theorem cs : ([24,24].all fun u => !Tryz.prog.wantsStandIn u) = true:=by kernel_rfl
/-- The tied card. -/
theorem card_holds : Rows.InverseComposesCardSaid :=
 Claim7.holds_tied_plain_at .later [] [.data,.handle,.sentinel,.sentinel,.sentinel,.sentinel,.sentinel,.sentinel,.sentinel,.sentinel,.sentinel,.sentinel,.sentinel,.sentinel,.pinned] true _ _
  over (fun _ h => by cases h) cw (fun _ h => by cases h) inverseComposes_row_tie rfl ⟨rfl,rfl⟩ cm rfl
  (fun f fn hf hfn => by
    obtain rfl : f = 6:=Option.some.inj (fnamed.symm.trans hf) |>.symm
    obtain rfl : fn = Tryz.f6:=(Option.some.inj (Tryz.func6.symm.trans hfn)).symm
    exact ⟨cl,fun j t ht => by
     rw [Tryz.params6] at ht
     have hm : t ∈ [24,24]:=by simpa using Array.mem_of_getElem? ht
     exact (show Tryz.prog.wantsStandIn t = false by simpa using List.all_eq_true.1 cs t hm)⟩)
  cg
end InverseComposesP
#print axioms InverseComposesP.card_holds
end Go.Proofs.YtjiadfblphdchaaGreatDoor
