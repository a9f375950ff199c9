/-
  Proved: the law edenlaw20.InverseBack as its tied card: it returns true and never panics, for any rule and any row. No conditions beyond the card's own.
  Walk: edenlaw20.InverseBack returns true.
  Opening what a call is handed: api.Row.
-/
import Derived.Test.YtjiadfblphdchaaGreatDoorMVz1
import Derived.Test.YtjiadfblphdchaaGreatDoorCards
import Derived.Test.YtjiadfblphdchaaGreatDoorTie
import Derived.SevenTiedAt
namespace Go.Proofs.YtjiadfblphdchaaGreatDoor
open Go.RowKit
set_option maxRecDepth 100000
theorem set4_other (w : World) (g : Nat) (x0 x1 x2 x3 : Value) (a : Addr) (h : a.block ≠ g) : ((((w.setCell ⟨g,0,none⟩ x0).setCell ⟨g,1,none⟩ x1).setCell ⟨g,2,none⟩ x2).setCell ⟨g,3,none⟩ x3).cell? a = w.cell? a:=by
 have k : ∀ (w : World) (i : Nat) (x : Value),(w.setCell ⟨g,i,none⟩ x).cell? a = w.cell? a:=fun w i x => World.cell?_setCell_other _ _ _ _ (fun e => by subst e; exact h rfl)
 rw [k,k,k,k]
theorem IntsAt.set4 {w : World} {v : Value} {xs : List Int} {g : Nat} (h : IntsAt w v xs) (ho : ∀ i,i < xs.length → (valAt v i).block ≠ g) (x0 x1 x2 x3 : Value) : IntsAt ((((w.setCell ⟨g,0,none⟩ x0).setCell ⟨g,1,none⟩ x1).setCell ⟨g,2,none⟩ x2).setCell ⟨g,3,none⟩ x3) v xs :=
 h.cells_eq fun i hi => set4_other _ _ _ _ _ _ _ (ho i hi)
theorem Cells4.set4 {w : World} {g : Nat} {a b c d : Value} (h : Cells4 w g a b c d) (x0 x1 x2 x3 : Value) : Cells4 ((((w.setCell ⟨g,0,none⟩ x0).setCell ⟨g,1,none⟩ x1).setCell ⟨g,2,none⟩ x2).setCell ⟨g,3,none⟩ x3) g x0 x1 x2 x3:=by
 have s : ∀ (w : World) (i : Nat) (x m : Value),w.cell? ⟨g,i,none⟩ = some m → (w.setCell ⟨g,i,none⟩ x).cell? ⟨g,i,none⟩ = some x:=fun w i x m hm => World.cell?_setCell_same _ _ _ hm
 have o : ∀ (w : World) (i j : Nat) (x : Value),i ≠ j → (w.setCell ⟨g,i,none⟩ x).cell? ⟨g,j,none⟩ = w.cell? ⟨g,j,none⟩:=fun w i j x hn => World.cell?_setCell_other _ _ _ _ (fun e => hn (by cases e; rfl))
 refine ⟨?_,?_,?_,?_⟩
 ·rw [o _ 3 0 _ (by decide),o _ 2 0 _ (by decide),o _ 1 0 _ (by decide)]; exact s _ _ _ _ h.c0
 ·rw [o _ 3 1 _ (by decide),o _ 2 1 _ (by decide)]; exact s _ _ _ _ (by rw [o _ 0 1 _ (by decide)]; exact h.c1)
 ·rw [o _ 3 2 _ (by decide)]; exact s _ _ _ _ (by rw [o _ 1 2 _ (by decide),o _ 0 2 _ (by decide)]; exact h.c2)
 ·exact s _ _ _ _ (by rw [o _ 2 3 _ (by decide),o _ 1 3 _ (by decide),o _ 0 3 _ (by decide)]; exact h.c3)
set_option maxHeartbeats 8000000 in
theorem inverseBack_bad (r : Nat → Addr) (k R : Int) (va : Option Addr) (vn vc : Nat) (T : List Int) (p : Int) (la : Option Addr) (ln lc : Nat) (ca : Option Addr) (cn cc : Nat) (qa : Option Addr) (qn qc : Nat) (L C Q : List Int) (w : World) (hg : Glob r w) (hG : GlobE w) (h : IntsAt w (.slice va vn vc) T) (hL : IntsAt w (.slice la ln lc) L) (hC : IntsAt w (.slice ca cn cc) C) (hQ : IntsAt w (.slice qa qn qc) Q) (t : Int × List (ByteArray × Int)) (hc : smallP k R T = some t) :
 Calls Tryz.prog 4 #[.agg #[.int .i64 k,.int .i64 R,.slice va vn vc],.agg #[.int .i64 p,.slice la ln lc,.slice ca cn cc,.slice qa qn qc]] w (Ret1 (fun x _ => x = .bool true) w):=by
 have b0:=Below.step (belowAlloc w (.cells #[.int .i64 k,.int .i64 R,.slice va vn vc] 24)) (belowAlloc _ (.cells #[.int .i64 p,.slice la ln lc,.slice ca cn cc,.slice qa qn qc] 45))
 have a : Box3 ((w.alloc (.cells #[.int .i64 k,.int .i64 R,.slice va vn vc] 24)).alloc (.cells #[.int .i64 p,.slice la ln lc,.slice ca cn cc,.slice qa qn qc] 45)) w.heap.size (.int .i64 k) (.int .i64 R) (.slice va vn vc):=by simp [Box3,go_sem]
 have y : Cells4 ((w.alloc (.cells #[.int .i64 k,.int .i64 R,.slice va vn vc] 24)).alloc (.cells #[.int .i64 p,.slice la ln lc,.slice ca cn cc,.slice qa qn qc] 45)) (w.heap.size + 1) (.int .i64 p) (.slice la ln lc) (.slice ca cn cc) (.slice qa qn qc):=by
  refine ⟨?_,?_,?_,?_⟩ <;> simp [go_sem]
 replace hg:=Lib.hid (hg.below b0)
 replace hG:=Lib.hid (hG.below b0)
 replace h:=Lib.hid (h.below b0)
 replace hL:=Lib.hid (hL.below b0)
 replace hC:=Lib.hid (hC.below b0)
 replace hQ:=Lib.hid (hQ.below b0)
 obtain ⟨tl,htl⟩ : ∃ tl,T.length = tl:=⟨_,rfl⟩
 replace htl:=Lib.hid htl
 have hE:=invE_bad hc
 replace hE:=Lib.hid hE
 replace hc:=Lib.hid hc
 go_enter Tryz.func4,Tryz.ntmps4
 go_wp2_with fail
 refine (awake20 r _ hg.out hG.out).mono ?_
 rintro e w1 ⟨_,rfl,b1,rfl⟩
 obtain ⟨⟨a_0,a_1,a_2⟩,-,-,-⟩:=(a.below b1)
 go_wp2_with fail
 refine (heavy20 k R va vn vc T _ (h.out.below b1)).mono ?_
 rintro e w2 ⟨_,rfl,b2,rfl⟩
 rw [htl.out]
 clear a_0 a_1 a_2
 by_cases hh : 64 < tl
 ·have dh : decide (64 < tl) = true:=decide_eq_true hh
  have c0_2:=Below.step b1 b2
  have bE:=Below.step b0 c0_2
  go_wp2
  go_ret
  exact ⟨_,rfl,bE,rfl⟩
 have dh : decide (64 < tl) = false:=decide_eq_false hh
 have c0_2:=Below.step b1 b2
 obtain ⟨⟨a_0,a_1,a_2⟩,-,-,-⟩:=(a.below c0_2)
 go_wp2_with fail
 refine (inv_rule r k R va vn vc T _ (hg.out.below c0_2) (h.out.below c0_2)).mono ?_
 rintro e w3 ⟨x,y3,rfl,b3,hy3,hx3⟩
 clear a_0 a_1 a_2
 obtain ⟨k3,q3,a3,n3,m3,rfl⟩:=hx3.shape
 have al3:=(belowAlloc w3 (.cells #[.int .i64 k3,.int .i64 q3,.slice a3 n3 m3] 24))
 have d3:=Below.step b3 al3
 rw [hE.out] at hy3
 obtain ⟨T3,p3,rfl⟩:=hy3.some_shape
 clear hy3
 replace hx3:=Lib.hid hx3
 have c0_3:=Below.step c0_2 d3
 obtain ⟨⟨a_0,a_1,a_2⟩,-,-,-⟩:=(a.below c0_3)
 go_wp2_with fail
 refine (inv_radius r k R va vn vc T _ (hg.out.below c0_3) (h.out.below c0_3)).mono ?_
 rintro e w4 ⟨_,y4,rfl,b4,hy4,rfl⟩
 clear a_0 a_1 a_2
 rw [hE.out] at hy4
 obtain ⟨T4,p4,rfl⟩:=hy4.some_shape
 clear hy4
 obtain ⟨N,hN⟩ : ∃ N,radN k R T = N:=⟨_,rfl⟩
 rw [hN]
 replace hN:=Lib.hid hN
 have c0_4:=Below.step c0_3 b4
 obtain ⟨⟨a_0,a_1,a_2⟩,-,-,-⟩:=(a.below c0_4)
 go_wp2_with fail
 refine (one_bad r k R va vn vc T t _ (hg.out.below c0_4) (h.out.below c0_4) hc.out).mono ?_
 rintro e w5 ⟨_,_,_,yv,rfl,b5,rfl,rfl,rfl,hy5⟩
 clear a_0 a_1 a_2
 obtain ⟨T5,p5,rfl⟩ : ∃ T a,yv = .iface T (.pointer (some a)):=by
  unfold under at hy5
  exact ErrIs.some_shape hy5
 replace hy5:=Lib.hid hy5
 have al5:=(Below.step (belowAlloc w5 (.cells #[.int .i64 0,.slice none 0 0,.slice none 0 0,.slice none 0 0] 45)) (belowAlloc _ (.cells #[.int .i64 0,.slice none 0 0,.slice none 0 0,.slice none 0 0] 45)))
 have d5:=Below.step b5 al5
 have c0_5:=Below.step c0_4 d5
 have bE:=Below.step b0 c0_5
 go_wp2
 go_ret
 exact ⟨_,rfl,bE,rfl⟩
set_option maxHeartbeats 8000000 in
theorem inverseBack_ok (r : Nat → Addr) (K R : Nat) (va : Option Addr) (vn vc : Nat) (T : List Int) (p : Int) (la : Option Addr) (ln lc : Nat) (ca : Option Addr) (cn cc : Nat) (qa : Option Addr) (qn qc : Nat) (L C Q : List Int) (w : World) (hg : Glob r w) (hG : GlobE w) (h : IntsAt w (.slice va vn vc) T) (hL : IntsAt w (.slice la ln lc) L) (hC : IntsAt w (.slice ca cn cc) C) (hQ : IntsAt w (.slice qa qn qc) Q) (hr : RuleOk K R T) (hl : T.length ≤ 256) :
 Calls Tryz.prog 4 #[.agg #[.int .i64 K,.int .i64 R,.slice va vn vc],.agg #[.int .i64 p,.slice la ln lc,.slice ca cn cc,.slice qa qn qc]] w (Ret1 (fun x _ => x = .bool true) w):=by
 have b0:=Below.step (belowAlloc w (.cells #[.int .i64 K,.int .i64 R,.slice va vn vc] 24)) (belowAlloc _ (.cells #[.int .i64 p,.slice la ln lc,.slice ca cn cc,.slice qa qn qc] 45))
 have a : Box3 ((w.alloc (.cells #[.int .i64 K,.int .i64 R,.slice va vn vc] 24)).alloc (.cells #[.int .i64 p,.slice la ln lc,.slice ca cn cc,.slice qa qn qc] 45)) w.heap.size (.int .i64 K) (.int .i64 R) (.slice va vn vc):=by simp [Box3,go_sem]
 have y : Cells4 ((w.alloc (.cells #[.int .i64 K,.int .i64 R,.slice va vn vc] 24)).alloc (.cells #[.int .i64 p,.slice la ln lc,.slice ca cn cc,.slice qa qn qc] 45)) (w.heap.size + 1) (.int .i64 p) (.slice la ln lc) (.slice ca cn cc) (.slice qa qn qc):=by
  refine ⟨?_,?_,?_,?_⟩ <;> simp [go_sem]
 replace hg:=Lib.hid (hg.below b0)
 replace hG:=Lib.hid (hG.below b0)
 replace h:=Lib.hid (h.below b0)
 replace hL:=Lib.hid (hL.below b0)
 replace hC:=Lib.hid (hC.below b0)
 replace hQ:=Lib.hid (hQ.below b0)
 obtain ⟨tl,htl⟩ : ∃ tl,T.length = tl:=⟨_,rfl⟩
 replace htl:=Lib.hid htl
 have hk1:=hr.k1
 have hk4:=hr.k4
 have hR3:=hr.r3
 obtain ⟨i1,i2,i3⟩:=invE_ok hr hl
 replace hr:=Lib.hid hr
 replace hl:=Lib.hid hl
 replace i1:=Lib.hid i1
 replace i2:=Lib.hid i2
 replace i3:=Lib.hid i3
 go_enter Tryz.func4,Tryz.ntmps4
 go_wp2_with fail
 refine (awake20 r _ hg.out hG.out).mono ?_
 rintro e w1 ⟨_,rfl,b1,rfl⟩
 obtain ⟨⟨a_0,a_1,a_2⟩,-,-,-⟩:=(a.below b1)
 go_wp2_with fail
 refine (heavy20 K R va vn vc T _ (h.out.below b1)).mono ?_
 rintro e w2 ⟨_,rfl,b2,rfl⟩
 rw [htl.out]
 clear a_0 a_1 a_2
 by_cases hh : 64 < tl
 ·have dh : decide (64 < tl) = true:=decide_eq_true hh
  have c0_2:=Below.step b1 b2
  have bE:=Below.step b0 c0_2
  go_wp2
  go_ret
  exact ⟨_,rfl,bE,rfl⟩
 have dh : decide (64 < tl) = false:=decide_eq_false hh
 have c0_2:=Below.step b1 b2
 obtain ⟨⟨a_0,a_1,a_2⟩,-,-,-⟩:=(a.below c0_2)
 go_wp2_with fail
 refine (inv_rule r K R va vn vc T _ (hg.out.below c0_2) (h.out.below c0_2)).mono ?_
 rintro e w3 ⟨x,y3,rfl,b3,hy3,hx3⟩
 clear a_0 a_1 a_2
 obtain ⟨k3,q3,a3,n3,m3,rfl⟩:=hx3.shape
 have al3:=(belowAlloc w3 (.cells #[.int .i64 k3,.int .i64 q3,.slice a3 n3 m3] 24))
 have d3:=Below.step b3 al3
 replace hx3:=Lib.hid hx3
 replace hy3:=Lib.hid hy3
 have c0_3:=Below.step c0_2 d3
 obtain ⟨⟨a_0,a_1,a_2⟩,-,-,-⟩:=(a.below c0_3)
 go_wp2_with fail
 refine (inv_radius r K R va vn vc T _ (hg.out.below c0_3) (h.out.below c0_3)).mono ?_
 rintro e w4 ⟨_,y4,rfl,b4,hy4,rfl⟩
 clear a_0 a_1 a_2
 obtain ⟨N,hN⟩ : ∃ N,radN K R T = N:=⟨_,rfl⟩
 rw [hN]
 replace hN:=Lib.hid hN
 replace hy4:=Lib.hid hy4
 have c0_4:=Below.step c0_3 b4
 obtain ⟨⟨a_0,a_1,a_2⟩,-,-,-⟩:=(a.below c0_4)
 go_wp2_with fail
 refine (one_ok r K R va vn vc T _ (hg.out.below c0_4) (h.out.below c0_4) hr.out hl.out).mono ?_
 rintro e w5 ⟨_,_,_,_,rfl,b5,hp⟩
 clear a_0 a_1 a_2
 obtain ⟨rfl,Y,rfl,hY,e1,f1,g1,e2,f2,g2,e3,f3,g3,e4,f4,g4,e5,f5,g5,e6,f6,g6,rfl,rfl⟩:=hp.ans
 clear hp
 have al5:=(Below.step (belowAlloc w5 (.cells #[.int .i64 0,.slice e1 f1 g1,.slice e2 f2 g2,.slice e3 f3 g3] 45)) (belowAlloc _ (.cells #[.int .i64 0,.slice e4 f4 g4,.slice e5 f5 g5,.slice e6 f6 g6] 45)))
 have d5:=Below.step b5 al5
 cases hE : invE K R T with
 | some t =>
  have hx:=hx3.out.2 (by rw [hE]; simp)
  injection hx with hx
  simp only [Array.mk.injEq,List.cons.injEq,Value.int.injEq,Value.slice.injEq,true_and,and_true] at hx
  obtain ⟨rfl,rfl,rfl,rfl,rfl⟩:=hx
  have s : Box3 (w3.alloc (.cells #[.int .i64 0,.int .i64 0,.slice none 0 0] 24)) w3.heap.size (.int .i64 0) (.int .i64 0) (.slice none 0 0):=by simp [Box3,go_sem]
  have hN0 : N = 0:=by rw [← hN.out]; unfold radN; rw [hE]
  subst hN0
  have hy3':=hy3.out
  rw [hE] at hy3'
  have hy3s:=hy3'.some_shape
  obtain ⟨T3,p3,rfl⟩:=hy3s
  have hy4':=hy4.out
  rw [hE] at hy4'
  obtain ⟨T4,p4,rfl⟩:=hy4'.some_shape
  clear hy4 hy4'
  have nn : ∀ w',(Builtin.len_ #[22] 3 #[.slice none 0 0]).run Tryz.prog w' = .ok (.int .i64 0) w':=(OwnI.nil 0 w).at.len
  replace hE:=Lib.hid hE
  replace hy3':=Lib.hid hy3'
  replace hx3:=Lib.hid hx3
  clear hy3
  have c3_5:=Below.step b4 d5
  obtain ⟨⟨s_0,s_1,s_2⟩,-,-,-⟩:=(s.below c3_5)
  cases Y with
  | false =>
   replace hY:=Lib.hid hY
   have c0_5:=Below.step c0_4 d5
   have bE:=Below.step b0 c0_5
   go_wp2
   go_ret
   exact ⟨_,rfl,bE,rfl⟩
  | true =>
   have hone : ¬ NotOne K R T:=hY.1 rfl
   clear hY
   have hf : findP K R T = none:=Classical.byContradiction fun q => by have:=i3.out hone q; rw [hE.out] at this; cases this
   have hE4:=i2.out hone hf
   rw [hE.out] at hE4
   have hye:=hy3'.out
   rw [hE4] at hye
   replace hye:=((hye.below al3).below c3_5)
   replace hone:=Lib.hid hone
   replace hf:=Lib.hid hf
   replace hE4:=Lib.hid hE4
   replace hye:=Lib.hid hye
   replace hy3':=Lib.hid hy3'
   go_wp2_with fail
   refine (raw_new sInverse 0 4 _).mono ?_
   rintro e w6 ⟨nv,rfl,b6,hnv⟩
   obtain ⟨nn1,nn2,nn3,nn4,nn5,nn6,nn7,rfl⟩:=hnv.shape
   have c0_5:=Below.step c0_4 d5
   have c0_6:=Below.step c0_5 b6
   have his:=raw_is r (fresh sInverse 0 4) _ _ _ (hg.out.below c0_6) (hG.out.below c0_6) (hye.out.below b6) hnv.at ⟨by decide,by decide,by decide⟩
   replace hnv:=Lib.hid hnv
   replace his:=Lib.hid his
   go_wp2_with fail
   refine (his.out).mono ?_
   rintro e w7 ⟨_,rfl,b7,rfl⟩
   clear s_0 s_1 s_2
   have c0_7:=Below.step c0_6 b7
   have bE:=Below.step b0 c0_7
   go_wp2
   go_ret
   exact ⟨_,rfl,bE,rfl⟩
 | none =>
  obtain ⟨_,_,d,S,b3,c3,d3,q1,q2,-,e9,ho,hF⟩:=hx3.out.found hE
  obtain rfl:=Int.ofNat.inj q1
  obtain rfl:=Int.ofNat.inj q2
  clear q1 q2
  injection e9 with e9
  simp only [Array.mk.injEq,List.cons.injEq,Value.int.injEq,Value.slice.injEq,true_and,and_true] at e9
  obtain ⟨rfl,rfl,rfl,rfl,rfl⟩:=e9
  have s : Box3 (w3.alloc (.cells #[.int .i64 K,.int .i64 d,.slice a3 n3 m3] 24)) w3.heap.size (.int .i64 K) (.int .i64 d) (.slice a3 n3 m3):=by simp [Box3,go_sem]
  replace ho:=ho.below al3
  have hNd : N = d:=by rw [← hN.out]; unfold radN; rw [hE]; simp only [Int.toNat_natCast]; rw [hF.find]
  subst hNd
  have hy3':=hy3.out
  rw [hE] at hy3'
  obtain rfl:=hy3'.none_eq
  clear hy3' hy3
  have hy4':=hy4.out
  rw [hE] at hy4'
  obtain rfl:=hy4'.none_eq
  clear hy4' hy4
  obtain rfl : Y = true:=hY.2 hF.one
  clear hY
  have hd3:=hF.inv.r3
  have hck:=hF.inv.check
  replace hE:=Lib.hid hE
  replace hx3:=Lib.hid hx3
  replace ho:=Lib.hid ho
  replace hF:=Lib.hid hF
  replace hck:=Lib.hid hck
  have c3_5:=Below.step b4 d5
  obtain ⟨⟨s_0,s_1,s_2⟩,-,-,-⟩:=(s.below c3_5)
  have c0_5:=Below.step c0_4 d5
  go_wp2_with fail
  refine (narrow_ok r K d a3 n3 m3 S _ (hg.out.below c0_5) (ho.out.below c3_5).at hF.out.inv).mono ?_
  rintro e w6 ⟨_,_,rfl,b6,rfl,Q6,N6,a6,n6,m6,rfl,ho6,hN6⟩
  clear s_0 s_1 s_2
  obtain rfl:=find_narrow hF.out.rule hF.out.find hN6
  have al6:=(belowAlloc w6 (.cells #[.int .i64 K,.int .i64 Q6,.slice a6 n6 m6] 24))
  have d6:=Below.step b6 al6
  have v : Box3 (w6.alloc (.cells #[.int .i64 K,.int .i64 Q6,.slice a6 n6 m6] 24)) w6.heap.size (.int .i64 K) (.int .i64 Q6) (.slice a6 n6 m6):=by simp [Box3,go_sem]
  clear ho6 hN6
  have c0_6:=Below.step c0_5 d6
  obtain ⟨⟨a_0,a_1,a_2⟩,-,-,-⟩:=(a.below c0_6)
  have c3_6:=Below.step c3_5 d6
  obtain ⟨⟨s_0,s_1,s_2⟩,-,-,-⟩:=(s.below c3_6)
  obtain ⟨⟨v_0,v_1,v_2⟩,-,-,-⟩:=id v
  have dd : (((Q6 : Nat) : Int) != ((Q6 : Nat) : Int)) = false:=by simp
  have dK : ((K : Int) != (K : Int)) = false:=by simp
  have d3 : decide ((3 : Int) < ((Q6 : Nat) : Int)) = false:=decide_eq_false (by omega)
  go_wp2_with fail
  refine (check_any r K Q6 _ S _ (hg.out.below c0_6) (ho.out.below c3_6).at).mono ?_
  rintro e w7 ⟨_,rfl,b7,hck7⟩
  clear a_0 a_1 a_2 s_0 s_1 s_2 v_0 v_1 v_2
  rw [hck.out] at hck7
  obtain rfl:=hck7.none_eq
  clear hck7
  have c0_7:=Below.step c0_6 b7
  obtain ⟨⟨a_0,a_1,a_2⟩,-,-,-⟩:=(a.below c0_7)
  obtain ⟨y_0,y_1,y_2,y_3⟩:=(y.below c0_7)
  go_wp2_with fail
  refine (ref_rowc p K la ln lc ca cn cc qa qn qc L C Q _ (hL.out.below c0_7) (hC.out.below c0_7) (hQ.out.below c0_7) hk1 hk4).mono ?_
  rintro e w8 ⟨x,rfl,b8,he8⟩
  clear a_0 a_1 a_2 y_0 y_1 y_2 y_3
  cases hrp : rowP K p L C Q with
  | some t =>
   obtain ⟨tn,tl'⟩:=t
   have htn:=rowP_num hrp
   rw [hrp] at he8
   obtain ⟨u1,u2,u3,u4,u5,u6,rfl,-,-⟩:=he8
   have htb : (tn != 0) = true:=by rw [bne_iff_ne]; exact htn
   replace hrp:=Lib.hid hrp
   go_wp2_with fail
   refine (err_bad _ _ _ _ _ _ _ _).mono ?_
   rintro e w9 ⟨_,rfl,b9,rfl⟩
   rw [htb]
   have c0_8:=Below.step c0_7 b8
   have c0_9:=Below.step c0_8 b9
   have bE:=Below.step b0 c0_9
   go_wp2
   go_ret
   exact ⟨_,rfl,bE,rfl⟩
  | none =>
   rw [hrp] at he8
   obtain rfl : x = zErr:=he8
   have hro : RowOk K p L C Q:=by
    obtain ⟨K',e,hk⟩:=rowP_none hrp
    obtain rfl : K = K':=by omega
    exact hk
   obtain ⟨-,-,p1,p2,l1,l2,q1,q2,c2,sL,sC,sQ⟩:=hro
   replace hrp:=Lib.hid hrp
   have lL:=hL.out.len
   have lC:=hC.out.len
   have lQ:=hQ.out.len
   obtain ⟨ll,hll⟩ : ∃ n,L.length = n:=⟨_,rfl⟩
   obtain ⟨cl,hcl⟩ : ∃ n,C.length = n:=⟨_,rfl⟩
   obtain ⟨ql,hql⟩ : ∃ n,Q.length = n:=⟨_,rfl⟩
   rw [hll] at lL l1 l2
   rw [hcl] at lC c2
   rw [hql] at lQ q1 q2
   replace hll:=Lib.hid hll
   replace hcl:=Lib.hid hcl
   replace hql:=Lib.hid hql
   replace sL:=Lib.hid sL
   replace sC:=Lib.hid sC
   replace sQ:=Lib.hid sQ
   go_wp2_with fail
   refine (err_bad _ _ _ _ _ _ _ _).mono ?_
   rintro e w9 ⟨_,rfl,b9,rfl⟩
   rw [show ((0 : Int) != 0) = false from rfl]
   have c0_8:=Below.step c0_7 b8
   have c0_9:=Below.step c0_8 b9
   obtain ⟨y_0,y_1,y_2,y_3⟩:=(y.below c0_9)
   by_cases hd1 : 2000 < cl
   ·have d1 : decide ((2000 : Int) < (cl : Int)) = true:=decide_eq_true (by omega)
    have bE:=Below.step b0 c0_9
    go_wp2
    go_ret
    exact ⟨_,rfl,bE,rfl⟩
   have d1 : decide ((2000 : Int) < (cl : Int)) = false:=decide_eq_false (by omega)
   by_cases hd2 : 200 < ll
   ·have d2 : decide ((200 : Int) < (ll : Int)) = true:=decide_eq_true (by omega)
    have bE:=Below.step b0 c0_9
    go_wp2
    go_ret
    exact ⟨_,rfl,bE,rfl⟩
   have d2 : decide ((200 : Int) < (ll : Int)) = false:=decide_eq_false (by omega)
   by_cases hd5 : 200 < ql
   ·have d5 : decide ((200 : Int) < (ql : Int)) = true:=decide_eq_true (by omega)
    have bE:=Below.step b0 c0_9
    go_wp2
    go_ret
    exact ⟨_,rfl,bE,rfl⟩
   have d5 : decide ((200 : Int) < (ql : Int)) = false:=decide_eq_false (by omega)
   have kS:=hF.out.inv.syms
   replace kS:=Lib.hid kS
   go_upto_region 17 with fail
   clear y_0 y_1 y_2 y_3
   obtain ⟨WB,hWB⟩ : ∃ W : World,w9.drew = W:=⟨_,rfl⟩
   have tWB : Below w9.heap.size w9 WB:=by rw [← hWB]; exact (Below.refl _ _).drew
   have c3_7:=Below.step c3_6 b7
   have c3_8:=Below.step c3_7 b8
   have c3_9:=Below.step c3_8 b9
   have kWB : ∀ w',Below WB.heap.size WB w' → w'.cell? ⟨w.heap.size,0,none⟩ = some (.int .i64 K) ∧ w'.cell? ⟨w.heap.size,1,none⟩ = some (.int .i64 R) ∧ w'.cell? ⟨w.heap.size,2,none⟩ = some (.slice va vn vc) ∧ w'.cell? ⟨w3.heap.size,0,none⟩ = some (.int .i64 K) ∧ w'.cell? ⟨w3.heap.size,1,none⟩ = some (.int .i64 Q6) ∧ w'.cell? ⟨w3.heap.size,2,none⟩ = some (.slice a3 n3 m3) ∧ w'.cell? ⟨w.heap.size + 1,0,none⟩ = some (.int .i64 p) ∧ w'.cell? ⟨w.heap.size + 1,1,none⟩ = some (.slice la ln lc) ∧ w'.cell? ⟨w.heap.size + 1,2,none⟩ = some (.slice ca cn cc) ∧ w'.cell? ⟨w.heap.size + 1,3,none⟩ = some (.slice qa qn qc):=fun w' hb => by
    obtain ⟨⟨x0,x1,x2⟩,-,-,-⟩:=((a.below c0_9).below tWB).below hb
    obtain ⟨⟨z0,z1,z2⟩,-,-,-⟩:=((s.below c3_9).below tWB).below hb
    obtain ⟨j0,j1,j2,j3⟩:=((y.below c0_9).below tWB).below hb
    exact ⟨x0,x1,x2,z0,z1,z2,j0,j1,j2,j3⟩
   have r1WB:=(h.out.below c0_9).below tWB
   have r2WB:=(ho.out.at.below c3_9).below tWB
   have r3WB:=(hL.out.below c0_9).below tWB
   have r4WB:=(hC.out.below c0_9).below tWB
   have r5WB:=(hQ.out.below c0_9).below tWB
   have im1:=fun (w' : World) (hb : Below WB.heap.size WB w') => ref_rimageO p K R va vn vc T la ln lc ca cn cc qa qn qc L C Q w' (r1WB.below hb) hr.out (r3WB.below hb) (r4WB.below hb) (r5WB.below hb) (by rw [hll.out]; omega) (by rw [hql.out]; omega) (by rw [hll.out]; omega) (by rw [hcl.out]; omega) (by rw [hql.out]; omega) (by omega) sL.out sC.out sQ.out (by rw [hll.out]; omega) (by rw [hcl.out]; omega) (by rw [hql.out]; omega) (by omega)
   have nA1 : (imL K R T p L C Q).length = ll:=by rw [imL_len,hll.out]
   have nA2 : (imC K R T p L C Q).length = cl + 2 * R:=by rw [imC_len,hcl.out]
   have nA3 : (imQ K R T p L C Q).length = ql:=by rw [imQ_len,hql.out]
   have yA1 : Syms K (imL K R T p L C Q):=imgP_syms hk1 hr.out.syms
   have yA2 : Syms K (imC K R T p L C Q):=imgP_syms hk1 hr.out.syms
   have yA3 : Syms K (imQ K R T p L C Q):=imgP_syms hk1 hr.out.syms
   change ∀ (w' : World) (hb : Below WB.heap.size WB w'),Calls Tryz.prog 25 #[.agg #[.int .i64 K,.int .i64 R,.slice va vn vc],.agg #[.int .i64 p,.slice la ln lc,.slice ca cn cc,.slice qa qn qc]] w' (Ret1 (fun x w'' => ∃ l1 l2 l3 c1 c2 c3 q1 q2 q3,x = .agg #[.int .i64 (p - R),.slice l1 l2 l3,.slice c1 c2 c3,.slice q1 q2 q3] ∧ OwnI w'.heap.size w'' (.slice l1 l2 l3) (imL K R T p L C Q) ∧ OwnI w'.heap.size w'' (.slice c1 c2 c3) (imC K R T p L C Q) ∧ OwnI w'.heap.size w'' (.slice q1 q2 q3) (imQ K R T p L C Q)) w') at im1
   obtain ⟨A1,hA1⟩ : ∃ A,(imL K R T p L C Q) = A:=⟨_,rfl⟩
   obtain ⟨A2,hA2⟩ : ∃ A,(imC K R T p L C Q) = A:=⟨_,rfl⟩
   obtain ⟨A3,hA3⟩ : ∃ A,(imQ K R T p L C Q) = A:=⟨_,rfl⟩
   rw [hA1] at nA1 yA1
   rw [hA2] at nA2 yA2
   rw [hA3] at nA3 yA3
   simp only [hA1,hA2,hA3] at im1
   have im2:=fun (w' : World) (hb : Below WB.heap.size WB w') (l1 : Option Addr) (l2 l3 : Nat) (c1 : Option Addr) (c2 c3 : Nat) (q1 : Option Addr) (q2 q3 : Nat) (i1 : IntsAt w' (.slice l1 l2 l3) A1) (i2 : IntsAt w' (.slice c1 c2 c3) A2) (i3 : IntsAt w' (.slice q1 q2 q3) A3) => ref_rimageO (p - R) K Q6 a3 n3 m3 S l1 l2 l3 c1 c2 c3 q1 q2 q3 A1 A2 A3 w' (r2WB.below hb) hF.out.inv i1 i2 i3 (by omega) (by omega) (by omega) (by omega) (by omega) (by omega) yA1 yA2 yA3 (by omega) (by omega) (by omega) (by omega)
   change ∀ (w' : World) (hb : Below WB.heap.size WB w') (l1 : Option Addr) (l2 l3 : Nat) (c1 : Option Addr) (c2 c3 : Nat) (q1 : Option Addr) (q2 q3 : Nat) (i1 : IntsAt w' (.slice l1 l2 l3) A1) (i2 : IntsAt w' (.slice c1 c2 c3) A2) (i3 : IntsAt w' (.slice q1 q2 q3) A3),Calls Tryz.prog 25 #[.agg #[.int .i64 K,.int .i64 Q6,.slice a3 n3 m3],.agg #[.int .i64 (p - R),.slice l1 l2 l3,.slice c1 c2 c3,.slice q1 q2 q3]] w' (Ret1 (fun x w'' => ∃ l1 l2 l3 c1 c2 c3 q1 q2 q3,x = .agg #[.int .i64 (p - R - Q6),.slice l1 l2 l3,.slice c1 c2 c3,.slice q1 q2 q3] ∧ OwnI w'.heap.size w'' (.slice l1 l2 l3) (imL K Q6 S (p - R) A1 A2 A3) ∧ OwnI w'.heap.size w'' (.slice c1 c2 c3) (imC K Q6 S (p - R) A1 A2 A3) ∧ OwnI w'.heap.size w'' (.slice q1 q2 q3) (imQ K Q6 S (p - R) A1 A2 A3)) w') at im2
   obtain ⟨B1,hB1⟩ : ∃ A,(imL K Q6 S (p - R) A1 A2 A3) = A:=⟨_,rfl⟩
   obtain ⟨B2,hB2⟩ : ∃ A,(imC K Q6 S (p - R) A1 A2 A3) = A:=⟨_,rfl⟩
   obtain ⟨B3,hB3⟩ : ∃ A,(imQ K Q6 S (p - R) A1 A2 A3) = A:=⟨_,rfl⟩
   simp only [hB1,hB2,hB3] at im2
   obtain ⟨pA,hpA⟩ : ∃ z,p - (R : Int) = z:=⟨_,rfl⟩
   obtain ⟨pBB,hpBB⟩ : ∃ z,pA - (Q6 : Int) = z:=⟨_,rfl⟩
   simp only [hpA] at im1
   simp only [hpA,hpBB] at im2
   have nB1B : B1.length = ll:=by rw [← hB1,imL_len]; exact nA1
   have nB2B : B2.length = cl + 2 * R + 2 * Q6:=by rw [← hB2,imC_len,nA2]
   have nB3B : B3.length = ql:=by rw [← hB3,imQ_len]; exact nA3
   have backB : ∀ i,cellP pBB B1 B2 B3 i = cellP p L C Q i:=fun i => by
    have hb:=row_back (p:=p) hF.out.takes (L:=L) (C:=C) (Q:=Q) (by rw [hll.out]; omega) (by rw [hql.out]; omega) sL.out sC.out sQ.out i
    rw [hA1,hA2,hA3,hB1,hB2,hB3,hpA,hpBB] at hb
    exact hb
   have pbB : -5000 ≤ pBB ∧ pBB ≤ 5000:=by omega
   replace kWB:=Lib.hid kWB
   replace hWB:=Lib.hid hWB
   replace im1:=Lib.hid im1
   replace im2:=Lib.hid im2
   replace backB:=Lib.hid backB
   replace hA1:=Lib.hid hA1
   replace hA2:=Lib.hid hA2
   replace hA3:=Lib.hid hA3
   replace hB1:=Lib.hid hB1
   replace hB2:=Lib.hid hB2
   replace hB3:=Lib.hid hB3
   replace hpA:=Lib.hid hpA
   replace hpBB:=Lib.hid hpBB
   replace nB1B:=Lib.hid nB1B
   replace nB2B:=Lib.hid nB2B
   replace nB3B:=Lib.hid nB3B
   replace nA1:=Lib.hid nA1
   replace nA2:=Lib.hid nA2
   replace nA3:=Lib.hid nA3
   replace yA1:=Lib.hid yA1
   replace yA2:=Lib.hid yA2
   replace yA3:=Lib.hid yA3
   go_cut [15] from 135 (fun s15 wx => ∃ (g : Nat) (b1 : Option Addr) (b2 b3 : Nat) (b4 : Option Addr) (b5 b6 : Nat) (b7 : Option Addr) (b8 b9 : Nat),s15 = .pointer (some ⟨g,0,none⟩) ∧ Below WB.heap.size WB wx ∧ Cells4 wx g (.int .i64 pBB) (.slice b1 b2 b3) (.slice b4 b5 b6) (.slice b7 b8 b9) ∧ IntsAt wx (.slice b1 b2 b3) B1 ∧ IntsAt wx (.slice b4 b5 b6) B2 ∧ IntsAt wx (.slice b7 b8 b9) B3)
   case first =>
    refine wp_region_noPanic ?_
    refine wp_region_any (by kernel_rfl) ?_
    change wpAny _ _ _ _ _ _ _ (World.drew _)
    rw [hWB.out]
    refine wpAny_of_held (S:=fun w' => w'.cell? ⟨w.heap.size,0,none⟩ = some (.int .i64 K) ∧ w'.cell? ⟨w.heap.size,1,none⟩ = some (.int .i64 R) ∧ w'.cell? ⟨w.heap.size,2,none⟩ = some (.slice va vn vc) ∧ w'.cell? ⟨w3.heap.size,0,none⟩ = some (.int .i64 K) ∧ w'.cell? ⟨w3.heap.size,1,none⟩ = some (.int .i64 Q6) ∧ w'.cell? ⟨w3.heap.size,2,none⟩ = some (.slice a3 n3 m3) ∧ w'.cell? ⟨w.heap.size + 1,0,none⟩ = some (.int .i64 p) ∧ w'.cell? ⟨w.heap.size + 1,1,none⟩ = some (.slice la ln lc) ∧ w'.cell? ⟨w.heap.size + 1,2,none⟩ = some (.slice ca cn cc) ∧ w'.cell? ⟨w.heap.size + 1,3,none⟩ = some (.slice qa qn qc)) _ _ _ _ ?_
    have hS0:=kWB.out WB (Below.refl _ _)
    refine pqD 0 135 hS0 ?_
    refine pqD 1 136 hS0 ?_
    refine pqD 2 137 hS0 ?_
    refine wpAnyH_ready (rs:=[3,5]) (by kernel_rfl) (by simp) (AllReadyH.cons rfl (fun KK hK => ?_) (AllReadyH.cons rfl (fun KK hK => ?_) AllReadyH.nil))
    ·go_simp
     refine (im1.out WB (Below.refl _ _)).mono ?_
     rintro e V1 ⟨_,rfl,bb,x1,x2,x3,x4,x5,x6,x7,x8,x9,rfl,o1,o2,o3⟩
     have bV1:=Below.step (Below.refl _ _) bb
     replace o1:=o1.at
     replace o2:=o2.at
     replace o3:=o3.at
     have hS1:=kWB.out V1 bV1
     refine hK.out _ _ hS1 fun _ => ?_
     clear hK KK bb
     refine wpAnyH_ready (rs:=[4,5]) (by kernel_rfl) (by simp) (AllReadyH.cons rfl (fun KK hK => ?_) (AllReadyH.cons rfl (fun KK hK => ?_) AllReadyH.nil))
     ·go_simp
      refine (im2.out V1 bV1 x1 x2 x3 x4 x5 x6 x7 x8 x9 o1 o2 o3).mono ?_
      rintro e V2 ⟨_,rfl,bb,b1,b2,b3,b4,b5,b6,b7,b8,b9,rfl,u1,u2,u3⟩
      have bV2:=Below.step bV1 bb
      clear o1 o2 o3
      have hS2:=kWB.out V2 bV2
      refine hK.out _ _ hS2 fun _ => ?_
      clear hK KK bb
      refine wpAnyH_ready (rs:=[5]) (by kernel_rfl) (by simp) (AllReadyH.cons rfl (fun KK hK => ?_) AllReadyH.nil)
      go_simp
      have bb:=belowAlloc V2 (.cells #[.int .i64 0,.slice none 0 0,.slice none 0 0,.slice none 0 0] 45)
      have box:=Cells4.alloc V2 45 (.int .i64 0) (.slice none 0 0) (.slice none 0 0) (.slice none 0 0)
      have fz : ∀ i,(V2.alloc (.cells #[.int .i64 0,.slice none 0 0,.slice none 0 0,.slice none 0 0] 45)).frozen? ⟨V2.heap.size,i,none⟩ = false:=fun i => by simp [go_sem]
      have glt : V2.heap.size < (V2.alloc (.cells #[.int .i64 0,.slice none 0 0,.slice none 0 0,.slice none 0 0] 45)).heap.size:=by simp
      obtain ⟨gb,hgb⟩ : ∃ g,V2.heap.size = g:=⟨_,rfl⟩
      have gle : WB.heap.size ≤ gb:=by rw [← hgb]; exact Below.size bV2
      have off1 : ∀ i,i < B1.length → (valAt (.slice b1 b2 b3) i).block ≠ gb:=fun i hi e => absurd (u1.at.blk i hi) (by rw [e,← hgb]; exact Nat.lt_irrefl _)
      have off2 : ∀ i,i < B2.length → (valAt (.slice b4 b5 b6) i).block ≠ gb:=fun i hi e => absurd (u2.at.blk i hi) (by rw [e,← hgb]; exact Nat.lt_irrefl _)
      have off3 : ∀ i,i < B3.length → (valAt (.slice b7 b8 b9) i).block ≠ gb:=fun i hi e => absurd (u3.at.blk i hi) (by rw [e,← hgb]; exact Nat.lt_irrefl _)
      replace u1:=u1.below bb
      replace u2:=u2.below bb
      replace u3:=u3.below bb
      have bV3:=Below.step bV2 bb
      obtain ⟨V3,hV3⟩ : ∃ W' : World,V2.alloc (.cells #[.int .i64 0,.slice none 0 0,.slice none 0 0,.slice none 0 0] 45) = W':=⟨_,rfl⟩
      rw [hV3] at bb box fz glt bV3 u1 u2 u3
      rw [hgb] at box fz glt
      rw [hV3,hgb]
      replace hV3:=Lib.hid hV3
      replace hgb:=Lib.hid hgb
      have hS3:=kWB.out V3 bV3
      refine hK.out _ _ hS3 fun _ => ?_
      clear hK KK bb
      refine wpAnyH_ready (rs:=[6]) (by kernel_rfl) (by simp) (AllReadyH.cons rfl (fun KK hK => ?_) AllReadyH.nil)
      go_simp
      obtain ⟨t0,t1,t2,t3⟩:=box
      have f0:=fz 0
      have f1:=fz 1
      have f2:=fz 2
      have f3:=fz 3
      have box':=Cells4.set4 ⟨t0,t1,t2,t3⟩ (.int .i64 pBB) (.slice b1 b2 b3) (.slice b4 b5 b6) (.slice b7 b8 b9)
      have z1:=u1.at.set4 off1 (.int .i64 pBB) (.slice b1 b2 b3) (.slice b4 b5 b6) (.slice b7 b8 b9)
      have z2:=u2.at.set4 off2 (.int .i64 pBB) (.slice b1 b2 b3) (.slice b4 b5 b6) (.slice b7 b8 b9)
      have z3:=u3.at.set4 off3 (.int .i64 pBB) (.slice b1 b2 b3) (.slice b4 b5 b6) (.slice b7 b8 b9)
      have bV4:=Below.all4 (g:=gb) bV3 gle (.int .i64 pBB) (.slice b1 b2 b3) (.slice b4 b5 b6) (.slice b7 b8 b9)
      obtain ⟨V4,hV4⟩ : ∃ W' : World,(((V3.setCell ⟨gb,0,none⟩ (.int .i64 pBB)).setCell ⟨gb,1,none⟩ (.slice b1 b2 b3)).setCell ⟨gb,2,none⟩ (.slice b4 b5 b6)).setCell ⟨gb,3,none⟩ (.slice b7 b8 b9) = W':=⟨_,rfl⟩
      rw [hV4] at box' z1 z2 z3 bV4
      replace hV4:=Lib.hid hV4
      have hS4:=kWB.out V4 bV4
      skip
      try go_simp
      rw [hV4.out]
      refine hK.out _ _ hS4 fun _ => ?_
      clear hK KK t0 t1 t2 t3 f0 f1 f2 f3
      refine wpAnyH_done (by kernel_rfl) ?_ _
      refine NoPanic.normal ?_
      replace box':=Lib.hid box'
      replace z1:=Lib.hid z1
      replace z2:=Lib.hid z2
      replace z3:=Lib.hid z3
      replace u1:=Lib.hid u1
      replace u2:=Lib.hid u2
      replace u3:=Lib.hid u3
      replace off1:=Lib.hid off1
      replace off2:=Lib.hid off2
      replace off3:=Lib.hid off3
      replace fz:=Lib.hid fz
      go_wp2
      go_meet
      case rel => exact ⟨gb,b1,b2,b3,b4,b5,b6,b7,b8,b9,rfl,bV4,box'.out,z1.out,z2.out,z3.out⟩
     ·go_simp
      have bb:=belowAlloc V1 (.cells #[.int .i64 0,.slice none 0 0,.slice none 0 0,.slice none 0 0] 45)
      have box:=Cells4.alloc V1 45 (.int .i64 0) (.slice none 0 0) (.slice none 0 0) (.slice none 0 0)
      have fz : ∀ i,(V1.alloc (.cells #[.int .i64 0,.slice none 0 0,.slice none 0 0,.slice none 0 0] 45)).frozen? ⟨V1.heap.size,i,none⟩ = false:=fun i => by simp [go_sem]
      have glt : V1.heap.size < (V1.alloc (.cells #[.int .i64 0,.slice none 0 0,.slice none 0 0,.slice none 0 0] 45)).heap.size:=by simp
      obtain ⟨gb,hgb⟩ : ∃ g,V1.heap.size = g:=⟨_,rfl⟩
      have gle : WB.heap.size ≤ gb:=by rw [← hgb]; exact Below.size bV1
      replace o1:=o1.below bb
      replace o2:=o2.below bb
      replace o3:=o3.below bb
      have bV5:=Below.step bV1 bb
      obtain ⟨V5,hV5⟩ : ∃ W' : World,V1.alloc (.cells #[.int .i64 0,.slice none 0 0,.slice none 0 0,.slice none 0 0] 45) = W':=⟨_,rfl⟩
      rw [hV5] at bb box fz glt bV5 o1 o2 o3
      rw [hgb] at box fz glt
      rw [hV5,hgb]
      replace hV5:=Lib.hid hV5
      replace hgb:=Lib.hid hgb
      have hS5:=kWB.out V5 bV5
      refine hK.out _ _ hS5 fun _ => ?_
      clear hK KK bb
      refine wpAnyH_ready (rs:=[4]) (by kernel_rfl) (by simp) (AllReadyH.cons rfl (fun KK hK => ?_) AllReadyH.nil)
      go_simp
      refine (im2.out V5 bV5 x1 x2 x3 x4 x5 x6 x7 x8 x9 o1 o2 o3).mono ?_
      rintro e V6 ⟨_,rfl,bb,b1,b2,b3,b4,b5,b6,b7,b8,b9,rfl,u1,u2,u3⟩
      have bV6:=Below.step bV5 bb
      clear o1 o2 o3
      replace box:=box.below bb
      replace fz : ∀ i,V6.frozen? ⟨gb,i,none⟩ = false:=fun i => by rw [bb.frozen (p:=⟨gb,i,none⟩) glt]; exact fz i
      have off1 : ∀ i,i < B1.length → (valAt (.slice b1 b2 b3) i).block ≠ gb:=fun i hi e => absurd (u1.blkB i hi) (by rw [e]; exact Nat.not_le_of_lt glt)
      have off2 : ∀ i,i < B2.length → (valAt (.slice b4 b5 b6) i).block ≠ gb:=fun i hi e => absurd (u2.blkB i hi) (by rw [e]; exact Nat.not_le_of_lt glt)
      have off3 : ∀ i,i < B3.length → (valAt (.slice b7 b8 b9) i).block ≠ gb:=fun i hi e => absurd (u3.blkB i hi) (by rw [e]; exact Nat.not_le_of_lt glt)
      have glt' : gb < V6.heap.size:=Nat.lt_of_lt_of_le glt bb.size
      clear glt
      have glt:=glt'
      clear glt'
      have hS6:=kWB.out V6 bV6
      refine hK.out _ _ hS6 fun _ => ?_
      clear hK KK bb
      refine wpAnyH_ready (rs:=[6]) (by kernel_rfl) (by simp) (AllReadyH.cons rfl (fun KK hK => ?_) AllReadyH.nil)
      go_simp
      obtain ⟨t0,t1,t2,t3⟩:=box
      have f0:=fz 0
      have f1:=fz 1
      have f2:=fz 2
      have f3:=fz 3
      have box':=Cells4.set4 ⟨t0,t1,t2,t3⟩ (.int .i64 pBB) (.slice b1 b2 b3) (.slice b4 b5 b6) (.slice b7 b8 b9)
      have z1:=u1.at.set4 off1 (.int .i64 pBB) (.slice b1 b2 b3) (.slice b4 b5 b6) (.slice b7 b8 b9)
      have z2:=u2.at.set4 off2 (.int .i64 pBB) (.slice b1 b2 b3) (.slice b4 b5 b6) (.slice b7 b8 b9)
      have z3:=u3.at.set4 off3 (.int .i64 pBB) (.slice b1 b2 b3) (.slice b4 b5 b6) (.slice b7 b8 b9)
      have bV7:=Below.all4 (g:=gb) bV6 gle (.int .i64 pBB) (.slice b1 b2 b3) (.slice b4 b5 b6) (.slice b7 b8 b9)
      obtain ⟨V7,hV7⟩ : ∃ W' : World,(((V6.setCell ⟨gb,0,none⟩ (.int .i64 pBB)).setCell ⟨gb,1,none⟩ (.slice b1 b2 b3)).setCell ⟨gb,2,none⟩ (.slice b4 b5 b6)).setCell ⟨gb,3,none⟩ (.slice b7 b8 b9) = W':=⟨_,rfl⟩
      rw [hV7] at box' z1 z2 z3 bV7
      replace hV7:=Lib.hid hV7
      have hS7:=kWB.out V7 bV7
      skip
      try go_simp
      rw [hV7.out]
      refine hK.out _ _ hS7 fun _ => ?_
      clear hK KK t0 t1 t2 t3 f0 f1 f2 f3
      refine wpAnyH_done (by kernel_rfl) ?_ _
      refine NoPanic.normal ?_
      replace box':=Lib.hid box'
      replace z1:=Lib.hid z1
      replace z2:=Lib.hid z2
      replace z3:=Lib.hid z3
      replace u1:=Lib.hid u1
      replace u2:=Lib.hid u2
      replace u3:=Lib.hid u3
      replace off1:=Lib.hid off1
      replace off2:=Lib.hid off2
      replace off3:=Lib.hid off3
      replace fz:=Lib.hid fz
      go_wp2
      go_meet
      case rel => exact ⟨gb,b1,b2,b3,b4,b5,b6,b7,b8,b9,rfl,bV7,box'.out,z1.out,z2.out,z3.out⟩
    ·go_simp
     have bb:=belowAlloc WB (.cells #[.int .i64 0,.slice none 0 0,.slice none 0 0,.slice none 0 0] 45)
     have box:=Cells4.alloc WB 45 (.int .i64 0) (.slice none 0 0) (.slice none 0 0) (.slice none 0 0)
     have fz : ∀ i,(WB.alloc (.cells #[.int .i64 0,.slice none 0 0,.slice none 0 0,.slice none 0 0] 45)).frozen? ⟨WB.heap.size,i,none⟩ = false:=fun i => by simp [go_sem]
     have glt : WB.heap.size < (WB.alloc (.cells #[.int .i64 0,.slice none 0 0,.slice none 0 0,.slice none 0 0] 45)).heap.size:=by simp
     obtain ⟨gb,hgb⟩ : ∃ g,WB.heap.size = g:=⟨_,rfl⟩
     have gle : WB.heap.size ≤ gb:=by rw [← hgb]; exact Nat.le_refl _
     have bV8:=Below.step (Below.refl _ _) bb
     obtain ⟨V8,hV8⟩ : ∃ W' : World,WB.alloc (.cells #[.int .i64 0,.slice none 0 0,.slice none 0 0,.slice none 0 0] 45) = W':=⟨_,rfl⟩
     rw [hV8] at bb box fz glt bV8
     rw [hgb] at box fz glt
     rw [hV8,hgb]
     replace hV8:=Lib.hid hV8
     replace hgb:=Lib.hid hgb
     have hS8:=kWB.out V8 bV8
     refine hK.out _ _ hS8 fun _ => ?_
     clear hK KK bb
     refine wpAnyH_ready (rs:=[3]) (by kernel_rfl) (by simp) (AllReadyH.cons rfl (fun KK hK => ?_) AllReadyH.nil)
     go_simp
     refine (im1.out V8 bV8).mono ?_
     rintro e V9 ⟨_,rfl,bb,x1,x2,x3,x4,x5,x6,x7,x8,x9,rfl,o1,o2,o3⟩
     have bV9:=Below.step bV8 bb
     replace o1:=o1.at
     replace o2:=o2.at
     replace o3:=o3.at
     replace box:=box.below bb
     replace fz : ∀ i,V9.frozen? ⟨gb,i,none⟩ = false:=fun i => by rw [bb.frozen (p:=⟨gb,i,none⟩) glt]; exact fz i
     have glt' : gb < V9.heap.size:=Nat.lt_of_lt_of_le glt bb.size
     clear glt
     have glt:=glt'
     clear glt'
     have hS9:=kWB.out V9 bV9
     refine hK.out _ _ hS9 fun _ => ?_
     clear hK KK bb
     refine wpAnyH_ready (rs:=[4]) (by kernel_rfl) (by simp) (AllReadyH.cons rfl (fun KK hK => ?_) AllReadyH.nil)
     go_simp
     refine (im2.out V9 bV9 x1 x2 x3 x4 x5 x6 x7 x8 x9 o1 o2 o3).mono ?_
     rintro e V10 ⟨_,rfl,bb,b1,b2,b3,b4,b5,b6,b7,b8,b9,rfl,u1,u2,u3⟩
     have bV10:=Below.step bV9 bb
     clear o1 o2 o3
     replace box:=box.below bb
     replace fz : ∀ i,V10.frozen? ⟨gb,i,none⟩ = false:=fun i => by rw [bb.frozen (p:=⟨gb,i,none⟩) glt]; exact fz i
     have off1 : ∀ i,i < B1.length → (valAt (.slice b1 b2 b3) i).block ≠ gb:=fun i hi e => absurd (u1.blkB i hi) (by rw [e]; exact Nat.not_le_of_lt glt)
     have off2 : ∀ i,i < B2.length → (valAt (.slice b4 b5 b6) i).block ≠ gb:=fun i hi e => absurd (u2.blkB i hi) (by rw [e]; exact Nat.not_le_of_lt glt)
     have off3 : ∀ i,i < B3.length → (valAt (.slice b7 b8 b9) i).block ≠ gb:=fun i hi e => absurd (u3.blkB i hi) (by rw [e]; exact Nat.not_le_of_lt glt)
     have glt' : gb < V10.heap.size:=Nat.lt_of_lt_of_le glt bb.size
     clear glt
     have glt:=glt'
     clear glt'
     have hS10:=kWB.out V10 bV10
     refine hK.out _ _ hS10 fun _ => ?_
     clear hK KK bb
     refine wpAnyH_ready (rs:=[6]) (by kernel_rfl) (by simp) (AllReadyH.cons rfl (fun KK hK => ?_) AllReadyH.nil)
     go_simp
     obtain ⟨t0,t1,t2,t3⟩:=box
     have f0:=fz 0
     have f1:=fz 1
     have f2:=fz 2
     have f3:=fz 3
     have box':=Cells4.set4 ⟨t0,t1,t2,t3⟩ (.int .i64 pBB) (.slice b1 b2 b3) (.slice b4 b5 b6) (.slice b7 b8 b9)
     have z1:=u1.at.set4 off1 (.int .i64 pBB) (.slice b1 b2 b3) (.slice b4 b5 b6) (.slice b7 b8 b9)
     have z2:=u2.at.set4 off2 (.int .i64 pBB) (.slice b1 b2 b3) (.slice b4 b5 b6) (.slice b7 b8 b9)
     have z3:=u3.at.set4 off3 (.int .i64 pBB) (.slice b1 b2 b3) (.slice b4 b5 b6) (.slice b7 b8 b9)
     have bV11:=Below.all4 (g:=gb) bV10 gle (.int .i64 pBB) (.slice b1 b2 b3) (.slice b4 b5 b6) (.slice b7 b8 b9)
     obtain ⟨V11,hV11⟩ : ∃ W' : World,(((V10.setCell ⟨gb,0,none⟩ (.int .i64 pBB)).setCell ⟨gb,1,none⟩ (.slice b1 b2 b3)).setCell ⟨gb,2,none⟩ (.slice b4 b5 b6)).setCell ⟨gb,3,none⟩ (.slice b7 b8 b9) = W':=⟨_,rfl⟩
     rw [hV11] at box' z1 z2 z3 bV11
     replace hV11:=Lib.hid hV11
     have hS11:=kWB.out V11 bV11
     skip
     try go_simp
     rw [hV11.out]
     refine hK.out _ _ hS11 fun _ => ?_
     clear hK KK t0 t1 t2 t3 f0 f1 f2 f3
     refine wpAnyH_done (by kernel_rfl) ?_ _
     refine NoPanic.normal ?_
     replace box':=Lib.hid box'
     replace z1:=Lib.hid z1
     replace z2:=Lib.hid z2
     replace z3:=Lib.hid z3
     replace u1:=Lib.hid u1
     replace u2:=Lib.hid u2
     replace u3:=Lib.hid u3
     replace off1:=Lib.hid off1
     replace off2:=Lib.hid off2
     replace off3:=Lib.hid off3
     replace fz:=Lib.hid fz
     go_wp2
     go_meet
     case rel => exact ⟨gb,b1,b2,b3,b4,b5,b6,b7,b8,b9,rfl,bV11,box'.out,z1.out,z2.out,z3.out⟩
   case rest =>
    obtain ⟨gB,Ba1,Bn1,Bm1,Ba2,Bn2,Bm2,Ba3,Bn3,Bm3,rfl,bxB,boxB,iB1,iB2,iB3⟩:=hcut
    obtain ⟨wB,rfl⟩ : ∃ W : World,W = wc:=⟨_,rfl⟩
    have cB:=Below.step tWB bxB
    replace iB1:=Lib.hid iB1
    replace iB2:=Lib.hid iB2
    replace iB3:=Lib.hid iB3
    clear im1 im2 hA1 hA2 hA3 nA1 nA2 nA3 yA1 yA2 yA3 hpA kWB
    go_upto_region 18 with fail
    obtain ⟨WD,hWD⟩ : ∃ W : World,wB.drew = W:=⟨_,rfl⟩
    have tWD : Below wB.heap.size wB WD:=by rw [← hWD]; exact (Below.refl _ _).drew
    have c0_10:=Below.step c0_9 cB
    have c3_10:=Below.step c3_9 cB
    have kWD : ∀ w',Below WD.heap.size WD w' → w'.cell? ⟨w.heap.size,0,none⟩ = some (.int .i64 K) ∧ w'.cell? ⟨w.heap.size,1,none⟩ = some (.int .i64 R) ∧ w'.cell? ⟨w.heap.size,2,none⟩ = some (.slice va vn vc) ∧ w'.cell? ⟨w3.heap.size,0,none⟩ = some (.int .i64 K) ∧ w'.cell? ⟨w3.heap.size,1,none⟩ = some (.int .i64 Q6) ∧ w'.cell? ⟨w3.heap.size,2,none⟩ = some (.slice a3 n3 m3) ∧ w'.cell? ⟨w.heap.size + 1,0,none⟩ = some (.int .i64 p) ∧ w'.cell? ⟨w.heap.size + 1,1,none⟩ = some (.slice la ln lc) ∧ w'.cell? ⟨w.heap.size + 1,2,none⟩ = some (.slice ca cn cc) ∧ w'.cell? ⟨w.heap.size + 1,3,none⟩ = some (.slice qa qn qc):=fun w' hb => by
     obtain ⟨⟨x0,x1,x2⟩,-,-,-⟩:=((a.below c0_10).below tWD).below hb
     obtain ⟨⟨z0,z1,z2⟩,-,-,-⟩:=((s.below c3_10).below tWD).below hb
     obtain ⟨j0,j1,j2,j3⟩:=((y.below c0_10).below tWD).below hb
     exact ⟨x0,x1,x2,z0,z1,z2,j0,j1,j2,j3⟩
    have r1WD:=(h.out.below c0_10).below tWD
    have r2WD:=(ho.out.at.below c3_10).below tWD
    have r3WD:=(hL.out.below c0_10).below tWD
    have r4WD:=(hC.out.below c0_10).below tWD
    have r5WD:=(hQ.out.below c0_10).below tWD
    have im1:=fun (w' : World) (hb : Below WD.heap.size WD w') => ref_rimageO p K Q6 a3 n3 m3 S la ln lc ca cn cc qa qn qc L C Q w' (r2WD.below hb) hF.out.inv (r3WD.below hb) (r4WD.below hb) (r5WD.below hb) (by rw [hll.out]; omega) (by rw [hql.out]; omega) (by rw [hll.out]; omega) (by rw [hcl.out]; omega) (by rw [hql.out]; omega) (by omega) sL.out sC.out sQ.out (by rw [hll.out]; omega) (by rw [hcl.out]; omega) (by rw [hql.out]; omega) (by omega)
    have nA1 : (imL K Q6 S p L C Q).length = ll:=by rw [imL_len,hll.out]
    have nA2 : (imC K Q6 S p L C Q).length = cl + 2 * Q6:=by rw [imC_len,hcl.out]
    have nA3 : (imQ K Q6 S p L C Q).length = ql:=by rw [imQ_len,hql.out]
    have yA1 : Syms K (imL K Q6 S p L C Q):=imgP_syms hk1 kS.out
    have yA2 : Syms K (imC K Q6 S p L C Q):=imgP_syms hk1 kS.out
    have yA3 : Syms K (imQ K Q6 S p L C Q):=imgP_syms hk1 kS.out
    change ∀ (w' : World) (hb : Below WD.heap.size WD w'),Calls Tryz.prog 25 #[.agg #[.int .i64 K,.int .i64 Q6,.slice a3 n3 m3],.agg #[.int .i64 p,.slice la ln lc,.slice ca cn cc,.slice qa qn qc]] w' (Ret1 (fun x w'' => ∃ l1 l2 l3 c1 c2 c3 q1 q2 q3,x = .agg #[.int .i64 (p - Q6),.slice l1 l2 l3,.slice c1 c2 c3,.slice q1 q2 q3] ∧ OwnI w'.heap.size w'' (.slice l1 l2 l3) (imL K Q6 S p L C Q) ∧ OwnI w'.heap.size w'' (.slice c1 c2 c3) (imC K Q6 S p L C Q) ∧ OwnI w'.heap.size w'' (.slice q1 q2 q3) (imQ K Q6 S p L C Q)) w') at im1
    obtain ⟨A1,hA1⟩ : ∃ A,(imL K Q6 S p L C Q) = A:=⟨_,rfl⟩
    obtain ⟨A2,hA2⟩ : ∃ A,(imC K Q6 S p L C Q) = A:=⟨_,rfl⟩
    obtain ⟨A3,hA3⟩ : ∃ A,(imQ K Q6 S p L C Q) = A:=⟨_,rfl⟩
    rw [hA1] at nA1 yA1
    rw [hA2] at nA2 yA2
    rw [hA3] at nA3 yA3
    simp only [hA1,hA2,hA3] at im1
    have im2:=fun (w' : World) (hb : Below WD.heap.size WD w') (l1 : Option Addr) (l2 l3 : Nat) (c1 : Option Addr) (c2 c3 : Nat) (q1 : Option Addr) (q2 q3 : Nat) (i1 : IntsAt w' (.slice l1 l2 l3) A1) (i2 : IntsAt w' (.slice c1 c2 c3) A2) (i3 : IntsAt w' (.slice q1 q2 q3) A3) => ref_rimageO (p - Q6) K R va vn vc T l1 l2 l3 c1 c2 c3 q1 q2 q3 A1 A2 A3 w' (r1WD.below hb) hr.out i1 i2 i3 (by omega) (by omega) (by omega) (by omega) (by omega) (by omega) yA1 yA2 yA3 (by omega) (by omega) (by omega) (by omega)
    change ∀ (w' : World) (hb : Below WD.heap.size WD w') (l1 : Option Addr) (l2 l3 : Nat) (c1 : Option Addr) (c2 c3 : Nat) (q1 : Option Addr) (q2 q3 : Nat) (i1 : IntsAt w' (.slice l1 l2 l3) A1) (i2 : IntsAt w' (.slice c1 c2 c3) A2) (i3 : IntsAt w' (.slice q1 q2 q3) A3),Calls Tryz.prog 25 #[.agg #[.int .i64 K,.int .i64 R,.slice va vn vc],.agg #[.int .i64 (p - Q6),.slice l1 l2 l3,.slice c1 c2 c3,.slice q1 q2 q3]] w' (Ret1 (fun x w'' => ∃ l1 l2 l3 c1 c2 c3 q1 q2 q3,x = .agg #[.int .i64 (p - Q6 - R),.slice l1 l2 l3,.slice c1 c2 c3,.slice q1 q2 q3] ∧ OwnI w'.heap.size w'' (.slice l1 l2 l3) (imL K R T (p - Q6) A1 A2 A3) ∧ OwnI w'.heap.size w'' (.slice c1 c2 c3) (imC K R T (p - Q6) A1 A2 A3) ∧ OwnI w'.heap.size w'' (.slice q1 q2 q3) (imQ K R T (p - Q6) A1 A2 A3)) w') at im2
    obtain ⟨D1,hD1⟩ : ∃ A,(imL K R T (p - Q6) A1 A2 A3) = A:=⟨_,rfl⟩
    obtain ⟨D2,hD2⟩ : ∃ A,(imC K R T (p - Q6) A1 A2 A3) = A:=⟨_,rfl⟩
    obtain ⟨D3,hD3⟩ : ∃ A,(imQ K R T (p - Q6) A1 A2 A3) = A:=⟨_,rfl⟩
    simp only [hD1,hD2,hD3] at im2
    obtain ⟨pA,hpA⟩ : ∃ z,p - (Q6 : Int) = z:=⟨_,rfl⟩
    obtain ⟨pBD,hpBD⟩ : ∃ z,pA - (R : Int) = z:=⟨_,rfl⟩
    simp only [hpA] at im1
    simp only [hpA,hpBD] at im2
    have nB1D : D1.length = ll:=by rw [← hD1,imL_len]; exact nA1
    have nB2D : D2.length = cl + 2 * Q6 + 2 * R:=by rw [← hD2,imC_len,nA2]
    have nB3D : D3.length = ql:=by rw [← hD3,imQ_len]; exact nA3
    have backD : ∀ i,cellP pBD D1 D2 D3 i = cellP p L C Q i:=fun i => by
     have hb:=row_back (p:=p) hF.out.back (L:=L) (C:=C) (Q:=Q) (by rw [hll.out]; omega) (by rw [hql.out]; omega) sL.out sC.out sQ.out i
     rw [hA1,hA2,hA3,hD1,hD2,hD3,hpA,hpBD] at hb
     exact hb
    have pbD : -5000 ≤ pBD ∧ pBD ≤ 5000:=by omega
    replace kWD:=Lib.hid kWD
    replace hWD:=Lib.hid hWD
    replace im1:=Lib.hid im1
    replace im2:=Lib.hid im2
    replace backD:=Lib.hid backD
    replace hA1:=Lib.hid hA1
    replace hA2:=Lib.hid hA2
    replace hA3:=Lib.hid hA3
    replace hD1:=Lib.hid hD1
    replace hD2:=Lib.hid hD2
    replace hD3:=Lib.hid hD3
    replace hpA:=Lib.hid hpA
    replace hpBD:=Lib.hid hpBD
    replace nB1D:=Lib.hid nB1D
    replace nB2D:=Lib.hid nB2D
    replace nB3D:=Lib.hid nB3D
    replace nA1:=Lib.hid nA1
    replace nA2:=Lib.hid nA2
    replace nA3:=Lib.hid nA3
    replace yA1:=Lib.hid yA1
    replace yA2:=Lib.hid yA2
    replace yA3:=Lib.hid yA3
    go_cut [16] from 140 (fun s16 wx => ∃ (g : Nat) (b1 : Option Addr) (b2 b3 : Nat) (b4 : Option Addr) (b5 b6 : Nat) (b7 : Option Addr) (b8 b9 : Nat),s16 = .pointer (some ⟨g,0,none⟩) ∧ Below WD.heap.size WD wx ∧ Cells4 wx g (.int .i64 pBD) (.slice b1 b2 b3) (.slice b4 b5 b6) (.slice b7 b8 b9) ∧ IntsAt wx (.slice b1 b2 b3) D1 ∧ IntsAt wx (.slice b4 b5 b6) D2 ∧ IntsAt wx (.slice b7 b8 b9) D3)
    case first =>
     refine wp_region_noPanic ?_
     refine wp_region_any (by kernel_rfl) ?_
     change wpAny _ _ _ _ _ _ _ (World.drew _)
     rw [hWD.out]
     refine wpAny_of_held (S:=fun w' => w'.cell? ⟨w.heap.size,0,none⟩ = some (.int .i64 K) ∧ w'.cell? ⟨w.heap.size,1,none⟩ = some (.int .i64 R) ∧ w'.cell? ⟨w.heap.size,2,none⟩ = some (.slice va vn vc) ∧ w'.cell? ⟨w3.heap.size,0,none⟩ = some (.int .i64 K) ∧ w'.cell? ⟨w3.heap.size,1,none⟩ = some (.int .i64 Q6) ∧ w'.cell? ⟨w3.heap.size,2,none⟩ = some (.slice a3 n3 m3) ∧ w'.cell? ⟨w.heap.size + 1,0,none⟩ = some (.int .i64 p) ∧ w'.cell? ⟨w.heap.size + 1,1,none⟩ = some (.slice la ln lc) ∧ w'.cell? ⟨w.heap.size + 1,2,none⟩ = some (.slice ca cn cc) ∧ w'.cell? ⟨w.heap.size + 1,3,none⟩ = some (.slice qa qn qc)) _ _ _ _ ?_
     have hS0:=kWD.out WD (Below.refl _ _)
     refine pqD 0 140 hS0 ?_
     refine pqD 1 141 hS0 ?_
     refine pqD 2 142 hS0 ?_
     refine wpAnyH_ready (rs:=[3,5]) (by kernel_rfl) (by simp) (AllReadyH.cons rfl (fun KK hK => ?_) (AllReadyH.cons rfl (fun KK hK => ?_) AllReadyH.nil))
     ·go_simp
      refine (im1.out WD (Below.refl _ _)).mono ?_
      rintro e V1 ⟨_,rfl,bb,x1,x2,x3,x4,x5,x6,x7,x8,x9,rfl,o1,o2,o3⟩
      have bV1:=Below.step (Below.refl _ _) bb
      replace o1:=o1.at
      replace o2:=o2.at
      replace o3:=o3.at
      have hS1:=kWD.out V1 bV1
      refine hK.out _ _ hS1 fun _ => ?_
      clear hK KK bb
      refine wpAnyH_ready (rs:=[4,5]) (by kernel_rfl) (by simp) (AllReadyH.cons rfl (fun KK hK => ?_) (AllReadyH.cons rfl (fun KK hK => ?_) AllReadyH.nil))
      ·go_simp
       refine (im2.out V1 bV1 x1 x2 x3 x4 x5 x6 x7 x8 x9 o1 o2 o3).mono ?_
       rintro e V2 ⟨_,rfl,bb,b1,b2,b3,b4,b5,b6,b7,b8,b9,rfl,u1,u2,u3⟩
       have bV2:=Below.step bV1 bb
       clear o1 o2 o3
       have hS2:=kWD.out V2 bV2
       refine hK.out _ _ hS2 fun _ => ?_
       clear hK KK bb
       refine wpAnyH_ready (rs:=[5]) (by kernel_rfl) (by simp) (AllReadyH.cons rfl (fun KK hK => ?_) AllReadyH.nil)
       go_simp
       have bb:=belowAlloc V2 (.cells #[.int .i64 0,.slice none 0 0,.slice none 0 0,.slice none 0 0] 45)
       have box:=Cells4.alloc V2 45 (.int .i64 0) (.slice none 0 0) (.slice none 0 0) (.slice none 0 0)
       have fz : ∀ i,(V2.alloc (.cells #[.int .i64 0,.slice none 0 0,.slice none 0 0,.slice none 0 0] 45)).frozen? ⟨V2.heap.size,i,none⟩ = false:=fun i => by simp [go_sem]
       have glt : V2.heap.size < (V2.alloc (.cells #[.int .i64 0,.slice none 0 0,.slice none 0 0,.slice none 0 0] 45)).heap.size:=by simp
       obtain ⟨gb,hgb⟩ : ∃ g,V2.heap.size = g:=⟨_,rfl⟩
       have gle : WD.heap.size ≤ gb:=by rw [← hgb]; exact Below.size bV2
       have off1 : ∀ i,i < D1.length → (valAt (.slice b1 b2 b3) i).block ≠ gb:=fun i hi e => absurd (u1.at.blk i hi) (by rw [e,← hgb]; exact Nat.lt_irrefl _)
       have off2 : ∀ i,i < D2.length → (valAt (.slice b4 b5 b6) i).block ≠ gb:=fun i hi e => absurd (u2.at.blk i hi) (by rw [e,← hgb]; exact Nat.lt_irrefl _)
       have off3 : ∀ i,i < D3.length → (valAt (.slice b7 b8 b9) i).block ≠ gb:=fun i hi e => absurd (u3.at.blk i hi) (by rw [e,← hgb]; exact Nat.lt_irrefl _)
       replace u1:=u1.below bb
       replace u2:=u2.below bb
       replace u3:=u3.below bb
       have bV3:=Below.step bV2 bb
       obtain ⟨V3,hV3⟩ : ∃ W' : World,V2.alloc (.cells #[.int .i64 0,.slice none 0 0,.slice none 0 0,.slice none 0 0] 45) = W':=⟨_,rfl⟩
       rw [hV3] at bb box fz glt bV3 u1 u2 u3
       rw [hgb] at box fz glt
       rw [hV3,hgb]
       replace hV3:=Lib.hid hV3
       replace hgb:=Lib.hid hgb
       have hS3:=kWD.out V3 bV3
       refine hK.out _ _ hS3 fun _ => ?_
       clear hK KK bb
       refine wpAnyH_ready (rs:=[6]) (by kernel_rfl) (by simp) (AllReadyH.cons rfl (fun KK hK => ?_) AllReadyH.nil)
       go_simp
       obtain ⟨t0,t1,t2,t3⟩:=box
       have f0:=fz 0
       have f1:=fz 1
       have f2:=fz 2
       have f3:=fz 3
       have box':=Cells4.set4 ⟨t0,t1,t2,t3⟩ (.int .i64 pBD) (.slice b1 b2 b3) (.slice b4 b5 b6) (.slice b7 b8 b9)
       have z1:=u1.at.set4 off1 (.int .i64 pBD) (.slice b1 b2 b3) (.slice b4 b5 b6) (.slice b7 b8 b9)
       have z2:=u2.at.set4 off2 (.int .i64 pBD) (.slice b1 b2 b3) (.slice b4 b5 b6) (.slice b7 b8 b9)
       have z3:=u3.at.set4 off3 (.int .i64 pBD) (.slice b1 b2 b3) (.slice b4 b5 b6) (.slice b7 b8 b9)
       have bV4:=Below.all4 (g:=gb) bV3 gle (.int .i64 pBD) (.slice b1 b2 b3) (.slice b4 b5 b6) (.slice b7 b8 b9)
       obtain ⟨V4,hV4⟩ : ∃ W' : World,(((V3.setCell ⟨gb,0,none⟩ (.int .i64 pBD)).setCell ⟨gb,1,none⟩ (.slice b1 b2 b3)).setCell ⟨gb,2,none⟩ (.slice b4 b5 b6)).setCell ⟨gb,3,none⟩ (.slice b7 b8 b9) = W':=⟨_,rfl⟩
       rw [hV4] at box' z1 z2 z3 bV4
       replace hV4:=Lib.hid hV4
       have hS4:=kWD.out V4 bV4
       skip
       try go_simp
       rw [hV4.out]
       refine hK.out _ _ hS4 fun _ => ?_
       clear hK KK t0 t1 t2 t3 f0 f1 f2 f3
       refine wpAnyH_done (by kernel_rfl) ?_ _
       refine NoPanic.normal ?_
       replace box':=Lib.hid box'
       replace z1:=Lib.hid z1
       replace z2:=Lib.hid z2
       replace z3:=Lib.hid z3
       replace u1:=Lib.hid u1
       replace u2:=Lib.hid u2
       replace u3:=Lib.hid u3
       replace off1:=Lib.hid off1
       replace off2:=Lib.hid off2
       replace off3:=Lib.hid off3
       replace fz:=Lib.hid fz
       go_wp2
       go_meet
       case rel => exact ⟨gb,b1,b2,b3,b4,b5,b6,b7,b8,b9,rfl,bV4,box'.out,z1.out,z2.out,z3.out⟩
      ·go_simp
       have bb:=belowAlloc V1 (.cells #[.int .i64 0,.slice none 0 0,.slice none 0 0,.slice none 0 0] 45)
       have box:=Cells4.alloc V1 45 (.int .i64 0) (.slice none 0 0) (.slice none 0 0) (.slice none 0 0)
       have fz : ∀ i,(V1.alloc (.cells #[.int .i64 0,.slice none 0 0,.slice none 0 0,.slice none 0 0] 45)).frozen? ⟨V1.heap.size,i,none⟩ = false:=fun i => by simp [go_sem]
       have glt : V1.heap.size < (V1.alloc (.cells #[.int .i64 0,.slice none 0 0,.slice none 0 0,.slice none 0 0] 45)).heap.size:=by simp
       obtain ⟨gb,hgb⟩ : ∃ g,V1.heap.size = g:=⟨_,rfl⟩
       have gle : WD.heap.size ≤ gb:=by rw [← hgb]; exact Below.size bV1
       replace o1:=o1.below bb
       replace o2:=o2.below bb
       replace o3:=o3.below bb
       have bV5:=Below.step bV1 bb
       obtain ⟨V5,hV5⟩ : ∃ W' : World,V1.alloc (.cells #[.int .i64 0,.slice none 0 0,.slice none 0 0,.slice none 0 0] 45) = W':=⟨_,rfl⟩
       rw [hV5] at bb box fz glt bV5 o1 o2 o3
       rw [hgb] at box fz glt
       rw [hV5,hgb]
       replace hV5:=Lib.hid hV5
       replace hgb:=Lib.hid hgb
       have hS5:=kWD.out V5 bV5
       refine hK.out _ _ hS5 fun _ => ?_
       clear hK KK bb
       refine wpAnyH_ready (rs:=[4]) (by kernel_rfl) (by simp) (AllReadyH.cons rfl (fun KK hK => ?_) AllReadyH.nil)
       go_simp
       refine (im2.out V5 bV5 x1 x2 x3 x4 x5 x6 x7 x8 x9 o1 o2 o3).mono ?_
       rintro e V6 ⟨_,rfl,bb,b1,b2,b3,b4,b5,b6,b7,b8,b9,rfl,u1,u2,u3⟩
       have bV6:=Below.step bV5 bb
       clear o1 o2 o3
       replace box:=box.below bb
       replace fz : ∀ i,V6.frozen? ⟨gb,i,none⟩ = false:=fun i => by rw [bb.frozen (p:=⟨gb,i,none⟩) glt]; exact fz i
       have off1 : ∀ i,i < D1.length → (valAt (.slice b1 b2 b3) i).block ≠ gb:=fun i hi e => absurd (u1.blkB i hi) (by rw [e]; exact Nat.not_le_of_lt glt)
       have off2 : ∀ i,i < D2.length → (valAt (.slice b4 b5 b6) i).block ≠ gb:=fun i hi e => absurd (u2.blkB i hi) (by rw [e]; exact Nat.not_le_of_lt glt)
       have off3 : ∀ i,i < D3.length → (valAt (.slice b7 b8 b9) i).block ≠ gb:=fun i hi e => absurd (u3.blkB i hi) (by rw [e]; exact Nat.not_le_of_lt glt)
       have glt' : gb < V6.heap.size:=Nat.lt_of_lt_of_le glt bb.size
       clear glt
       have glt:=glt'
       clear glt'
       have hS6:=kWD.out V6 bV6
       refine hK.out _ _ hS6 fun _ => ?_
       clear hK KK bb
       refine wpAnyH_ready (rs:=[6]) (by kernel_rfl) (by simp) (AllReadyH.cons rfl (fun KK hK => ?_) AllReadyH.nil)
       go_simp
       obtain ⟨t0,t1,t2,t3⟩:=box
       have f0:=fz 0
       have f1:=fz 1
       have f2:=fz 2
       have f3:=fz 3
       have box':=Cells4.set4 ⟨t0,t1,t2,t3⟩ (.int .i64 pBD) (.slice b1 b2 b3) (.slice b4 b5 b6) (.slice b7 b8 b9)
       have z1:=u1.at.set4 off1 (.int .i64 pBD) (.slice b1 b2 b3) (.slice b4 b5 b6) (.slice b7 b8 b9)
       have z2:=u2.at.set4 off2 (.int .i64 pBD) (.slice b1 b2 b3) (.slice b4 b5 b6) (.slice b7 b8 b9)
       have z3:=u3.at.set4 off3 (.int .i64 pBD) (.slice b1 b2 b3) (.slice b4 b5 b6) (.slice b7 b8 b9)
       have bV7:=Below.all4 (g:=gb) bV6 gle (.int .i64 pBD) (.slice b1 b2 b3) (.slice b4 b5 b6) (.slice b7 b8 b9)
       obtain ⟨V7,hV7⟩ : ∃ W' : World,(((V6.setCell ⟨gb,0,none⟩ (.int .i64 pBD)).setCell ⟨gb,1,none⟩ (.slice b1 b2 b3)).setCell ⟨gb,2,none⟩ (.slice b4 b5 b6)).setCell ⟨gb,3,none⟩ (.slice b7 b8 b9) = W':=⟨_,rfl⟩
       rw [hV7] at box' z1 z2 z3 bV7
       replace hV7:=Lib.hid hV7
       have hS7:=kWD.out V7 bV7
       skip
       try go_simp
       rw [hV7.out]
       refine hK.out _ _ hS7 fun _ => ?_
       clear hK KK t0 t1 t2 t3 f0 f1 f2 f3
       refine wpAnyH_done (by kernel_rfl) ?_ _
       refine NoPanic.normal ?_
       replace box':=Lib.hid box'
       replace z1:=Lib.hid z1
       replace z2:=Lib.hid z2
       replace z3:=Lib.hid z3
       replace u1:=Lib.hid u1
       replace u2:=Lib.hid u2
       replace u3:=Lib.hid u3
       replace off1:=Lib.hid off1
       replace off2:=Lib.hid off2
       replace off3:=Lib.hid off3
       replace fz:=Lib.hid fz
       go_wp2
       go_meet
       case rel => exact ⟨gb,b1,b2,b3,b4,b5,b6,b7,b8,b9,rfl,bV7,box'.out,z1.out,z2.out,z3.out⟩
     ·go_simp
      have bb:=belowAlloc WD (.cells #[.int .i64 0,.slice none 0 0,.slice none 0 0,.slice none 0 0] 45)
      have box:=Cells4.alloc WD 45 (.int .i64 0) (.slice none 0 0) (.slice none 0 0) (.slice none 0 0)
      have fz : ∀ i,(WD.alloc (.cells #[.int .i64 0,.slice none 0 0,.slice none 0 0,.slice none 0 0] 45)).frozen? ⟨WD.heap.size,i,none⟩ = false:=fun i => by simp [go_sem]
      have glt : WD.heap.size < (WD.alloc (.cells #[.int .i64 0,.slice none 0 0,.slice none 0 0,.slice none 0 0] 45)).heap.size:=by simp
      obtain ⟨gb,hgb⟩ : ∃ g,WD.heap.size = g:=⟨_,rfl⟩
      have gle : WD.heap.size ≤ gb:=by rw [← hgb]; exact Nat.le_refl _
      have bV8:=Below.step (Below.refl _ _) bb
      obtain ⟨V8,hV8⟩ : ∃ W' : World,WD.alloc (.cells #[.int .i64 0,.slice none 0 0,.slice none 0 0,.slice none 0 0] 45) = W':=⟨_,rfl⟩
      rw [hV8] at bb box fz glt bV8
      rw [hgb] at box fz glt
      rw [hV8,hgb]
      replace hV8:=Lib.hid hV8
      replace hgb:=Lib.hid hgb
      have hS8:=kWD.out V8 bV8
      refine hK.out _ _ hS8 fun _ => ?_
      clear hK KK bb
      refine wpAnyH_ready (rs:=[3]) (by kernel_rfl) (by simp) (AllReadyH.cons rfl (fun KK hK => ?_) AllReadyH.nil)
      go_simp
      refine (im1.out V8 bV8).mono ?_
      rintro e V9 ⟨_,rfl,bb,x1,x2,x3,x4,x5,x6,x7,x8,x9,rfl,o1,o2,o3⟩
      have bV9:=Below.step bV8 bb
      replace o1:=o1.at
      replace o2:=o2.at
      replace o3:=o3.at
      replace box:=box.below bb
      replace fz : ∀ i,V9.frozen? ⟨gb,i,none⟩ = false:=fun i => by rw [bb.frozen (p:=⟨gb,i,none⟩) glt]; exact fz i
      have glt' : gb < V9.heap.size:=Nat.lt_of_lt_of_le glt bb.size
      clear glt
      have glt:=glt'
      clear glt'
      have hS9:=kWD.out V9 bV9
      refine hK.out _ _ hS9 fun _ => ?_
      clear hK KK bb
      refine wpAnyH_ready (rs:=[4]) (by kernel_rfl) (by simp) (AllReadyH.cons rfl (fun KK hK => ?_) AllReadyH.nil)
      go_simp
      refine (im2.out V9 bV9 x1 x2 x3 x4 x5 x6 x7 x8 x9 o1 o2 o3).mono ?_
      rintro e V10 ⟨_,rfl,bb,b1,b2,b3,b4,b5,b6,b7,b8,b9,rfl,u1,u2,u3⟩
      have bV10:=Below.step bV9 bb
      clear o1 o2 o3
      replace box:=box.below bb
      replace fz : ∀ i,V10.frozen? ⟨gb,i,none⟩ = false:=fun i => by rw [bb.frozen (p:=⟨gb,i,none⟩) glt]; exact fz i
      have off1 : ∀ i,i < D1.length → (valAt (.slice b1 b2 b3) i).block ≠ gb:=fun i hi e => absurd (u1.blkB i hi) (by rw [e]; exact Nat.not_le_of_lt glt)
      have off2 : ∀ i,i < D2.length → (valAt (.slice b4 b5 b6) i).block ≠ gb:=fun i hi e => absurd (u2.blkB i hi) (by rw [e]; exact Nat.not_le_of_lt glt)
      have off3 : ∀ i,i < D3.length → (valAt (.slice b7 b8 b9) i).block ≠ gb:=fun i hi e => absurd (u3.blkB i hi) (by rw [e]; exact Nat.not_le_of_lt glt)
      have glt' : gb < V10.heap.size:=Nat.lt_of_lt_of_le glt bb.size
      clear glt
      have glt:=glt'
      clear glt'
      have hS10:=kWD.out V10 bV10
      refine hK.out _ _ hS10 fun _ => ?_
      clear hK KK bb
      refine wpAnyH_ready (rs:=[6]) (by kernel_rfl) (by simp) (AllReadyH.cons rfl (fun KK hK => ?_) AllReadyH.nil)
      go_simp
      obtain ⟨t0,t1,t2,t3⟩:=box
      have f0:=fz 0
      have f1:=fz 1
      have f2:=fz 2
      have f3:=fz 3
      have box':=Cells4.set4 ⟨t0,t1,t2,t3⟩ (.int .i64 pBD) (.slice b1 b2 b3) (.slice b4 b5 b6) (.slice b7 b8 b9)
      have z1:=u1.at.set4 off1 (.int .i64 pBD) (.slice b1 b2 b3) (.slice b4 b5 b6) (.slice b7 b8 b9)
      have z2:=u2.at.set4 off2 (.int .i64 pBD) (.slice b1 b2 b3) (.slice b4 b5 b6) (.slice b7 b8 b9)
      have z3:=u3.at.set4 off3 (.int .i64 pBD) (.slice b1 b2 b3) (.slice b4 b5 b6) (.slice b7 b8 b9)
      have bV11:=Below.all4 (g:=gb) bV10 gle (.int .i64 pBD) (.slice b1 b2 b3) (.slice b4 b5 b6) (.slice b7 b8 b9)
      obtain ⟨V11,hV11⟩ : ∃ W' : World,(((V10.setCell ⟨gb,0,none⟩ (.int .i64 pBD)).setCell ⟨gb,1,none⟩ (.slice b1 b2 b3)).setCell ⟨gb,2,none⟩ (.slice b4 b5 b6)).setCell ⟨gb,3,none⟩ (.slice b7 b8 b9) = W':=⟨_,rfl⟩
      rw [hV11] at box' z1 z2 z3 bV11
      replace hV11:=Lib.hid hV11
      have hS11:=kWD.out V11 bV11
      skip
      try go_simp
      rw [hV11.out]
      refine hK.out _ _ hS11 fun _ => ?_
      clear hK KK t0 t1 t2 t3 f0 f1 f2 f3
      refine wpAnyH_done (by kernel_rfl) ?_ _
      refine NoPanic.normal ?_
      replace box':=Lib.hid box'
      replace z1:=Lib.hid z1
      replace z2:=Lib.hid z2
      replace z3:=Lib.hid z3
      replace u1:=Lib.hid u1
      replace u2:=Lib.hid u2
      replace u3:=Lib.hid u3
      replace off1:=Lib.hid off1
      replace off2:=Lib.hid off2
      replace off3:=Lib.hid off3
      replace fz:=Lib.hid fz
      go_wp2
      go_meet
      case rel => exact ⟨gb,b1,b2,b3,b4,b5,b6,b7,b8,b9,rfl,bV11,box'.out,z1.out,z2.out,z3.out⟩
    case rest =>
     obtain ⟨gD,Da1,Dn1,Dm1,Da2,Dn2,Dm2,Da3,Dn3,Dm3,rfl,bxD,boxD,iD1,iD2,iD3⟩:=hcut
     obtain ⟨wD,rfl⟩ : ∃ W : World,W = wc:=⟨_,rfl⟩
     have cD:=Below.step tWD bxD
     replace iD1:=Lib.hid iD1
     replace iD2:=Lib.hid iD2
     replace iD3:=Lib.hid iD3
     clear im1 im2 hA1 hA2 hA3 nA1 nA2 nA3 yA1 yA2 yA3 hpA kWD
     have c0_11:=Below.step c0_10 cD
     obtain ⟨j0,j1,j2,j3⟩:=(boxB.below cD)
     obtain ⟨v0,v1,v2,v3⟩:=id boxD
     obtain ⟨y_0,y_1,y_2,y_3⟩:=(y.below c0_11)
     have eqB:=ref_equal2 pBB p Ba1 Bn1 Bm1 Ba2 Bn2 Bm2 Ba3 Bn3 Bm3 B1 B2 B3 la ln lc ca cn cc qa qn qc L C Q _ (iB1.out.below cD) (iB2.out.below cD) (iB3.out.below cD) (hL.out.below c0_11) (hC.out.below c0_11) (hQ.out.below c0_11) (by rw [nB1B.out]; omega) (by rw [nB3B.out]; omega) (by rw [nB1B.out]; omega) (by rw [nB2B.out]; omega) (by rw [nB3B.out]; omega) (by omega) (by rw [hll.out]; omega) (by rw [hql.out]; omega) (by rw [hll.out]; omega) (by rw [hcl.out]; omega) (by rw [hql.out]; omega) (by omega)
     replace eqB:=Lib.hid eqB
     go_wp2_with fail
     refine (eqB.out).mono ?_
     rintro e w12 ⟨_,rfl,b12,bq,rfl,hbq⟩
     obtain rfl : bq = true:=hbq.2 fun i _ _ => backB.out i
     clear hbq j0 j1 j2 j3 v0 v1 v2 v3
     clear y_0 y_1 y_2 y_3
     obtain ⟨v0,v1,v2,v3⟩:=(boxD.below b12)
     have c0_12:=Below.step c0_11 b12
     obtain ⟨y_0,y_1,y_2,y_3⟩:=(y.below c0_12)
     have eqD:=ref_equal2 pBD p Da1 Dn1 Dm1 Da2 Dn2 Dm2 Da3 Dn3 Dm3 D1 D2 D3 la ln lc ca cn cc qa qn qc L C Q _ (iD1.out.below b12) (iD2.out.below b12) (iD3.out.below b12) (hL.out.below c0_12) (hC.out.below c0_12) (hQ.out.below c0_12) (by rw [nB1D.out]; omega) (by rw [nB3D.out]; omega) (by rw [nB1D.out]; omega) (by rw [nB2D.out]; omega) (by rw [nB3D.out]; omega) (by omega) (by rw [hll.out]; omega) (by rw [hql.out]; omega) (by rw [hll.out]; omega) (by rw [hcl.out]; omega) (by rw [hql.out]; omega) (by omega)
     replace eqD:=Lib.hid eqD
     go_wp2_with fail
     refine (eqD.out).mono ?_
     rintro e w13 ⟨_,rfl,b13,bq,rfl,hbq⟩
     obtain rfl : bq = true:=hbq.2 fun i _ _ => backD.out i
     clear hbq v0 v1 v2 v3
     clear y_0 y_1 y_2 y_3
     have c0_13:=Below.step c0_12 b13
     have bE:=Below.step b0 c0_13
     go_wp2
     go_ret
     exact ⟨_,rfl,bE,rfl⟩
theorem inverseBack_any (r : Nat → Addr) (k R : Int) (v : Value) (T : List Int) (p : Int) (lv cv qv : Value) (L C Q : List Int) (w : World) (hg : Glob r w) (hG : GlobE w) (h : IntsAt w v T) (hL : IntsAt w lv L) (hC : IntsAt w cv C) (hQ : IntsAt w qv Q) :
 Calls Tryz.prog 4 #[.agg #[.int .i64 k,.int .i64 R,v],.agg #[.int .i64 p,lv,cv,qv]] w (Ret1 (fun x _ => x = .bool true) w):=by
 obtain ⟨va,vn,vc,rfl⟩:=h.shape
 obtain ⟨la,ln,lc,rfl⟩:=hL.shape
 obtain ⟨ca,cn,cc,rfl⟩:=hC.shape
 obtain ⟨qa,qn,qc,rfl⟩:=hQ.shape
 cases hc : smallP k R T with
 | some t => exact inverseBack_bad r k R va vn vc T p la ln lc ca cn cc qa qn qc L C Q w hg hG h hL hC hQ t hc
 | none =>
  obtain ⟨K,R',rfl,rfl,hr,hl⟩:=smallP_of hc
  exact inverseBack_ok r K R' va vn vc T p la ln lc ca cn cc qa qn qc L C Q w hg hG h hL hC hQ hr hl
end Go.Proofs.YtjiadfblphdchaaGreatDoor
namespace Go.Proofs.YtjiadfblphdchaaGreatDoor
open Go.ChangeShapes Go.WideShapes Go.ChangeAt Go.RowKit Go.Joins
set_option maxRecDepth 100000
theorem weights_each4 {H : Type} {t0 t1 t2 t3 : TypeId} {y0 y1 y2 y3 : DataW H} {n : Nat} (h : n ∈ y1.weights Tryz.prog t1 ∨ n ∈ y2.weights Tryz.prog t2 ∨ n ∈ y3.weights Tryz.prog t3) : n ∈ DataW.weightsEach Tryz.prog [t0,t1,t2,t3] [y0,y1,y2,y3]:=by
 simp only [DataW.weightsEach,List.mem_append]
 rcases h with h | h | h
 ·exact .inr (.inl h)
 ·exact .inr (.inr (.inl h))
 ·exact .inr (.inr (.inr (.inl h)))
/-- A row that came in. -/
theorem open_rowV {H : Type} {enc : TypeId × Value → H} {W : World} {held : Bool} {v : Value} {d : DataW H} {p : List MemPlace} {b0 : Nat}
 (hv : Value.okWide Tryz.prog W .any b0 45 v) (h : DataW.Trod enc Tryz.prog W 0 (fun _ => true) held 45 v d p) (hw : ∀ n ∈ d.weights Tryz.prog 45,n ≤ reachBytes) :
 ∃ (k : Int) (u1 u2 u3 : Value) (x1 x2 x3 : List Int),v = .agg #[.int .i64 k,u1,u2,u3] ∧ IntsAt W u1 x1 ∧ IntsAt W u2 x2 ∧ IntsAt W u3 x3 ∧ I64 k:=by
 obtain ⟨v0,v1,v2,v3,y0,y1,y2,y3,n,rfl,rfl,rfl,h0,h1,h2,h3⟩:=open_agg4 Tryz.underlying45 (by kernel_rfl) (by kernel_rfl) hv h
 obtain ⟨a,e0,_,wa⟩:=DataW.trod_int uInt h0
 simp at e0
 subst e0
 have hh : ∀ n,(n ∈ y1.1.weights Tryz.prog 22 ∨ n ∈ y2.1.weights Tryz.prog 22 ∨ n ∈ y3.1.weights Tryz.prog 22) → n ≤ reachBytes:=fun n hn => hw n (by
  simp only [DataW.weights,Tryz.underlying45]
  exact weights_each4 (t0:=3) (t1:=22) (t2:=22) (t3:=22) hn)
 obtain ⟨x1,hx1,_,_⟩:=open_intsV h1 fun n hn => hh n (.inl hn)
 obtain ⟨x2,hx2,_,_⟩:=open_intsV h2 fun n hn => hh n (.inr (.inl hn))
 obtain ⟨x3,hx3,_,_⟩:=open_intsV h3 fun n hn => hh n (.inr (.inr hn))
 exact ⟨a,v1,v2,v3,x1,x2,x3,rfl,hx1,hx2,hx3,i64_of_wf wa⟩
end Go.Proofs.YtjiadfblphdchaaGreatDoor
namespace Go.Proofs.YtjiadfblphdchaaGreatDoor
open Go.ChangeShapes Go.WideShapes Go.ChangeAt Go.RowKit Go.Joins
namespace InverseBackP
set_option maxRecDepth 100000 in
theorem door_met (os : Os) (args : Array Value) : laidMetH Tryz.prog Rows.inverseBackRow.laid ((doorP os).forCall (fun _ _ => 0) ⟨#[],args,[]⟩).memory :=
 laidMetH_of_parts3 (fuel:=8) (laidMet_of_run' 8 (by kernel_rfl) (by kernel_rfl)) (by kernel_rfl) (by kernel_rfl)
set_option maxRecDepth 100000 in
theorem lifted (os : Os) (started : os.Started) (H : Type) (enc : TypeId × Value → H) :
 ReturnsInHanded {} Tryz.checked os 4 .any (fun w args => (Rows.inverseBackSpec.pre enc Tryz.prog Tryz.f4 [] false w args ∧ laidMetH Tryz.prog Rows.inverseBackRow.laid w) ∧ sizedMet enc Tryz.prog Tryz.f4 (OpenSpec.ofChange Rows.inverseBackSpec) false w args)
  (Rows.inverseBackSpec.post enc Tryz.prog Tryz.f4 false true false false):=by
 refine returnsInHanded_of_change_and (C:=Tryz.checked) (X:=fun w _ => laidMetH Tryz.prog Rows.inverseBackRow.laid w) (fun _ _ _ hh h => h.of_heap hh) own started (by kernel_rfl) Tryz.func4
  (ChangeSpec.witness_shaped (enc:=enc) (C:=Tryz.checked) (os:=os) (X:=fun w _ => laidMetH Tryz.prog Rows.inverseBackRow.laid w) false (doorP os) #[.agg #[.int .i64 0,.int .i64 0,.slice none 0 0],.agg #[.int .i64 0,.slice none 0 0,.slice none 0 0,.slice none 0 0]] 8 (doorP_os _) (World.shaped_of_RefB (by kernel_rfl) (by kernel_rfl)) (by kernel_rfl) (by kernel_rfl) (by kernel_rfl) (door_met os _)) ?_
 intro W base args ds gs before hval0 hW _ hsz hL _
 have hval : ∀ (j : Nat) t v,Tryz.f4.params[j]? = some t → args[j]? = some v → Value.okWide Tryz.prog W .any base t v:=hval0
 have hW':=hW
 obtain ⟨p,q,hA0,hV,rfl,hfz,hnd⟩:=hW
 have hA : DataW.TrodAll enc Tryz.prog W 0 (fun _ => true) true Tryz.f4.params.toList args.toList ds p:=hA0
 rw [Tryz.params4] at hA hval hsz
 obtain ⟨v0,vs0,d0,ds0,p0,q0,hargs,rfl,rfl,g0,t0⟩:=trodAll_cons hA
 obtain ⟨v1,vs1,d1,ds1,p1,q1,rfl,rfl,rfl,g1,t1⟩:=trodAll_cons t0
 obtain ⟨rfl,rfl,rfl⟩:=trodAll_nil t1
 obtain rfl : args = #[v0,v1]:=by cases args; simp_all
 obtain ⟨rfl,rfl⟩:=trodVars_none hV
 have kk0:=g0
 have lt0 : ∀ x ∈ p0,x.block < W.heap.size:=by obtain ⟨m,hm⟩:=kk0; exact DataW.trod_lt m _ _ _ hm
 obtain ⟨kr0,rr0,u0,x0,rfl,h0,l0,b0,bk0,br0⟩:=open_ruleV (hval 0 24 v0 rfl rfl) g0 (fun n hn => by
  have:=List.all_eq_true.1 hsz n (DataW.weights_mem_each (j:=0) (t:=24) rfl rfl n hn)
  simpa using this)
 have kk1:=g1
 have lt1 : ∀ x ∈ p1,x.block < W.heap.size:=by obtain ⟨m,hm⟩:=kk1; exact DataW.trod_lt m _ _ _ hm
 obtain ⟨kr1,ul1,uc1,uq1,xl1,xc1,xq1,rfl,hl1,hc1,hq1,bk1⟩:=open_rowV (hval 1 45 v1 rfl rfl) g1 (fun n hn => by
  have:=List.all_eq_true.1 hsz n (DataW.weights_mem_each (j:=1) (t:=45) rfl rfl n hn)
  simpa using this)
 obtain ⟨r,hg,hG⟩:=glob_of_laidP (W:=W) (by
  exact hL)
 clear hA0 hval0
 refine (inverseBack_any r kr0 rr0 u0 x0 kr1 ul1 uc1 uq1 xl1 xc1 xq1 W hg hG h0 hl1 hc1 hq1).mono fun e W' ⟨x,he,bel,hxx⟩ => ?_
 subst he; subst hxx
 exact ⟨_,rfl,_,_,_,[],_,[],hW',trodAll_mk1 (shut_bool Tryz.underlying4 _),(trodAll_cons_mk (Below.trod laidOut (by kernel_rfl) (of_decide_eq_true (by kernel_rfl)) kk0 bel lt0) (trodAll_cons_mk (Below.trod laidOut (by kernel_rfl) (of_decide_eq_true (by kernel_rfl)) kk1 bel lt1) trodAll_mk0)),rfl,bel.frame _,fun h => by cases h⟩
theorem and_t {a b : Bool} (h : a = true) (k : b = true) : (a && b) = true:=by rw [h,k]; rfl
theorem jf_wf : Rows.inverseBackRow.wf (OpenSpec.ofChange Rows.inverseBackSpec) = true:=by kernel_rfl
theorem jf_lo : laidOutB Tryz.prog = true:=by kernel_rfl
theorem jf_mr : mapsRowed Tryz.prog = true:=by kernel_rfl
theorem jf_nt : namedTie Tryz.prog Rows.inverseBackRow.named Rows.inverseBackSpec.vars = true:=by kernel_rfl
theorem jf_ip : (Rows.inverseBackRow.inPlace == Tryz.prog.inPlace 4) = true:=by kernel_rfl
theorem jf_uf : (Rows.inverseBackRow.unfollowed == Tryz.prog.unfollowed 4) = true:=by kernel_rfl
theorem jf_rc : (Rows.inverseBackRow.recurses == Tryz.prog.recurses 4) = true:=by kernel_rfl
theorem jf_nm : (Rows.inverseBackRow.named == Tryz.prog.varsNamed 4) = true:=by kernel_rfl
theorem jf_pk : (Rows.inverseBackRow.plainKeys == Tryz.prog.plainKeys) = true:=by kernel_rfl
theorem jf_sh : Tryz.prog.stopsHeard = true:=by kernel_rfl
theorem jf_me : Tryz.prog.mayEnter = true:=by kernel_rfl
theorem jf_lf : (Rows.inverseBackRow.lifted == Tryz.prog.liftsFinal) = true:=by kernel_rfl
theorem jf_mk : (Tryz.prog.make == some Rows.inverseBackRow.make) = true:=by kernel_rfl
theorem joined : joinedFacts Tryz.prog 4 Tryz.f4 Rows.inverseBackSpec Rows.inverseBackRow = true:=and_t (and_t (and_t (and_t (and_t (and_t (and_t (and_t (and_t (and_t (and_t (and_t (and_t (and_t (and_t (and_t (and_t (and_t (and_t (and_t (and_t (and_t (and_t (and_t (and_t (and_t (and_t (and_t (and_t (and_t (and_t jf_wf jf_lo) jf_mr) (by kernel_rfl)) jf_nt) (by kernel_rfl)) (by kernel_rfl)) (by kernel_rfl)) (by kernel_rfl)) jf_ip) jf_uf) jf_rc) jf_nm) (by kernel_rfl)) (by kernel_rfl)) (by kernel_rfl)) (by kernel_rfl)) (by kernel_rfl)) (by kernel_rfl)) (by kernel_rfl)) (by kernel_rfl)) (by kernel_rfl)) jf_pk) (by kernel_rfl)) jf_sh) jf_me) jf_lf) jf_mk) (by kernel_rfl)) (by kernel_rfl)) (by kernel_rfl)) (by kernel_rfl)
theorem fnamed : Tryz.prog.funcNamed Rows.inverseBackRow.func = some 4:=by kernel_rfl
theorem inst : Tryz.f4.isInstance Tryz.prog Rows.inverseBackRow.origin Rows.inverseBackRow.targs:=of_decide_eq_true (by kernel_rfl)
theorem wrapd : Tryz.f4.isWrapper Tryz.prog Rows.inverseBackRow.wrapper Rows.inverseBackRow.mainSum:=by unfold Func.isWrapper; first | (rw [if_pos (by decide +kernel)]; kernel_rfl) | (rw [if_neg (by decide +kernel)]; exact ⟨rfl,rfl⟩)
theorem over : Rows.InverseBackSaid :=
 OpenClaim.holds_of_wide 4 Tryz.f4 rfl rfl rfl rfl rfl rfl rfl ⟨rfl,rfl,rfl,rfl,rfl⟩ rfl rfl rfl rfl rfl fnamed Tryz.func4 joined
  inst wrapd
  (fun os started H enc _ => lifted os started H enc)
theorem cw : Rows.inverseBackRow.wfByText (OpenSpec.ofChange Rows.inverseBackSpec) = true:=by kernel_rfl
theorem cm : Tryz.prog.mainIs = some (Rows.inverseBackCard.stood.harness.1,Rows.inverseBackCard.stood.harness.2.toList):=by kernel_rfl
theorem cl : Rows.inverseBackCard.stood.looks = Tryz.prog.looks []:=by kernel_rfl
theorem cg : false = Rows.inverseBackRow.goesBy Tryz.prog:=by kernel_rfl
theorem cs : ([24,45].all fun u => !Tryz.prog.wantsStandIn u) = true:=by kernel_rfl
/-- The tied card. -/
theorem card_holds : Rows.InverseBackCardSaid :=
 Claim7.holds_tied_plain_at .later [] [.data,.handle,.sentinel,.sentinel,.sentinel,.sentinel,.sentinel,.sentinel,.sentinel,.sentinel,.sentinel,.sentinel,.sentinel,.sentinel,.pinned] true _ _
  over (fun _ h => by cases h) cw (fun _ h => by cases h) inverseBack_row_tie rfl ⟨rfl,rfl⟩ cm rfl
  (fun f fn hf hfn => by
    obtain rfl : f = 4:=Option.some.inj (fnamed.symm.trans hf) |>.symm
    obtain rfl : fn = Tryz.f4:=(Option.some.inj (Tryz.func4.symm.trans hfn)).symm
    exact ⟨cl,fun j t ht => by
     rw [Tryz.params4] at ht
     have hm : t ∈ [24,45]:=by simpa using Array.mem_of_getElem? ht
     exact (show Tryz.prog.wantsStandIn t = false by simpa using List.all_eq_true.1 cs t hm)⟩)
  cg
end InverseBackP
#print axioms InverseBackP.card_holds
end Go.Proofs.YtjiadfblphdchaaGreatDoor
