/-
  Texts that the proof leans on.
-/
import Derived.Test.YtkaoebokbfcmhaaGreatDoorMWf8
import Derived.Deep.DeepCutAuto
import Derived.Ground.SlgfProg
import Derived.Shelf.SlGeneric
import Derived.Shelf.SlicesE.DeleteFunc
import Derived.Lib.SliceRun
namespace Go.Proofs.YtkaoebokbfcmhaaGreatDoor
open Go.RowKit
set_option maxRecDepth 100000
set_option maxHeartbeats 8000000
theorem loop_goes {G:List (List Int)} (hok:GraphOk G) {c:Nat} (hc:c<G.length) (h:OnLoop (adjOf G) c):Goes (adjOf (wideG G c)) c G.length:=by
 have claim:∀ a z,Goes (adjOf G) a z→a<G.length→Goes (adjOf (wideG G c)) a G.length∨(Goes (adjOf (wideG G c)) a z∧(z=c→a=c)):=by
  intro a z hg ha
  induction hg with
  | refl=>exact .inr ⟨.refl _,id⟩
  | @step b t hb ht ih =>
   have hbn:=goes_lt hok hb ha
   rcases ih with ih | ⟨ih,_⟩
   ·exact .inl ih
   ·by_cases e:t=c
    ·subst e
     exact .inl (.step ih ((wide_adj hok t hbn _).2 (.inr ⟨rfl,ht⟩)))
    ·exact .inr ⟨.step ih ((wide_adj hok c hbn _).2 (.inl ⟨e,ht,hok.lt _ hbn _ ht⟩)),fun q=>absurd q e⟩
 obtain ⟨t,ht,hg⟩:=h
 have htn:=hok.lt _ hc _ ht
 by_cases e:t=c
 ·subst e
  exact .one ((wide_adj hok t hc _).2 (.inr ⟨rfl,ht⟩))
 ·have h1:Goes (adjOf (wideG G c)) c t:=.one ((wide_adj hok c hc _).2 (.inl ⟨e,ht,htn⟩))
  rcases claim t c hg htn with h2 | ⟨_,h2⟩
  ·exact h1.trans h2
  ·exact absurd (h2 rfl) e
def WitIs (G:List (List Int)) (v:Nat) (L C Q:List Nat):Prop :=
 ∃ c d u1 u2 I O,NearIs (adjOf (turnG G)) (OnLoop (adjOf G)) v c∧NearIs (adjOf G) (OnLoop (adjOf G)) v d∧c<G.length∧d<G.length∧IsFirst (adjOf (wideG G c)) c G.length u1∧IsFirst (adjOf (wideG G d)) d G.length u2∧IsFirst (adjOf G) c v I∧IsFirst (adjOf G) v d O∧L=u1.dropLast∧C=I++O.drop 1∧Q=u2.dropLast.drop 1++[d]
theorem first_bound {G:List (List Int)} (hok:GraphOk G) {x y:Nat} {u:List Nat} (h:IsFirst (adjOf G) x y u) (hx:x<G.length):u.length≤G.length∧∀ z∈u,z<G.length:=by
 have hlt:∀ z∈u,z<G.length:=by
  have hw:=h.way
  clear h
  induction hw with
  | one x=>intro z hz; rw [List.mem_singleton] at hz; subst hz; exact hx
  | @cons x t y w ht hw ih =>
   intro z hz
   rcases List.mem_cons.1 hz with rfl | hz
   ·exact hx
   ·exact ih (hok.lt _ hx _ ht) z hz
 exact ⟨nodup_len _ _ h.nodup hlt,hlt⟩
theorem wide_bound {G:List (List Int)} (hok:GraphOk G) {c:Nat} (hc:c<G.length) {u:List Nat} (h:IsFirst (adjOf (wideG G c)) c G.length u):2≤u.length∧u.length≤G.length+1∧∀ z∈u.dropLast,z<G.length:=by
 obtain ⟨h1,h2⟩:=first_bound (wideG_ok hok c) h (by rw [wideG_len]; omega)
 rw [wideG_len] at h1 h2
 have hnd:=h.nodup
 have he:=h.way.ends
 have hp:=h.way.pos
 refine ⟨?_,h1,fun z hz=>?_⟩
 ·apply Classical.byContradiction
  intro q
  have hl:u.length=1:=by omega
  obtain ⟨w',rfl⟩:=h.way.ne
  have:w'=[]:=List.length_eq_zero_iff.1 (by simpa using hl)
  subst this
  simp at he
  omega
 ·have h3:=h2 z (List.dropLast_subset _ hz)
  have:z≠G.length:=fun e=>by
   subst e
   rw [← he] at hnd
   have:=(List.nodup_append.1 hnd).2.2 _ hz _ (List.mem_singleton.2 rfl)
   exact this rfl
  omega
theorem castI_app (a b:List Nat):castI (a++b)=castI a++castI b:=by simp [castI]
theorem castI_drop (a:List Nat) (k:Nat):castI (a.drop k)=(castI a).drop k:=by simp [castI]
def WitPost (w:World) (k N:Nat) (G:List (List Int)) (v:Nat) (x y e:Value) (w':World):Prop :=
 e=.nilIface∧∃ L C Q aL aC aQ bL bC bQ,WitIs G v L C Q∧x=.agg #[.int .i64 0,aL,aC,aQ]∧y=.agg #[.int .i64 0,bL,bC,bQ]∧∃ f,Rows w.heap.size w' f ∧
  f (1,0)=some (rowI aL (sideA k N L))∧f (1,1)=some (rowI bL (sideB k N L))∧f (2,0)=some (rowI aC (sideA k N C))∧f (2,1)=some (rowI bC (sideB k N C))∧f (3,0)=some (rowI aQ (sideA k N Q))∧f (3,1)=some (rowI bQ (sideB k N Q))
theorem witness_ok (r:Nat→Addr) (k N:Nat) (na:Option Addr) (nc:Nat) (G:List (List Int)) (v:Nat) (w:World) (hg:Glob r w) (h:ListsAt w (.slice na G.length nc) G) (hsz:∀ k,k<G.length→(G.getD k []).length≤17592186044416)
 (hck:checkG G=none) (hok:GraphOk G) (hN:G.length=N*N) (hN1:1≤N) (hN2:N≤81) (hk:1≤k) (hv:v<G.length) (hlive:IsLive G.length (adjOf G) v) :
 Calls Tryz.prog 54 #[.int .i64 k,.slice na G.length nc,.int .i64 v] w (Ret3 (WitPost w k N G v) w):=by
 have hn:G.length≤8200:=by rw [hN]; have:=Nat.mul_le_mul hN2 hN2; omega
 have hM6:G.length≤6561:=by rw [hN]; exact Nat.mul_le_mul hN2 hN2
 obtain ⟨_,harr,_⟩:=checkG_none hck
 obtain ⟨f0,R0,i02,o02⟩:=(Rows.void w.heap.size w).box4 (0,2) (Nat.le_refl _) 42 (.int .i64 0) (.slice none 0 0) (.slice none 0 0) (.slice none 0 0)
 obtain ⟨f1,R1,i03,o03⟩:=R0.box4 (0,3) (by simp) 42 (.int .i64 0) (.slice none 0 0) (.slice none 0 0) (.slice none 0 0)
 have b0:Below w.heap.size w ((w.alloc (.cells #[.int .i64 0,.slice none 0 0,.slice none 0 0,.slice none 0 0] 42)).alloc (.cells #[.int .i64 0,.slice none 0 0,.slice none 0 0,.slice none 0 0] 42)):=Below.step (belowAlloc w _) (belowAlloc _ _)
 replace i02:=(o03 (0,2) (by decide)).trans i02
 rw [World.size_alloc] at i03
 clear o02 o03 R0
 have hp1:=fun (w':World) (hgl:Glob r w') (hT:ListsAt w' (.slice na G.length nc) G)=>loops14_any r na nc G w' hgl hT hsz hck hok hn
 have hp2:=fun (w':World) (hT:ListsAt w' (.slice na G.length nc) G)=>turned14_any na nc G w' hT hok hn harr
 have hp3:=fun (bv:Value) (on:Nat→Bool) (w':World) (hT:ListsAt w' (.slice na G.length nc) G) (hb:ValsAt w' bv (tabB G.length on))=>near_any na nc G bv on v w' hT hok hn hb hv
 have hp4:=fun (c:Nat) (w':World) (hgl:Glob r w') (hT:ListsAt w' (.slice na G.length nc) G)=>loopG_any r na nc G (c:Int) w' hgl hT hsz
 have hp5:=fun (a b:Nat) (w':World) (hgl:Glob r w') (hT:ListsAt w' (.slice na G.length nc) G)=>path_any r na nc G (a:Int) (b:Int) w' hgl hT hsz
 have lG:=h.len 3 w
 replace hp1:=Hd hp1
 replace hp2:=Hd hp2
 replace hp3:=Hd hp3
 replace hp4:=Hd hp4
 replace hp5:=Hd hp5
 replace hg:=Hd (hg.below b0)
 replace h:=Hd (h.below b0)
 replace hsz:=Hd hsz
 replace hck:=Hd hck
 replace hok:=Hd hok
 replace hlive:=Hd hlive
 replace R1:=Hd R1
 replace i02:=Hd i02
 replace i03:=Hd i03
 replace lG:=Hd lG
 replace harr:=Hd harr
 replace hN:=Hd hN
 go_enter Tryz.func54,Tryz.ntmps54
 go_wp2_with fail
 refine (hp1.out _ hg.out h.out).mono ?_
 rintro e w2 ⟨ov,y,rfl,b1,rfl,on,hon,hOn⟩
 obtain ⟨oa,on',oc,rfl⟩:=hon.shape
 have b2:=Below.step b0 b1
 replace hon:=Hd hon
 replace hOn:=Hd hOn
 have lG2:=h.out.len 3 w2
 go_wp2_with fail
 go_loop [11] (fun nv=>∃ k:Nat,k≤N∧nv=.int .i64 k) (fun nv=>N-(intOf nv).toNat)
 case atStart=>exact ⟨1,hN1,rfl⟩
 case round =>
  obtain ⟨k1,hk1,rfl⟩:=hrel
  obtain ⟨kk,hkk⟩:∃ z,k1*k1=z:=⟨_,rfl⟩
  have hkk2:(k1:Int)*(k1:Int)=(kk:Int):=by rw [← hkk]; simp
  have hkkM:kk≤G.length:=by rw [← hkk,hN.out]; exact Nat.mul_le_mul hk1 hk1
  by_cases hlt:kk<G.length
  ·have hkN:k1<N:=Nat.lt_of_le_of_ne hk1 (fun e=>by have:=hN.out; rw [← e,hkk] at this; omega)
   replace hkk:=Hd hkk
   go_wp2
   go_round
   case measure=>simp [intOf]; omega
   case rel=>exact ⟨k1+1,by omega,by go_num⟩
  ·have hkN:k1=N:=by
    apply Classical.byContradiction
    intro e
    have h2:k1*k1<N*N:=Nat.mul_lt_mul_of_lt_of_lt (by omega) (by omega)
    rw [hkk,← hN.out] at h2
    omega
   subst hkN
   replace hkk:=Hd hkk
   clear hk1
   obtain ⟨⟨ua,ha1,ha2,ha3⟩,⟨ub,hb1,hb2,hb3⟩⟩:=hlive.out
   go_wp2_with fail
   refine (hp2.out _ (h.out.below b1)).mono ?_
   rintro e w3 ⟨tv,rfl,b3,hT,hTL⟩
   have hl3:=hT.1
   obtain ⟨ta,tc,rfl⟩:=hTL.shape
   have hval3:ValsAt w3 (.slice oa on' oc) (tabB (turnG G).length on):=by rw [hl3]; exact hon.out.at.below b3
   have hnear:=near_any ta tc (turnG G) (.slice oa on' oc) on v w3 hTL (turned_ok hT) (by omega) hval3 (by omega) ⟨ua,(hOn.out ua ha1).2 ha2,goes_turned hT hok.out ha3 ha1⟩ (OnLoop (adjOf G)) (fun x hx=>hOn.out x (by omega))
   rw [hl3] at hnear
   rw [hl3]
   replace hnear:=Hd hnear
   replace hl3:=Hd hl3
   clear hTL hval3
   replace hT:=Hd hT
   go_wp2_with fail
   refine hnear.out.mono ?_
   rintro e w4 ⟨cv,rfl,b4,c,rfl,hcn,hcon,hcg,hcN⟩
   clear hnear
   have b24:=Below.step b1 (Below.step b3 b4)
   replace hcg:=turned_goes hT.out hok.out hcg hv
   have hnear:=hp3.out (.slice oa on' oc) on w4 (h.out.below b24) (hon.out.at.below (Below.step b3 b4)) ⟨ub,(hOn.out ub hb1).2 hb2,hb3⟩ (OnLoop (adjOf G)) hOn.out
   replace hnear:=Hd hnear
   replace hcN:=Hd hcN
   replace hcg:=Hd hcg
   have hcon2:=(hOn.out c hcn).1 hcon
   replace hcon:=Hd hcon
   replace hcon2:=Hd hcon2
   go_wp2_with fail
   refine hnear.out.mono ?_
   rintro e w5 ⟨dv,rfl,b5,d,rfl,hdn,hdon,hdg,hdN⟩
   clear hnear hb1 hb2 hb3 ha1 ha2 ha3
   have b25:=Below.step b24 b5
   have hdon2:=(hOn.out d hdn).1 hdon
   replace hdon:=Hd hdon
   replace hdon2:=Hd hdon2
   replace hdN:=Hd hdN
   replace hdg:=Hd hdg
   go_wp2_with fail
   refine (hp4.out c w5 (hg.out.below b25) (h.out.below b25)).mono ?_
   rintro e w6 ⟨lv,y,rfl,b6,hE,hW,-⟩
   rw [loopE_ok hck.out hcn] at hE
   obtain rfl:=hE.none_eq
   clear hE
   have hW':=hW (loopE_ok hck.out hcn)
   rw [Int.toNat_natCast] at hW'
   obtain ⟨u1,hu1,ho1⟩:∃ u,IsFirst (adjOf (wideG G c)) c G.length u∧OwnI w5.heap.size w6 lv (castI u.dropLast):=hW'.elim id fun q=>absurd (loop_goes hok.out hcn hcon2.out) q.1
   clear hW hW'
   obtain ⟨l1,l2,l3⟩:=wide_bound hok.out hcn hu1
   have b26:=Below.step b25 b6
   obtain ⟨la,ln,lc,rfl⟩:=ho1.at.shape
   replace hu1:=Hd hu1
   replace ho1:=Hd ho1
   replace l3:=Hd l3
   go_wp2_with fail
   refine (hp4.out d w6 (hg.out.below b26) (h.out.below b26)).mono ?_
   rintro e w7 ⟨rv,y,rfl,b7,hE,hW,-⟩
   rw [loopE_ok hck.out hdn] at hE
   obtain rfl:=hE.none_eq
   clear hE
   have hW':=hW (loopE_ok hck.out hdn)
   rw [Int.toNat_natCast] at hW'
   obtain ⟨u2,hu2,ho2⟩:∃ u,IsFirst (adjOf (wideG G d)) d G.length u∧OwnI w6.heap.size w7 rv (castI u.dropLast):=hW'.elim id fun q=>absurd (loop_goes hok.out hdn hdon2.out) q.1
   clear hW hW'
   obtain ⟨m1,m2,m3⟩:=wide_bound hok.out hdn hu2
   have b27:=Below.step b26 b7
   have lr2:(castI u2.dropLast).length=u2.length-1:=by rw [castI_len,List.length_dropLast]
   obtain ⟨rg,rc,hrv,_⟩:∃ g cap,rv=.slice (some ⟨g,0,none⟩) (castI u2.dropLast).length cap∧w6.heap.size≤g:=Row.own.shape (r:=rowI rv (castI u2.dropLast)) ho2 (by show 0<(castI u2.dropLast).length; omega)
   subst hrv
   replace hu2:=Hd hu2
   replace ho2:=Hd ho2
   replace m3:=Hd m3
   replace lr2:=Hd lr2
   go_wp2_with fail
   refine (hp5.out c v w7 (hg.out.below b27) (h.out.below b27)).mono ?_
   rintro e w8 ⟨iv,y,rfl,b8,hE,hW,-⟩
   rw [pathE_ok hck.out hcn hv] at hE
   obtain rfl:=hE.none_eq
   clear hE
   have hW':=hW (pathE_ok hck.out hcn hv)
   rw [Int.toNat_natCast,Int.toNat_natCast] at hW'
   obtain ⟨I,hI,ho3⟩:∃ u,IsFirst (adjOf G) c v u∧OwnI w7.heap.size w8 iv (castI u):=hW'.elim id fun q=>absurd hcg.out q.1
   clear hW hW'
   obtain ⟨p1,p2⟩:=first_bound hok.out hI hcn
   have b28:=Below.step b27 b8
   obtain ⟨ia,in',ic,rfl⟩:=ho3.at.shape
   replace hI:=Hd hI
   replace ho3:=Hd ho3
   replace p2:=Hd p2
   go_wp2_with fail
   refine (hp5.out v d w8 (hg.out.below b28) (h.out.below b28)).mono ?_
   rintro e w9 ⟨ov,y,rfl,b9,hE,hW,-⟩
   rw [pathE_ok hck.out hv hdn] at hE
   obtain rfl:=hE.none_eq
   clear hE
   have hW':=hW (pathE_ok hck.out hv hdn)
   rw [Int.toNat_natCast,Int.toNat_natCast] at hW'
   obtain ⟨O,hO,ho4⟩:∃ u,IsFirst (adjOf G) v d u∧OwnI w8.heap.size w9 ov (castI u):=hW'.elim id fun q=>absurd hdg.out q.1
   clear hW hW'
   obtain ⟨q1,q2⟩:=first_bound hok.out hO hv
   have q3:=hO.way.pos
   have b29:=Below.step b28 b9
   replace hO:=Hd hO
   replace ho4:=Hd ho4
   replace q2:=Hd q2
   have hB9:w.heap.size≤w9.heap.size:=(Below.step b0 b29).size
   have ho2m:OwnI w.heap.size w9 (.slice (some ⟨rg,0,none⟩) (castI u2.dropLast).length rc) (castI u2.dropLast):=((ho2.out.below b8).below b9).mono (Below.step b0 b26).size
   have ho3m:OwnI w.heap.size w9 (.slice ia in' ic) (castI I):=(ho3.out.below b9).mono (Below.step b0 b27).size
   have ho1m:IntsAt w9 (.slice la ln lc) (castI u1.dropLast):=((ho1.out.at.below b7).below b8).below b9
   have ho4m:=ho4.out.at
   have n02:=i02.out
   have n03:=i03.out
   obtain ⟨fc,Rc,n42,oc'⟩:=(R1.out.below b26).addE (4,2) (r':=rowI (.slice (some ⟨rg,0,none⟩) (castI u2.dropLast).length rc) (castI u2.dropLast)) b7 (ho2.out.mono (Below.step b0 b26).size) (fun q hq=>(ho2.out.lt q hq).1)
   replace n02:=(oc' (0,2) (by decide)).trans n02
   replace n03:=(oc' (0,3) (by decide)).trans n03
   obtain ⟨fd,Rd,n40,od⟩:=Rc.addE (4,0) (r':=rowI (.slice ia in' ic) (castI I)) b8 (ho3.out.mono (Below.step b0 b27).size) (fun q hq=>(ho3.out.lt q hq).1)
   replace n02:=(od (0,2) (by decide)).trans n02
   replace n03:=(od (0,3) (by decide)).trans n03
   replace n42:=(od (4,2) (by decide)).trans n42
   obtain ⟨fe,Re,n41,oe⟩:=Rd.addE (4,1) (r':=rowI ov (castI O)) b9 (ho4.out.mono (Below.step b0 b28).size) (fun q hq=>(ho4.out.lt q hq).1)
   replace n02:=(oe (0,2) (by decide)).trans n02
   replace n03:=(oe (0,3) (by decide)).trans n03
   replace n42:=(oe (4,2) (by decide)).trans n42
   replace n40:=(oe (4,0) (by decide)).trans n40
   clear oc' od oe Rc Rd
   obtain ⟨fA,RA,n00,oA⟩:=Re.box4 (0,0) hB9 42 (.int .i64 0) (.slice none 0 0) (.slice none 0 0) (.slice none 0 0)
   replace n02:=(oA (0,2) (by decide)).trans n02
   replace n03:=(oA (0,3) (by decide)).trans n03
   replace n42:=(oA (4,2) (by decide)).trans n42
   replace n40:=(oA (4,0) (by decide)).trans n40
   replace n41:=(oA (4,1) (by decide)).trans n41
   obtain ⟨fB,RB,n01,oB⟩:=RA.box4 (0,1) (by simp; omega) 42 (.int .i64 0) (.slice none 0 0) (.slice none 0 0) (.slice none 0 0)
   replace n02:=(oB (0,2) (by decide)).trans n02
   replace n03:=(oB (0,3) (by decide)).trans n03
   replace n42:=(oB (4,2) (by decide)).trans n42
   replace n40:=(oB (4,0) (by decide)).trans n40
   replace n41:=(oB (4,1) (by decide)).trans n41
   replace n00:=(oB (0,0) (by decide)).trans n00
   rw [World.size_alloc] at n01
   clear oA oB RA
   have bAB:Below w9.heap.size w9 ((w9.alloc (.cells #[.int .i64 0,.slice none 0 0,.slice none 0 0,.slice none 0 0] 42)).alloc (.cells #[.int .i64 0,.slice none 0 0,.slice none 0 0,.slice none 0 0] 42)):=Below.step (belowAlloc w9 _) (belowAlloc _ _)
   obtain ⟨WB,hWB⟩:∃ WB:World,(w9.alloc (.cells #[.int .i64 0,.slice none 0 0,.slice none 0 0,.slice none 0 0] 42)).alloc (.cells #[.int .i64 0,.slice none 0 0,.slice none 0 0,.slice none 0 0] 42)=WB:=⟨_,rfl⟩
   rw [hWB] at RB bAB
   have e00:∀ (l:List Nat) (m:Nat),(∀ z∈l,z<m)→m≤6561→∀ z∈l,z≤1000000:=fun l m h1 h2 z hz=>by have:=h1 z hz; omega
   have hs1:=sides14_any k k1 (.slice la ln lc) u1.dropLast WB (ho1m.below bAB) hk hN1 (e00 _ _ l3.out hM6) (by rw [List.length_dropLast]; omega)
   have bB0:Below w.heap.size w WB:=Below.step b0 (Below.step b29 bAB)
   have hB10:w.heap.size≤WB.heap.size:=bB0.size
   clear ho1m ho2m ho3m ho4m
   replace hs1:=Hd hs1
   replace RB:=Hd RB
   replace hWB:=Hd hWB
   replace e00:=Hd e00
   replace n02:=Hd n02
   replace n03:=Hd n03
   replace n42:=Hd n42
   replace n40:=Hd n40
   replace n41:=Hd n41
   replace n00:=Hd n00
   replace n01:=Hd n01
   go_upto_region 13 with fail
   rw [hWB.out]
   go_wp2_with fail
   refine hs1.out.mono ?_
   rintro e w10 ⟨x1,y1,rfl,b10,oa1,ob1,hd1⟩
   replace n02:=n02.out
   replace n03:=n03.out
   replace n42:=n42.out
   replace n40:=n40.out
   replace n41:=n41.out
   replace n00:=n00.out
   replace n01:=n01.out
   obtain ⟨f10,R10,n10,n11,o10⟩:=RB.out.add2E (1,0) (1,1) (by decide) (r':=rowI x1 (sideA k k1 u1.dropLast)) (s':=rowI y1 (sideB k k1 u1.dropLast)) b10 (oa1.mono hB10) (fun q hq=>(oa1.lt q hq).1) (ob1.mono hB10) (fun q hq=>(ob1.lt q hq).1) hd1
   replace n02:=(o10 (0,2) (by decide) (by decide)).trans n02
   replace n03:=(o10 (0,3) (by decide) (by decide)).trans n03
   replace n42:=(o10 (4,2) (by decide) (by decide)).trans n42
   replace n40:=(o10 (4,0) (by decide) (by decide)).trans n40
   replace n41:=(o10 (4,1) (by decide) (by decide)).trans n41
   replace n00:=(o10 (0,0) (by decide) (by decide)).trans n00
   replace n01:=(o10 (0,1) (by decide) (by decide)).trans n01
   obtain ⟨a0,a1,a2,a3⟩:=R10.cells4 n00
   obtain ⟨d0,d1,d2,d3⟩:=R10.cells4 n01
   have fa:=R10.frz4 n00 1
   have fb:=R10.frz4 n01 1
   have la0:=(R10.low4 n00).1
   have lb0:=(R10.low4 n01).1
   obtain ⟨fx10,Rx10,m00,ox⟩:=R10.st4 n00 1 x1
   replace n02:=(ox (0,2) (by decide)).trans n02
   replace n03:=(ox (0,3) (by decide)).trans n03
   replace n42:=(ox (4,2) (by decide)).trans n42
   replace n40:=(ox (4,0) (by decide)).trans n40
   replace n41:=(ox (4,1) (by decide)).trans n41
   replace n01:=(ox (0,1) (by decide)).trans n01
   replace n10:=(ox (1,0) (by decide)).trans n10
   replace n11:=(ox (1,1) (by decide)).trans n11
   clear n00
   have n00:=m00
   obtain ⟨fy10,Ry10,m01,oy⟩:=Rx10.st4 n01 1 y1
   replace n02:=(oy (0,2) (by decide)).trans n02
   replace n03:=(oy (0,3) (by decide)).trans n03
   replace n42:=(oy (4,2) (by decide)).trans n42
   replace n40:=(oy (4,0) (by decide)).trans n40
   replace n41:=(oy (4,1) (by decide)).trans n41
   replace n00:=(oy (0,0) (by decide)).trans n00
   replace n10:=(oy (1,0) (by decide)).trans n10
   replace n11:=(oy (1,1) (by decide)).trans n11
   clear n01
   have n01:=m01
   simp only [List.set_cons_zero,List.set_cons_succ] at n00 n01
   have by10:Below w.heap.size w ((w10.setCell ⟨w9.heap.size,1,none⟩ x1).setCell ⟨w9.heap.size+1,1,none⟩ y1):=(((bB0.trans (b10.mono hB10)).setCell (show w.heap.size≤(⟨w9.heap.size,1,none⟩:Addr).block from la0) _)).setCell (show w.heap.size≤(⟨w9.heap.size+1,1,none⟩:Addr).block from lb0) _
   obtain ⟨x1a,x1b,x1c,hx1⟩:=oa1.at.shape
   obtain ⟨y1a,y1b,y1c,hy1⟩:=ob1.at.shape
   subst hx1; subst hy1
   clear oa1 ob1 hd1 R10 Rx10 o10 ox oy m00 m01 la0 lb0
   obtain ⟨V10,hV10⟩:∃ V:World,(w10.setCell ⟨w9.heap.size,1,none⟩ (.slice x1a x1b x1c)).setCell ⟨w9.heap.size+1,1,none⟩ (.slice y1a y1b y1c)=V:=⟨_,rfl⟩
   rw [hV10] at Ry10 by10
   replace Ry10:=Hd Ry10
   replace hV10:=Hd hV10
   replace n02:=Hd n02
   replace n03:=Hd n03
   replace n42:=Hd n42
   replace n40:=Hd n40
   replace n41:=Hd n41
   replace n00:=Hd n00
   replace n01:=Hd n01
   replace n10:=Hd n10
   replace n11:=Hd n11
   go_upto_region 14 with fail
   rw [hV10.out]
   clear a0 a1 a2 a3 d0 d1 d2 d3 fa fb
   have hB11:w.heap.size≤V10.heap.size:=by10.size
   clear hs1
   obtain ⟨tl,htl,hti⟩:=(Ry10.out.ownI n41.out).at.post 1 (by rw [castI_len]; omega)
   rw [← castI_drop] at hti
   have htl1:∀ w',(Instr.slice 22 ov (some (.int .i64 1)) none none).run Tryz.prog w'=.ok tl w':=htl
   clear htl
   have hio:=Ry10.out.ownI n40.out
   obtain ⟨ova,ovb,ovc,hov⟩:=(Ry10.out.ownI n41.out).at.shape
   subst hov
   obtain ⟨tla,tlb,tlc,htlv⟩:=hti.shape
   subst htlv
   replace hti:=Hd hti
   replace hio:=Hd hio
   go_wp2_with (at_builtin; refine wpl_append rfl _ _ rfl w.heap.size (.slice ia in' ic) (.slice tla tlb tlc) (castI I) (castI (O.drop 1)) hio.out hti.out rfl rfl (by rw [castI_len,castI_len,List.length_drop]; omega) hB11 ?_)
   intro cv' w11 hco b11 hcg' hcal
   replace n02:=n02.out
   replace n03:=n03.out
   replace n42:=n42.out
   replace n40:=n40.out
   replace n41:=n41.out
   replace n00:=n00.out
   replace n01:=n01.out
   replace n10:=n10.out
   replace n11:=n11.out
   have hcal2:(rowI cv' (castI (I++O.drop 1))).v.ownBlock=(rowI (.slice ia in' ic) (castI I)).v.ownBlock∨∃ k,(rowI cv' (castI (I++O.drop 1))).v.ownBlock=some k∧V10.heap.size≤k:=hcal
   replace hco:OwnI w.heap.size w11 cv' (castI (I++O.drop 1)):=by rw [castI_app,List.drop_one]; exact hco
   have R11:=Ry10.out.grown (r':=rowI cv' (castI (I++O.drop 1))) n40 hcg' hco hcal2
   have o11:∀ j,j≠(4,0)→upd fy10 (4,0) (some (rowI cv' (castI (I++O.drop 1)))) j=fy10 j:=fun j e=>upd_ne _ _ e
   clear n40
   replace n02:=(o11 (0,2) (by decide)).trans n02
   replace n03:=(o11 (0,3) (by decide)).trans n03
   replace n42:=(o11 (4,2) (by decide)).trans n42
   replace n41:=(o11 (4,1) (by decide)).trans n41
   replace n00:=(o11 (0,0) (by decide)).trans n00
   replace n01:=(o11 (0,1) (by decide)).trans n01
   replace n10:=(o11 (1,0) (by decide)).trans n10
   replace n11:=(o11 (1,1) (by decide)).trans n11
   generalize upd fy10 (4,0) (some (rowI cv' (castI (I++O.drop 1))))=f11 at *
   have bw11:Below w.heap.size w w11:=by10.trans b11
   have hB12:w.heap.size≤w11.heap.size:=bw11.size
   have hlowC:∀ z∈I++O.drop 1,z<G.length:=fun z hz=>by
    rcases List.mem_append.1 hz with hz | hz
    ·exact p2.out z hz
    ·exact q2.out z (List.mem_of_mem_drop hz)
   have hs2:=sides14_any k k1 cv' (I++O.drop 1) w11 hco.at hk hN1 (e00.out _ _ hlowC hM6) (by rw [List.length_append,List.length_drop]; omega)
   obtain ⟨cva,cvb,cvc,hcv⟩:=hco.at.shape
   subst hcv
   clear hcal hcal2 hcg' hco o11 hlowC htl1
   replace hs2:=Hd hs2
   replace R11:=Hd R11
   replace n02:=Hd n02
   replace n03:=Hd n03
   replace n42:=Hd n42
   replace n41:=Hd n41
   replace n00:=Hd n00
   replace n01:=Hd n01
   replace n10:=Hd n10
   replace n11:=Hd n11
   go_wp2_with fail
   refine hs2.out.mono ?_
   rintro e w12 ⟨x2,y2,rfl,b12,oa2,ob2,hd2⟩
   have bw12:=bw11
   replace n02:=n02.out
   replace n03:=n03.out
   replace n42:=n42.out
   replace n41:=n41.out
   replace n00:=n00.out
   replace n01:=n01.out
   replace n10:=n10.out
   replace n11:=n11.out
   obtain ⟨f12,R12,n20,n21,o12⟩:=R11.out.add2E (2,0) (2,1) (by decide) (r':=rowI x2 (sideA k k1 (I++O.drop 1))) (s':=rowI y2 (sideB k k1 (I++O.drop 1))) b12 (oa2.mono hB12) (fun q hq=>(oa2.lt q hq).1) (ob2.mono hB12) (fun q hq=>(ob2.lt q hq).1) hd2
   replace n02:=(o12 (0,2) (by decide) (by decide)).trans n02
   replace n03:=(o12 (0,3) (by decide) (by decide)).trans n03
   replace n42:=(o12 (4,2) (by decide) (by decide)).trans n42
   replace n41:=(o12 (4,1) (by decide) (by decide)).trans n41
   replace n00:=(o12 (0,0) (by decide) (by decide)).trans n00
   replace n01:=(o12 (0,1) (by decide) (by decide)).trans n01
   replace n10:=(o12 (1,0) (by decide) (by decide)).trans n10
   replace n11:=(o12 (1,1) (by decide) (by decide)).trans n11
   obtain ⟨a0,a1,a2,a3⟩:=R12.cells4 n00
   obtain ⟨d0,d1,d2,d3⟩:=R12.cells4 n01
   have fa:=R12.frz4 n00 2
   have fb:=R12.frz4 n01 2
   have la0:=(R12.low4 n00).1
   have lb0:=(R12.low4 n01).1
   obtain ⟨fx12,Rx12,m00,ox⟩:=R12.st4 n00 2 x2
   replace n02:=(ox (0,2) (by decide)).trans n02
   replace n03:=(ox (0,3) (by decide)).trans n03
   replace n42:=(ox (4,2) (by decide)).trans n42
   replace n41:=(ox (4,1) (by decide)).trans n41
   replace n01:=(ox (0,1) (by decide)).trans n01
   replace n10:=(ox (1,0) (by decide)).trans n10
   replace n11:=(ox (1,1) (by decide)).trans n11
   replace n20:=(ox (2,0) (by decide)).trans n20
   replace n21:=(ox (2,1) (by decide)).trans n21
   clear n00
   have n00:=m00
   obtain ⟨fy12,Ry12,m01,oy⟩:=Rx12.st4 n01 2 y2
   replace n02:=(oy (0,2) (by decide)).trans n02
   replace n03:=(oy (0,3) (by decide)).trans n03
   replace n42:=(oy (4,2) (by decide)).trans n42
   replace n41:=(oy (4,1) (by decide)).trans n41
   replace n00:=(oy (0,0) (by decide)).trans n00
   replace n10:=(oy (1,0) (by decide)).trans n10
   replace n11:=(oy (1,1) (by decide)).trans n11
   replace n20:=(oy (2,0) (by decide)).trans n20
   replace n21:=(oy (2,1) (by decide)).trans n21
   clear n01
   have n01:=m01
   simp only [List.set_cons_zero,List.set_cons_succ] at n00 n01
   have by12:Below w.heap.size w ((w12.setCell ⟨w9.heap.size,2,none⟩ x2).setCell ⟨w9.heap.size+1,2,none⟩ y2):=(((bw12.trans (b12.mono hB12)).setCell (show w.heap.size≤(⟨w9.heap.size,2,none⟩:Addr).block from la0) _)).setCell (show w.heap.size≤(⟨w9.heap.size+1,2,none⟩:Addr).block from lb0) _
   obtain ⟨x2a,x2b,x2c,hx2⟩:=oa2.at.shape
   obtain ⟨y2a,y2b,y2c,hy2⟩:=ob2.at.shape
   subst hx2; subst hy2
   clear oa2 ob2 hd2 R12 Rx12 o12 ox oy m00 m01 la0 lb0
   obtain ⟨V12,hV12⟩:∃ V:World,(w12.setCell ⟨w9.heap.size,2,none⟩ (.slice x2a x2b x2c)).setCell ⟨w9.heap.size+1,2,none⟩ (.slice y2a y2b y2c)=V:=⟨_,rfl⟩
   rw [hV12] at Ry12 by12
   replace Ry12:=Hd Ry12
   replace hV12:=Hd hV12
   replace n02:=Hd n02
   replace n03:=Hd n03
   replace n42:=Hd n42
   replace n41:=Hd n41
   replace n00:=Hd n00
   replace n01:=Hd n01
   replace n10:=Hd n10
   replace n11:=Hd n11
   replace n20:=Hd n20
   replace n21:=Hd n21
   go_upto_region 15 with fail
   rw [hV12.out]
   clear a0 a1 a2 a3 d0 d1 d2 d3 fa fb
   have hB13:w.heap.size≤V12.heap.size:=by12.size
   clear hs2
   have hri:=Ry12.out.ownI n42.out
   have bl:=belowAlloc V12 (.cells #[.int .i64 (d:Int)] 3)
   have hcl:(V12.alloc (.cells #[.int .i64 (d:Int)] 3)).cell? ⟨V12.heap.size,0,none⟩=some (.int .i64 d):=by simp [go_sem]
   obtain ⟨qv,w13,hqr,hqi,hqb,hqg⟩:=run_appTail w.heap.size 22 (V12.alloc (.cells #[.int .i64 (d:Int)] 3)) rg rc V12.heap.size (castI u2.dropLast) (d:Int) (hri.below bl) (by rw [lr2.out]; omega) hcl (by simp; omega) (by rw [lr2.out]; omega)
   have htl:=run_sliceTail rg (castI u2.dropLast).length rc (by rw [lr2.out]; omega)
   generalize sliced (some ⟨rg,0,none⟩) 1 (castI u2.dropLast).length rc 1=tq at *
   rw [← castI_drop,show [(d:Int)]=castI [d] from rfl,← castI_app] at hqi
   have bw13:Below w.heap.size w w13:=(by12.trans (bl.mono hB13)).trans hqb
   have hB14:w.heap.size≤w13.heap.size:=bw13.size
   replace n02:=n02.out
   replace n03:=n03.out
   replace n42:=n42.out
   replace n41:=n41.out
   replace n00:=n00.out
   replace n01:=n01.out
   replace n10:=n10.out
   replace n11:=n11.out
   replace n20:=n20.out
   replace n21:=n21.out
   obtain ⟨f13,R13,o13⟩:=(Ry12.out.below bl).lose n42 hqg
   clear n42 hqg
   replace n02:=(o13 (0,2) (by decide)).trans n02
   replace n03:=(o13 (0,3) (by decide)).trans n03
   replace n41:=(o13 (4,1) (by decide)).trans n41
   replace n00:=(o13 (0,0) (by decide)).trans n00
   replace n01:=(o13 (0,1) (by decide)).trans n01
   replace n10:=(o13 (1,0) (by decide)).trans n10
   replace n11:=(o13 (1,1) (by decide)).trans n11
   replace n20:=(o13 (2,0) (by decide)).trans n20
   replace n21:=(o13 (2,1) (by decide)).trans n21
   clear o13
   have hlowQ:∀ z∈u2.dropLast.drop 1++[d],z<G.length:=fun z hz=>by
    rcases List.mem_append.1 hz with hz | hz
    ·exact m3.out z (List.mem_of_mem_drop hz)
    ·rw [List.mem_singleton] at hz; subst hz; exact hdn
   have hs3:=sides14_any k k1 qv (u2.dropLast.drop 1++[d]) w13 hqi hk hN1 (e00.out _ _ hlowQ hM6) (by simp; omega)
   obtain ⟨qva,qvb,qvc,hqv⟩:=hqi.shape
   subst hqv
   clear hqi hlowQ hri hcl
   replace hs3:=Hd hs3
   replace R13:=Hd R13
   replace hqr:=Hd hqr
   replace htl:=Hd htl
   replace n02:=Hd n02
   replace n03:=Hd n03
   replace n41:=Hd n41
   replace n00:=Hd n00
   replace n01:=Hd n01
   replace n10:=Hd n10
   replace n11:=Hd n11
   replace n20:=Hd n20
   replace n21:=Hd n21
   have htl1:∀ w',(Instr.slice 22 (.slice (some ⟨rg,0,none⟩) (castI u2.dropLast).length rc) (some (.int .i64 1)) none none).run Tryz.prog w'=.ok tq w':=htl.out
   go_wp2_with (at_builtin; refine wpl_app_run rfl _ _ _ rfl _ _ rfl rfl hqr.out ?_)
   go_wp2_with fail
   refine hs3.out.mono ?_
   rintro e w14 ⟨x3,y3,rfl,b14,oa3,ob3,hd3⟩
   have bw14:=bw13
   replace n02:=n02.out
   replace n03:=n03.out
   replace n41:=n41.out
   replace n00:=n00.out
   replace n01:=n01.out
   replace n10:=n10.out
   replace n11:=n11.out
   replace n20:=n20.out
   replace n21:=n21.out
   obtain ⟨f14,R14,n30,n31,o14⟩:=R13.out.add2E (3,0) (3,1) (by decide) (r':=rowI x3 (sideA k k1 (u2.dropLast.drop 1++[d]))) (s':=rowI y3 (sideB k k1 (u2.dropLast.drop 1++[d]))) b14 (oa3.mono hB14) (fun q hq=>(oa3.lt q hq).1) (ob3.mono hB14) (fun q hq=>(ob3.lt q hq).1) hd3
   replace n02:=(o14 (0,2) (by decide) (by decide)).trans n02
   replace n03:=(o14 (0,3) (by decide) (by decide)).trans n03
   replace n41:=(o14 (4,1) (by decide) (by decide)).trans n41
   replace n00:=(o14 (0,0) (by decide) (by decide)).trans n00
   replace n01:=(o14 (0,1) (by decide) (by decide)).trans n01
   replace n10:=(o14 (1,0) (by decide) (by decide)).trans n10
   replace n11:=(o14 (1,1) (by decide) (by decide)).trans n11
   replace n20:=(o14 (2,0) (by decide) (by decide)).trans n20
   replace n21:=(o14 (2,1) (by decide) (by decide)).trans n21
   obtain ⟨a0,a1,a2,a3⟩:=R14.cells4 n00
   obtain ⟨d0,d1,d2,d3⟩:=R14.cells4 n01
   have fa:=R14.frz4 n00 3
   have fb:=R14.frz4 n01 3
   have la0:=(R14.low4 n00).1
   have lb0:=(R14.low4 n01).1
   obtain ⟨fx14,Rx14,m00,ox⟩:=R14.st4 n00 3 x3
   replace n02:=(ox (0,2) (by decide)).trans n02
   replace n03:=(ox (0,3) (by decide)).trans n03
   replace n41:=(ox (4,1) (by decide)).trans n41
   replace n01:=(ox (0,1) (by decide)).trans n01
   replace n10:=(ox (1,0) (by decide)).trans n10
   replace n11:=(ox (1,1) (by decide)).trans n11
   replace n20:=(ox (2,0) (by decide)).trans n20
   replace n21:=(ox (2,1) (by decide)).trans n21
   replace n30:=(ox (3,0) (by decide)).trans n30
   replace n31:=(ox (3,1) (by decide)).trans n31
   clear n00
   have n00:=m00
   obtain ⟨fy14,Ry14,m01,oy⟩:=Rx14.st4 n01 3 y3
   replace n02:=(oy (0,2) (by decide)).trans n02
   replace n03:=(oy (0,3) (by decide)).trans n03
   replace n41:=(oy (4,1) (by decide)).trans n41
   replace n00:=(oy (0,0) (by decide)).trans n00
   replace n10:=(oy (1,0) (by decide)).trans n10
   replace n11:=(oy (1,1) (by decide)).trans n11
   replace n20:=(oy (2,0) (by decide)).trans n20
   replace n21:=(oy (2,1) (by decide)).trans n21
   replace n30:=(oy (3,0) (by decide)).trans n30
   replace n31:=(oy (3,1) (by decide)).trans n31
   clear n01
   have n01:=m01
   simp only [List.set_cons_zero,List.set_cons_succ] at n00 n01
   have by14:Below w.heap.size w ((w14.setCell ⟨w9.heap.size,3,none⟩ x3).setCell ⟨w9.heap.size+1,3,none⟩ y3):=(((bw14.trans (b14.mono hB14)).setCell (show w.heap.size≤(⟨w9.heap.size,3,none⟩:Addr).block from la0) _)).setCell (show w.heap.size≤(⟨w9.heap.size+1,3,none⟩:Addr).block from lb0) _
   obtain ⟨x3a,x3b,x3c,hx3⟩:=oa3.at.shape
   obtain ⟨y3a,y3b,y3c,hy3⟩:=ob3.at.shape
   subst hx3; subst hy3
   clear oa3 ob3 hd3 R14 Rx14 o14 ox oy m00 m01 la0 lb0
   obtain ⟨V14,hV14⟩:∃ V:World,(w14.setCell ⟨w9.heap.size,3,none⟩ (.slice x3a x3b x3c)).setCell ⟨w9.heap.size+1,3,none⟩ (.slice y3a y3b y3c)=V:=⟨_,rfl⟩
   rw [hV14] at Ry14 by14
   replace Ry14:=Hd Ry14
   replace hV14:=Hd hV14
   replace n02:=Hd n02
   replace n03:=Hd n03
   replace n41:=Hd n41
   replace n00:=Hd n00
   replace n01:=Hd n01
   replace n10:=Hd n10
   replace n11:=Hd n11
   replace n20:=Hd n20
   replace n21:=Hd n21
   replace n30:=Hd n30
   replace n31:=Hd n31
   go_upto_region 16 with fail
   rw [hV14.out]
   clear a0 a1 a2 a3 d0 d1 d2 d3 fa fb
   have hB15:w.heap.size≤V14.heap.size:=by14.size
   clear hs3
   replace n02:=n02.out
   replace n03:=n03.out
   replace n41:=n41.out
   replace n00:=n00.out
   replace n01:=n01.out
   replace n10:=n10.out
   replace n11:=n11.out
   replace n20:=n20.out
   replace n21:=n21.out
   replace n30:=n30.out
   replace n31:=n31.out
   obtain ⟨V,hVd⟩:∃ V:World,V14.drew=V:=⟨_,rfl⟩
   have RV:=Ry14.out.drew
   have bV:=by14.drew
   rw [hVd] at RV bV
   clear Ry14 by14
   replace hVd:=Hd hVd
   have hS:V.cell? ⟨w9.heap.size,0,none⟩=some (.int .i64 0)∧V.cell? ⟨w9.heap.size,1,none⟩=some (.slice x1a x1b x1c)∧V.cell? ⟨w9.heap.size,2,none⟩=some (.slice x2a x2b x2c)∧V.cell? ⟨w9.heap.size,3,none⟩=some (.slice x3a x3b x3c)∧V.cell? ⟨w9.heap.size+1,0,none⟩=some (.int .i64 0)∧V.cell? ⟨w9.heap.size+1,1,none⟩=some (.slice y1a y1b y1c)∧V.cell? ⟨w9.heap.size+1,2,none⟩=some (.slice y2a y2b y2c)∧V.cell? ⟨w9.heap.size+1,3,none⟩=some (.slice y3a y3b y3c):=by
    obtain ⟨a0,a1,a2,a3⟩:=RV.cells4 n00
    obtain ⟨d0,d1,d2,d3⟩:=RV.cells4 n01
    exact ⟨a0,a1,a2,a3,d0,d1,d2,d3⟩
   obtain ⟨g0,g1,g2,g3⟩:=RV.cells4 n02
   have fg0:=RV.frz4 n02 0
   have fg1:=RV.frz4 n02 1
   have fg2:=RV.frz4 n02 2
   have fg3:=RV.frz4 n02 3
   have lg0:=(RV.low4 n02).1
   obtain ⟨f15,R15,m02,o15⟩:=RV.all4 n02 (.int .i64 0) (.slice x1a x1b x1c) (.slice x2a x2b x2c) (.slice x3a x3b x3c)
   replace n03:=(o15 (0,3) (by decide)).trans n03
   replace n41:=(o15 (4,1) (by decide)).trans n41
   replace n00:=(o15 (0,0) (by decide)).trans n00
   replace n01:=(o15 (0,1) (by decide)).trans n01
   replace n10:=(o15 (1,0) (by decide)).trans n10
   replace n11:=(o15 (1,1) (by decide)).trans n11
   replace n20:=(o15 (2,0) (by decide)).trans n20
   replace n21:=(o15 (2,1) (by decide)).trans n21
   replace n30:=(o15 (3,0) (by decide)).trans n30
   replace n31:=(o15 (3,1) (by decide)).trans n31
   have b15:=Below.all4 (g:=w.heap.size) bV lg0 (.int .i64 0) (.slice x1a x1b x1c) (.slice x2a x2b x2c) (.slice x3a x3b x3c)
   obtain ⟨V15,hV15⟩:∃ V',(((V.setCell ⟨w.heap.size,0,none⟩ (.int .i64 0)).setCell ⟨w.heap.size,1,none⟩ (.slice x1a x1b x1c)).setCell ⟨w.heap.size,2,none⟩ (.slice x2a x2b x2c)).setCell ⟨w.heap.size,3,none⟩ (.slice x3a x3b x3c)=V':=⟨_,rfl⟩
   rw [hV15] at R15 b15
   have hS15:V15.cell? ⟨w9.heap.size,0,none⟩=some (.int .i64 0)∧V15.cell? ⟨w9.heap.size,1,none⟩=some (.slice x1a x1b x1c)∧V15.cell? ⟨w9.heap.size,2,none⟩=some (.slice x2a x2b x2c)∧V15.cell? ⟨w9.heap.size,3,none⟩=some (.slice x3a x3b x3c)∧V15.cell? ⟨w9.heap.size+1,0,none⟩=some (.int .i64 0)∧V15.cell? ⟨w9.heap.size+1,1,none⟩=some (.slice y1a y1b y1c)∧V15.cell? ⟨w9.heap.size+1,2,none⟩=some (.slice y2a y2b y2c)∧V15.cell? ⟨w9.heap.size+1,3,none⟩=some (.slice y3a y3b y3c):=by
    obtain ⟨a0,a1,a2,a3⟩:=R15.cells4 n00
    obtain ⟨d0,d1,d2,d3⟩:=R15.cells4 n01
    exact ⟨a0,a1,a2,a3,d0,d1,d2,d3⟩
   replace hV15:=Hd hV15
   clear n02 o15 RV bV lg0
   have n02:=m02
   clear m02
   refine wp_region_plan (fun w'=>w'.cell? ⟨w9.heap.size,0,none⟩=some (.int .i64 0)∧w'.cell? ⟨w9.heap.size,1,none⟩=some (.slice x1a x1b x1c)∧w'.cell? ⟨w9.heap.size,2,none⟩=some (.slice x2a x2b x2c)∧w'.cell? ⟨w9.heap.size,3,none⟩=some (.slice x3a x3b x3c)∧w'.cell? ⟨w9.heap.size+1,0,none⟩=some (.int .i64 0)∧w'.cell? ⟨w9.heap.size+1,1,none⟩=some (.slice y1a y1b y1c)∧w'.cell? ⟨w9.heap.size+1,2,none⟩=some (.slice y2a y2b y2c)∧w'.cell? ⟨w9.heap.size+1,3,none⟩=some (.slice y3a y3b y3c)) 4 [(0,true),(1,true),(2,false),(3,false)] (by kernel_rfl) (by kernel_rfl) ?_
   rw [hVd.out]
   refine pqY 111 hS ?_
   refine pqY 112 hS ?_
   refine headC rfl (fun KK hK=>?_)
   go_simp
   rw [hV15.out]
   refine hK _ _ hS15 ?_
   clear hK KK hS g0 g1 g2 g3 fg0 fg1 fg2 fg3
   obtain ⟨h0,h1,h2,h3⟩:=R15.cells4 n03
   have fh0:=R15.frz4 n03 0
   have fh1:=R15.frz4 n03 1
   have fh2:=R15.frz4 n03 2
   have fh3:=R15.frz4 n03 3
   have lh0:=(R15.low4 n03).1
   obtain ⟨f16,R16,m03,o16⟩:=R15.all4 n03 (.int .i64 0) (.slice y1a y1b y1c) (.slice y2a y2b y2c) (.slice y3a y3b y3c)
   replace n02:=(o16 (0,2) (by decide)).trans n02
   replace n41:=(o16 (4,1) (by decide)).trans n41
   replace n00:=(o16 (0,0) (by decide)).trans n00
   replace n01:=(o16 (0,1) (by decide)).trans n01
   replace n10:=(o16 (1,0) (by decide)).trans n10
   replace n11:=(o16 (1,1) (by decide)).trans n11
   replace n20:=(o16 (2,0) (by decide)).trans n20
   replace n21:=(o16 (2,1) (by decide)).trans n21
   replace n30:=(o16 (3,0) (by decide)).trans n30
   replace n31:=(o16 (3,1) (by decide)).trans n31
   have b16:=Below.all4 (g:=w.heap.size+1) b15 lh0 (.int .i64 0) (.slice y1a y1b y1c) (.slice y2a y2b y2c) (.slice y3a y3b y3c)
   obtain ⟨V16,hV16⟩:∃ V',(((V15.setCell ⟨w.heap.size+1,0,none⟩ (.int .i64 0)).setCell ⟨w.heap.size+1,1,none⟩ (.slice y1a y1b y1c)).setCell ⟨w.heap.size+1,2,none⟩ (.slice y2a y2b y2c)).setCell ⟨w.heap.size+1,3,none⟩ (.slice y3a y3b y3c)=V':=⟨_,rfl⟩
   rw [hV16] at R16 b16
   have hS16:V16.cell? ⟨w9.heap.size,0,none⟩=some (.int .i64 0)∧V16.cell? ⟨w9.heap.size,1,none⟩=some (.slice x1a x1b x1c)∧V16.cell? ⟨w9.heap.size,2,none⟩=some (.slice x2a x2b x2c)∧V16.cell? ⟨w9.heap.size,3,none⟩=some (.slice x3a x3b x3c)∧V16.cell? ⟨w9.heap.size+1,0,none⟩=some (.int .i64 0)∧V16.cell? ⟨w9.heap.size+1,1,none⟩=some (.slice y1a y1b y1c)∧V16.cell? ⟨w9.heap.size+1,2,none⟩=some (.slice y2a y2b y2c)∧V16.cell? ⟨w9.heap.size+1,3,none⟩=some (.slice y3a y3b y3c):=by
    obtain ⟨a0,a1,a2,a3⟩:=R16.cells4 n00
    obtain ⟨d0,d1,d2,d3⟩:=R16.cells4 n01
    exact ⟨a0,a1,a2,a3,d0,d1,d2,d3⟩
   replace hV16:=Hd hV16
   clear n03 o16 R15 b15 lh0
   have n03:=m03
   clear m03
   refine headC rfl (fun KK hK=>?_)
   go_simp
   rw [hV16.out]
   refine hK _ _ hS16 ?_
   clear hK KK hS15 h0 h1 h2 h3 fh0 fh1 fh2 fh3
   refine head0 ?_
   simp only [List.drop_succ_cons,List.drop_zero]
   clear hS16
   obtain ⟨g0,g1,g2,g3⟩:=R16.cells4 n02
   obtain ⟨h0,h1,h2,h3⟩:=R16.cells4 n03
   replace R16:=Hd R16
   replace n00:=Hd n00
   replace n01:=Hd n01
   replace n02:=Hd n02
   replace n03:=Hd n03
   replace n41:=Hd n41
   replace n10:=Hd n10
   replace n11:=Hd n11
   replace n20:=Hd n20
   replace n21:=Hd n21
   replace n30:=Hd n30
   replace n31:=Hd n31
   go_wp2
   refine NoPanic.normal ?_
   go_wp2
   refine bodyPost_ret (v:=.tuple #[.agg #[.int .i64 0,.slice x1a x1b x1c,.slice x2a x2b x2c,.slice x3a x3b x3c],.agg #[.int .i64 0,.slice y1a y1b y1c,.slice y2a y2b y2c,.slice y3a y3b y3c],.nilIface]) (by simp [results,Tryz.results54,go_sem,g0,g1,g2,g3,h0,h1,h2,h3]) rfl ?_
   exact ⟨_,_,_,rfl,b16,rfl,u1.dropLast,I++O.drop 1,u2.dropLast.drop 1++[d],_,_,_,_,_,_,⟨c,d,u1,u2,I,O,hcN.out,hdN.out,hcn,hdn,hu1.out,hu2.out,hI.out,hO.out,rfl,rfl,rfl⟩,rfl,rfl,f16,R16.out,n10.out,n11.out,n20.out,n21.out,n30.out,n31.out⟩
end Go.Proofs.YtkaoebokbfcmhaaGreatDoor
namespace Go.Proofs.YtkaoebokbfcmhaaGreatDoor
open Go.RowKit Go.Shelf Go.Sort
set_option maxRecDepth 100000
def Tryz.laysDel_ren:Go.Shelf.Ren:=⟨fun | 10=>101 | 6=>91 | n=>n,fun | 22=>22 | 23=>3 | 25=>153 | 3=>3 | 4=>4 | 0=>0 | n=>n,fun | n=>n⟩
theorem Tryz.laysDel:Go.Proofs.SlLaysH.n10 Tryz.prog Tryz.laysDel_ren:={
 mixed:=by kernel_rfl
 f6:=⟨Tryz.f91.name,by decide,Tryz.func91.trans (congrArg some (by kernel_rfl))⟩
 f10:=⟨Tryz.f101.name,by decide,Tryz.func101.trans (congrArg some (by kernel_rfl))⟩
 t0:=Tryz.underlying0
 a0:=Tryz.isAgg0
 z0:=Tryz.sizeOf0
 v0:=Tryz.zeroValue0
 t3:=Tryz.underlying3
 a3:=Tryz.isAgg3
 z3:=Tryz.sizeOf3
 v3:=Tryz.zeroValue3
 t4:=Tryz.underlying4
 a4:=Tryz.isAgg4
 z4:=Tryz.sizeOf4
 v4:=Tryz.zeroValue4
 t22:=Tryz.underlying22
 a22:=Tryz.isAgg22
 z22:=Tryz.sizeOf22
 v22:=Tryz.zeroValue22
 a23:=Tryz.isAgg3
 z23:=Tryz.sizeOf3
 t25:=Tryz.underlying153
 a25:=Tryz.isAgg153
 z25:=Tryz.sizeOf153
 v25:=Tryz.zeroValue153 }
def dgI (N:Nat) (x:Int):Bool:=IntKind.i64.wrap (x.tdiv N)==x.tmod N
theorem dgI_aux (a c:Nat) (ha:a≤100000):(IntKind.i64.wrap (a:Int)==(c:Int))=decide (a=c):=by
 rw [wrapK (x:=(a:Int)) (by omega) (by omega)]
 by_cases e:a=c
 ·simp [e]
 ·rw [decide_eq_false e,beq_eq_false_iff_ne]; omega
theorem dgI_nat {N p:Nat} (hp:p≤100000):dgI N p=decide (Diag N p):=by
 unfold dgI
 have h1:p/N≤100000:=Nat.le_trans (Nat.div_le_self _ _) hp
 have e1:(p:Int).tdiv (N:Int)=((p/N:Nat):Int):=by rw [Int.tdiv_eq_ediv_of_nonneg (by omega)]; simp
 have e2:(p:Int).tmod (N:Int)=((p%N:Nat):Int):=by rw [Int.tmod_eq_emod_of_nonneg (by omega)]; simp
 rw [e1,e2,dgI_aux _ _ h1,decide_eq_decide]
 exact Iff.rfl
theorem apart1_any (x:Int) (b N:Nat) (w:World) (hN:1≤N) (hb:w.cell? ⟨b,0,none⟩=some (.int .i64 N)) :
 Calls Tryz.prog 102 #[.int .i64 x,.pointer (some ⟨b,0,none⟩)] w (RetB (dgI N x) w):=by
 have h1:¬ (N:Int)=0:=by omega
 have h2:((N:Int)==0)=false:=by rw [beq_eq_false_iff_ne]; omega
 have h3:¬ N=0:=by omega
 go_enter Tryz.func102,Tryz.ntmps102
 go_upto_region 1 with fail
 refine wp_region_plan (fun w'=>w'.cell? ⟨b,0,none⟩=some (.int .i64 N)) 7 [(0,true),(1,true),(2,true),(3,true),(4,true),(5,true),(6,true)] (by kernel_rfl) (by kernel_rfl) ?_
 have hS:w.drew.cell? ⟨b,0,none⟩=some (.int .i64 N):=hb
 refine pqY 4 hS ?_
 refine pqY 5 hS ?_
 refine pqY 6 hS ?_
 refine pqY 7 hS ?_
 refine pqY 8 hS ?_
 refine pqY 9 hS ?_
 refine pqY 10 hS ?_
 refine head0 ?_
 simp only [List.drop_succ_cons,List.drop_zero]
 clear hS
 go_wp2
 refine NoPanic.normal ?_
 go_wp2
 go_ret
 exact ⟨1,rfl,rfl⟩
theorem eg_apart1 (args:Array Value) (w:World):(callFunc 102 args).run Tryz.prog w=.ok (.enter 102 args) w:=by kernel_rfl
theorem gives1 (x:Int) (b N:Nat) (w:World) (hN:1≤N) (hb:w.cell? ⟨b,0,none⟩=some (.int .i64 N)):FnGives Tryz.prog 102 #[.pointer (some ⟨b,0,none⟩)] #[.int .i64 x] (.bool (dgI N x)) w:=by
 refine (apart1_any x b N w hN hb).mono ?_
 rintro e w' ⟨n,rfl,rfl⟩
 exact ⟨rfl,n,rfl⟩
theorem delete_own (B:Nat) (v:Value) (xs:List Int) (b N:Nat) (w:World) (h:OwnI B w v xs) (hx:xs≠[]) (hN:1≤N) (hb:w.cell? ⟨b,0,none⟩=some (.int .i64 N)) (hne:v.ownBlock≠some b) :
 Calls Tryz.prog 101 #[v,.func (.func 102) #[] #[.pointer (some ⟨b,0,none⟩)]] w fun e w'=>∃ x,e=.returned x∧x.ownBlock=v.ownBlock∧OwnI B w' x (xs.filter fun x=>!dgI N x)∧Below B w w':=by
 have hbl:=World.block_lt_of_cell? _ _ hb
 rcases h.2 with ⟨rfl,hn⟩ | ⟨g,cap,cur,rfl,hB,hg,hn,hm,hs,ht⟩
 ·exact absurd (List.length_eq_zero_iff.1 hn) hx
 ·have hne':b≠g:=fun e=>hne (by rw [e]; rfl)
  have hcon:=AnyE.slices_DeleteFunc Tryz.laysDel (Value.int .i64) (fun _=>rfl) (dgI N) 102 #[.pointer (some ⟨b,0,none⟩)] (fun args w'=>eg_apart1 args w') 0 (fun w=>by kernel_rfl) g 0 cap xs.toArray w
   (fun W x hb'=>gives1 x b N W hN ((hb'.cell (p:=⟨b,0,none⟩) hbl).trans hb))
   (fun n os dk x _=>gives1 x b N _ hN (by
     unfold sortWorld
     rw [cell?_grow _ _ _ (by show b<(putRow _ _ _ _ _).heap.size; rw [size_putRow]; exact hbl),cell?_putRow_other _ _ g 0 _ _ (Or.inl hne')]
     exact hb))
   (holds_of_block_i hg (by simpa using ht)) (by have:=h.at.len_le; simpa using this) (by simpa using hn)
  refine Calls.mono hcon ?_
  rintro e w' ⟨rfl,q,rfl⟩
  have hfl:(xs.toArray.toList.filter fun x=>!dgI N x)=xs.filter fun x=>!dgI N x:=rfl
  rw [hfl]
  have hle:=List.length_filter_le (fun x=>!dgI N x) xs
  generalize hF:(xs.filter fun x=>!dgI N x)=F at *
  have hL:(F++List.replicate (xs.toArray.size-F.length) 0).length=xs.length:=by simp; omega
  have ho:=ownsRow_sorted_i (w:=w) (n:=q) (os:=#[]) (ss:=xs) (ts:=F++List.replicate (xs.toArray.size-F.length) 0) hL hB hg hn hm hs
  have hgr:=grownBy_sorted_i (w:=w) (g:=g) (n:=q) (os:=#[]) (F++List.replicate (xs.toArray.size-F.length) 0).toArray
  rw [grow_empty] at ho hgr
  have hO:OwnI B (putRow (Value.int .i64) (Sort.ahead w q) g 0 (F++List.replicate (xs.toArray.size-F.length) 0).toArray) (.slice (some ⟨g,0,none⟩) xs.length cap) (F++List.replicate (xs.toArray.size-F.length) 0):=by
   unfold OwnI; rw [hL]; exact ho
  have ho2:=hO.cutTo F.length (by rw [hL]; exact hle)
  rw [List.take_left' rfl] at ho2
  exact ⟨_,rfl,rfl,ho2,(Below.refl _ _).grown hgr (by have:=(Array.getElem?_eq_some_iff.1 hg).1; omega) (fun k hk=>by cases hk; exact hB)⟩
end Go.Proofs.YtkaoebokbfcmhaaGreatDoor
namespace Go.Proofs.YtkaoebokbfcmhaaGreatDoor
structure MIn (N:Nat) (adj:Nat→List Nat) (D:Nat→Nat) (q:List Nat) (i v:Nat) (pre:List Nat):Prop where
 at_:q[i]?=some v
 nodup:q.Nodup
 low:∀ x∈q,x<N*N
 diag:∀ x,x<N*N→Diag N x→x∈q∧D x=0
 old:∀ x,x<N*N→¬ Diag N x→(x∈q↔0<D x)
 mono:∀ (j k x y:Nat),j≤k→q[j]?=some x→q[k]?=some y→D x≤D y
 top:∀ x∈q,D x≤D v+1
 bnd:∀ x∈q,D x≤q.length
 done:∀ (k x:Nat),k<i→q[k]?=some x→∀ t∈adj x,(¬ Diag N t→t∈q∧D t≤D x+1)∧(Diag N t→Diag N x)
 now:∀ t∈pre,(¬ Diag N t→t∈q∧D t≤D v+1)∧(Diag N t→Diag N v)
structure MOut (N:Nat) (adj:Nat→List Nat) (D:Nat→Nat) (q:List Nat) (i:Nat):Prop where
 nodup:q.Nodup
 low:∀ x∈q,x<N*N
 diag:∀ x,x<N*N→Diag N x→x∈q∧D x=0
 old:∀ x,x<N*N→¬ Diag N x→(x∈q↔0<D x)
 mono:∀ (j k x y:Nat),j≤k→q[j]?=some x→q[k]?=some y→D x≤D y
 top:∀ v:Nat,q[i]?=some v→∀ x∈q,D x≤D v+1
 bnd:∀ x∈q,D x≤q.length
 done:∀ (k x:Nat),k<i→q[k]?=some x→∀ t∈adj x,(¬ Diag N t→t∈q∧D t≤D x+1)∧(Diag N t→Diag N x)
section
variable {N:Nat} {adj:Nat→List Nat} {D:Nat→Nat} {q:List Nat} {i v:Nat} {pre:List Nat}
def diags (N:Nat):List Nat:=(List.range N).map fun u=>u*N+u
theorem mem_diags {N x:Nat}:x∈diags N↔∃ u,u<N∧x=u*N+u:=by
 unfold diags; rw [List.mem_map]
 constructor
 ·rintro ⟨u,h,rfl⟩; exact ⟨u,List.mem_range.1 h,rfl⟩
 ·rintro ⟨u,h,rfl⟩; exact ⟨u,List.mem_range.2 h,rfl⟩
theorem MOut.init (N:Nat) (adj:Nat→List Nat):MOut N adj (fun _=>0) (diags N) 0:=by
 refine ⟨?_,fun x hx=>?_,fun x hx hd=>⟨mem_diags.2 ⟨x/N,div_lt_of hx,hd.eq⟩,rfl⟩,fun x hx hd=>⟨fun h=>?_,fun h=>absurd h (by simp)⟩,fun _ _ _ _ _ _ _=>Nat.le_refl _,fun _ _ _ _=>by simp,fun _ _=>Nat.zero_le _,fun k x hk=>by omega⟩
 ·unfold diags
  rw [List.nodup_iff_pairwise_ne,List.pairwise_map]
  refine List.pairwise_lt_range.imp_of_mem fun {a b} ha hb h e=>?_
  have hb:=List.mem_range.1 hb
  have:=Nat.mul_le_mul_right N (show a+1≤b by omega)
  rw [Nat.add_mul] at this
  omega
 ·obtain ⟨u,hu,rfl⟩:=mem_diags.1 hx
  exact pair_lt hu hu
 ·obtain ⟨u,hu,rfl⟩:=mem_diags.1 h
  exact absurd (diag_mk hu) hd
theorem MOut.enter (h:MOut N adj D q i) (hv:q[i]?=some v):MIn N adj D q i v [] :=
 ⟨hv,h.nodup,h.low,h.diag,h.old,h.mono,h.top v hv,h.bnd,h.done,fun _ ht=>by cases ht⟩
theorem MIn.leave (h:MIn N adj D q i v pre) (hp:pre=adj v):MOut N adj D q (i+1):=by
 subst hp
 refine ⟨h.nodup,h.low,h.diag,h.old,h.mono,fun y hy x hx=>?_,h.bnd,fun k x hk hx=>?_⟩
 ·have:=h.mono i (i+1) v y (by omega) h.at_ hy
  have:=h.top x hx
  omega
 ·by_cases e:k=i
  ·subst e
   rw [h.at_] at hx; cases hx
   exact h.now
  ·exact h.done k x (by omega) hx
theorem MIn.skip (h:MIn N adj D q i v pre) {t:Nat} (ht:(Diag N t∧Diag N v)∨(¬ Diag N t∧t∈q)):MIn N adj D q i v (pre++[t]):=by
 refine ⟨h.at_,h.nodup,h.low,h.diag,h.old,h.mono,h.top,h.bnd,h.done,fun s hs=>?_⟩
 rcases List.mem_append.1 hs with hs | hs
 ·exact h.now s hs
 ·cases List.mem_singleton.1 hs
  rcases ht with ⟨h1,h2⟩ | ⟨h1,h2⟩
  ·exact ⟨fun q=>absurd h1 q,fun _=>h2⟩
  ·exact ⟨fun _=>⟨h2,h.top _ h2⟩,fun q=>absurd q h1⟩
theorem MIn.add (h:MIn N adj D q i v pre) {t:Nat} (htl:t<N*N) (ht:¬ Diag N t) (hq:t∉q):MIn N adj (updN D t (D v+1)) (q++[t]) i v (pre++[t]):=by
 have hi:i<q.length:=(List.getElem?_eq_some_iff.1 h.at_).1
 have hvq:v∈q:=List.mem_of_getElem? h.at_
 have hvt:v≠t:=fun e=>hq (by rw [← e]; exact hvq)
 have hD:∀ x,x∈q→updN D t (D v+1) x=D x:=fun x hx=>updN_other _ _ _ (fun e=>hq (by rw [← e]; exact hx))
 have hget:∀ k x,(q++[t])[k]?=some x→(q[k]?=some x∧k<q.length)∨(k=q.length∧x=t):=fun k x hx=>by
  rw [List.getElem?_append] at hx
  split at hx
  ·exact .inl ⟨hx,by assumption⟩
  ·right
   cases hk:k-q.length with
   | zero=>rw [hk] at hx; simp at hx; exact ⟨by omega,hx.symm⟩
   | succ n=>rw [hk] at hx; simp at hx
 refine ⟨by rw [List.getElem?_append_left hi]; exact h.at_,List.nodup_append.2 ⟨h.nodup,by simp,fun a ha b hb e=>by cases List.mem_singleton.1 hb; subst e; exact hq ha⟩,fun x hx=>?_,fun x hx hd=>?_,fun x hx hd=>?_,fun j k x y hjk hx hy=>?_,fun x hx=>?_,fun x hx=>?_,fun k x hk hx s hs=>?_,fun s hs=>?_⟩
 ·rcases List.mem_append.1 hx with hx | hx
  ·exact h.low x hx
  ·cases List.mem_singleton.1 hx; exact htl
 ·obtain ⟨h1,h2⟩:=h.diag x hx hd
  exact ⟨List.mem_append_left _ h1,by rw [hD x h1]; exact h2⟩
 ·by_cases e:x=t
  ·subst e; rw [updN_same]; simp
  ·rw [updN_other _ _ _ e,← h.old x hx hd]; simp [e]
 ·rcases hget j x hx with ⟨a1,_⟩ | ⟨a1,rfl⟩
  ·rw [hD x (List.mem_of_getElem? a1)]
   rcases hget k y hy with ⟨b1,_⟩ | ⟨b1,rfl⟩
   ·rw [hD y (List.mem_of_getElem? b1)]; exact h.mono j k x y hjk a1 b1
   ·rw [updN_same]; exact h.top x (List.mem_of_getElem? a1)
  ·rcases hget k y hy with ⟨b1,b2⟩ | ⟨b1,rfl⟩
   ·omega
   ·exact Nat.le_refl _
 ·rw [updN_other D t (D v+1) hvt]
  rcases List.mem_append.1 hx with hx | hx
  ·rw [hD x hx]; exact h.top x hx
  ·cases List.mem_singleton.1 hx; rw [updN_same]; exact Nat.le_refl _
 ·rw [List.length_append,List.length_singleton]
  rcases List.mem_append.1 hx with hx | hx
  ·rw [hD x hx]; have:=h.bnd x hx; omega
  ·cases List.mem_singleton.1 hx; rw [updN_same]; have:=h.bnd v hvq; omega
 ·rcases hget k x hx with ⟨a1,_⟩ | ⟨a1,rfl⟩
  ·rw [hD x (List.mem_of_getElem? a1)]
   obtain ⟨c1,c2⟩:=h.done k x hk a1 s hs
   exact ⟨fun q'=>by
    obtain ⟨d1,d2⟩:=c1 q'
    exact ⟨List.mem_append_left _ d1,by rw [hD s d1]; exact d2⟩,c2⟩
  ·omega
 ·rw [updN_other D t (D v+1) hvt]
  rcases List.mem_append.1 hs with hs | hs
  ·obtain ⟨c1,c2⟩:=h.now s hs
   exact ⟨fun q'=>by
    obtain ⟨d1,d2⟩:=c1 q'
    exact ⟨List.mem_append_left _ d1,by rw [hD s d1]; exact d2⟩,c2⟩
  ·cases List.mem_singleton.1 hs
   exact ⟨fun _=>⟨List.mem_append_right _ (by simp),by rw [updN_same]; exact Nat.le_refl _⟩,fun q'=>absurd q' ht⟩
theorem MOut.along (h:MOut N adj D q i) {u:List Nat} (hu:ApartWay N adj u):∀ j,j+1<u.length →
 (∃ k,k≤j∧u.getD k 0∈q∧D (u.getD k 0)≤k∧∀ m,m<i→q[m]?≠some (u.getD k 0))∨(u.getD j 0∈q∧D (u.getD j 0)≤j∧∃ m,m<i∧q[m]?=some (u.getD j 0))
 | 0,h1=>by
  obtain ⟨a,b⟩:=h.diag _ (hu.low 0 (by omega)) hu.fst
  by_cases q':∃ m,m<i∧q[m]?=some (u.getD 0 0)
  ·exact .inr ⟨a,by omega,q'⟩
  ·exact .inl ⟨0,Nat.le_refl _,a,by omega,fun m hm e=>q' ⟨m,hm,e⟩⟩
 | j+1,h1=>by
  rcases h.along hu j (by omega) with ⟨k,k1,k2,k3,k4⟩ | ⟨_,a2,m,m1,m2⟩
  ·exact .inl ⟨k,by omega,k2,k3,k4⟩
  ·obtain ⟨c1,_⟩:=h.done m _ m1 m2 _ (hu.arr j (by omega))
   obtain ⟨d1,d2⟩:=c1 (hu.inn (j+1) (by omega) h1)
   by_cases q':∃ m,m<i∧q[m]?=some (u.getD (j+1) 0)
   ·exact .inr ⟨d1,by omega,q'⟩
   ·exact .inl ⟨j+1,Nat.le_refl _,d1,by omega,fun m hm e=>q' ⟨m,hm,e⟩⟩
theorem MOut.none (h:MOut N adj D q i) (hi:q.length≤i) (u:List Nat):¬ ApartWay N adj u:=fun hu=>by
 have h3:=hu.len
 rcases h.along hu (u.length-2) (by omega) with ⟨k,_,k2,_,k4⟩ | ⟨_,_,m,m1,m2⟩
 ·obtain ⟨m,hm⟩:=List.mem_iff_getElem?.1 k2
  have:=(List.getElem?_eq_some_iff.1 hm).1
  exact k4 m (by omega) hm
 ·obtain ⟨_,c2⟩:=h.done m _ m1 m2 _ (hu.arr (u.length-2) (by omega))
  refine hu.inn (u.length-2) (by omega) (by omega) (c2 ?_)
  rw [show u.length-2+1=u.length-1 by omega]
  exact hu.lst
theorem MIn.best (h:MIn N adj D q i v pre) {u:List Nat} (hu:ApartWay N adj u):D v+3≤u.length+1:=by
 have h3:=hu.len
 have ho:MOut N adj D q i:=⟨h.nodup,h.low,h.diag,h.old,h.mono,fun y hy=>by rw [h.at_] at hy; cases hy; exact h.top,h.bnd,h.done⟩
 rcases ho.along hu (u.length-2) (by omega) with ⟨k,k1,k2,k3,k4⟩ | ⟨_,_,m,m1,m2⟩
 ·obtain ⟨m,hm⟩:=List.mem_iff_getElem?.1 k2
  have hmi:i≤m:=Nat.le_of_not_lt fun q'=>k4 m q' hm
  have:=h.mono i m v _ hmi h.at_ hm
  omega
 ·obtain ⟨_,c2⟩:=h.done m _ m1 m2 _ (hu.arr (u.length-2) (by omega))
  refine absurd (c2 ?_) (hu.inn (u.length-2) (by omega) (by omega))
  rw [show u.length-2+1=u.length-1 by omega]
  exact hu.lst
def CameOf (N:Nat) (adj:Nat→List Nat) (D:Nat→Nat) (q:List Nat) (came:Nat→Int):Prop :=
 (∀ x,x<N*N→((came x<0↔Diag N x∨x∉q)∧(came x<0→came x=-1)))∧∀ x,x<N*N→0≤came x→∃ p:Nat,came x=p∧p∈q∧x∈adj p∧D x=D p+1
theorem CameOf.init (N:Nat) (adj:Nat→List Nat):CameOf N adj (fun _=>0) (diags N) (fun _=>-1):=by
 refine ⟨fun x hx=>⟨⟨fun _=>?_,fun _=>(by show (-1:Int)<0; decide)⟩,fun _=>rfl⟩,fun x _ h=>by simp at h⟩
 by_cases hd:Diag N x
 ·exact .inl hd
 ·right
  intro hm
  obtain ⟨u,hu,rfl⟩:=mem_diags.1 hm
  exact hd (diag_mk hu)
theorem CameOf.add (h:MIn N adj D q i v pre) {came:Nat→Int} (hc:CameOf N adj D q came) {t:Nat} (ht:¬ Diag N t) (hq:t∉q) (ha:t∈adj v):CameOf N adj (updN D t (D v+1)) (q++[t]) (updN came t (v:Int)):=by
 have hvq:v∈q:=List.mem_of_getElem? h.at_
 have hvt:v≠t:=fun e=>hq (by rw [← e]; exact hvq)
 refine ⟨fun x hx=>?_,fun x hx h0=>?_⟩
 ·by_cases e:x=t
  ·subst e; rw [updN_same]
   exact ⟨⟨fun q'=>by omega,fun q'=>by rcases q' with q' | q'; exact absurd q' ht; exact absurd (List.mem_append_right _ (by simp)) q'⟩,fun q'=>by omega⟩
  ·rw [updN_other _ _ _ e]
   obtain ⟨a,b⟩:=hc.1 x hx
   refine ⟨?_,b⟩
   rw [a]; simp [e]
 ·by_cases e:x=t
  ·subst e
   refine ⟨v,updN_same ..,List.mem_append_left _ hvq,ha,?_⟩
   rw [updN_same,updN_other _ _ _ hvt]
  ·rw [updN_other _ _ _ e] at h0 ⊢
   obtain ⟨p,p1,p2,p3,p4⟩:=hc.2 x hx h0
   refine ⟨p,p1,List.mem_append_left _ p2,p3,?_⟩
   rw [updN_other _ _ _ e,updN_other _ _ _ (fun e'=>hq (by rw [← e']; exact p2))]
   exact p4
inductive BackWay (N:Nat) (adj:Nat→List Nat) (came:Nat→Int):Nat→List Nat→Prop
 | stop (x:Nat) (h:came x=-1) (hd:Diag N x):BackWay N adj came x [x]
 | step (x p:Nat) (c:List Nat) (h:came x=p) (hd:¬ Diag N x) (ha:x∈adj p) (hp:p<N*N) (hc:BackWay N adj came p c):BackWay N adj came x (x::c)
theorem CameOf.back {came:Nat→Int} (hq:∀ x∈q,x<N*N) (h0:∀ x∈q,¬ Diag N x→0<D x) (hc:CameOf N adj D q came):∀ n x,D x=n→x∈q→∃ c,BackWay N adj came x c∧c.length≤n+1
 | n,x,hn,hx=>by
  obtain ⟨a,b⟩:=hc.1 x (hq x hx)
  by_cases hd:Diag N x
  ·exact ⟨[x],.stop x (b (a.2 (.inl hd))) hd,by simp⟩
  ·have h1:0≤came x:=by
    apply Classical.byContradiction
    intro q'
    rcases a.1 (by omega) with q' | q'
    ·exact hd q'
    ·exact q' hx
   obtain ⟨p,p1,p2,p3,p4⟩:=hc.2 x (hq x hx) h1
   obtain ⟨c,c1,c2⟩:=CameOf.back hq h0 hc (n-1) p (by omega) p2
   exact ⟨x::c,.step x p c p1 hd p3 (hq p p2) c1,by simp; omega⟩
termination_by n=>n
decreasing_by all_goals (have:=h0 x hx hd; omega)
theorem BackWay.ne {came:Nat→Int} {x:Nat} {c:List Nat} (h:BackWay N adj came x c):∃ c',c=x::c':=by cases h<;>exact ⟨_,rfl⟩
theorem BackWay.next {came:Nat→Int} {x:Nat} {c:List Nat} (h:BackWay N adj came x c) (hx:x<N*N):∀ k y,c[k]?=some y→y<N*N∧((k+1<c.length∧∃ z,c[k+1]?=some z∧came y=z)∨(k+1=c.length∧came y=-1)):=by
 induction h with
 | stop x h hd =>
  intro k y hy
  cases k with
  | zero=>simp at hy; subst hy; exact ⟨hx,.inr ⟨rfl,h⟩⟩
  | succ k=>simp at hy
 | step x p c hcm hnd ha hp hc ih =>
  intro k y hy
  obtain ⟨c',rfl⟩:=hc.ne
  cases k with
  | zero=>simp at hy; subst hy; exact ⟨hx,.inl ⟨by simp,p,rfl,hcm⟩⟩
  | succ k =>
   have hy:(p::c')[k]?=some y:=by simpa using hy
   obtain ⟨h1,h2⟩:=ih hp k y hy
   refine ⟨h1,h2.imp ?_ ?_⟩
   ·rintro ⟨a,z,b,d⟩; exact ⟨by simpa using a,z,by simpa using b,d⟩
   ·rintro ⟨a,b⟩; exact ⟨by simpa using a,b⟩
theorem BackWay.way {came:Nat→Int} {x:Nat} {c:List Nat} (h:BackWay N adj came x c) (hx:x<N*N) :
 (∀ i,i<c.length→c.reverse.getD i 0<N*N)∧(∀ i,i+1<c.length→c.reverse.getD (i+1) 0∈adj (c.reverse.getD i 0))∧Diag N (c.reverse.getD 0 0)∧(∀ i,0<i→i<c.length→¬ Diag N (c.reverse.getD i 0))∧c.reverse.getD (c.length-1) 0=x∧0<c.length:=by
 induction h with
 | stop x _ hd=>exact ⟨fun i hi=>by simp at hi; subst hi; simpa using hx,fun i hi=>by simp at hi,by simpa using hd,fun i h1 h2=>by simp at h2; omega,by simp,by simp⟩
 | step x p c hcm hnd ha hp hc ih =>
  obtain ⟨i1,i2,i3,i4,i5,i6⟩:=ih hp
  have g1:∀ i,i<c.length→(x::c).reverse.getD i 0=c.reverse.getD i 0:=fun i hi=>by
   rw [List.reverse_cons,List.getD_eq_getElem?_getD,List.getElem?_append_left (by simpa using hi)]; rfl
  have g2:(x::c).reverse.getD c.length 0=x:=by
   rw [List.reverse_cons,List.getD_eq_getElem?_getD,List.getElem?_append_right (by simp)]; simp
  refine ⟨fun i hi=>?_,fun i hi=>?_,?_,fun i h1 h2=>?_,?_,by simp⟩
  ·by_cases e:i<c.length
   ·rw [g1 i e]; exact i1 i e
   ·obtain rfl:i=c.length:=by simp at hi; omega
    rw [g2]; exact hx
  ·have hi:i+1<c.length+1:=by simpa using hi
   rw [g1 i (by omega)]
   by_cases e:i+1<c.length
   ·rw [g1 _ e]; exact i2 i e
   ·obtain rfl:i=c.length-1:=by omega
    rw [i5,show c.length-1+1=c.length by omega,g2]; exact ha
  ·rw [g1 0 i6]; exact i3
  ·by_cases e:i<c.length
   ·rw [g1 i e]; exact i4 i h1 e
   ·obtain rfl:i=c.length:=by simp at h2; omega
    rw [g2]; exact hnd
  ·rw [List.length_cons,Nat.add_sub_cancel,g2]
theorem MIn.met (h:MIn N adj D q i v pre) {came:Nat→Int} (hc:CameOf N adj D q came) {t:Nat} (hv:¬ Diag N v) (ht:Diag N t) (htl:t<N*N) (ha:t∈adj v) :
 ∃ c,BackWay N adj came v c∧ApartWay N adj (c.reverse++[t])∧(c.reverse++[t]).length=D v+2∧∀ u,ApartWay N adj u→(c.reverse++[t]).length≤u.length:=by
 have hvq:v∈q:=List.mem_of_getElem? h.at_
 obtain ⟨c,hb,hl⟩:=hc.back h.low (fun x hx hd=>(h.old x (h.low x hx) hd).1 hx) (D v) v rfl hvq
 obtain ⟨w1,w2,w3,w4,w5,w6⟩:=hb.way (h.low v hvq)
 have h2:2≤c.length:=by
  obtain ⟨c',rfl⟩:=hb.ne
  cases hb with
  | stop _ _ hd=>exact absurd hd hv
  | step _ p _ _ _ _ _ hc'=>obtain ⟨_,rfl⟩:=hc'.ne; simp
 have g1:∀ i,i<c.length→(c.reverse++[t]).getD i 0=c.reverse.getD i 0:=fun i hi=>by
  rw [List.getD_eq_getElem?_getD,List.getElem?_append_left (by simpa using hi)]; rfl
 have g2:(c.reverse++[t]).getD c.length 0=t:=by
  rw [List.getD_eq_getElem?_getD,List.getElem?_append_right (by simp)]; simp
 have hL:(c.reverse++[t]).length=c.length+1:=by simp
 have hw:ApartWay N adj (c.reverse++[t]):=by
  refine ⟨by omega,fun i hi=>?_,fun i hi=>?_,?_,?_,fun i h1 h2=>?_⟩
  ·by_cases e:i<c.length
   ·rw [g1 i e]; exact w1 i e
   ·obtain rfl:i=c.length:=by omega
    rw [g2]; exact htl
  ·rw [g1 i (by omega)]
   by_cases e:i+1<c.length
   ·rw [g1 _ e]; exact w2 i e
   ·obtain rfl:i=c.length-1:=by omega
    rw [w5,show c.length-1+1=c.length by omega,g2]; exact ha
  ·rw [g1 0 (by omega)]; exact w3
  ·rw [hL,Nat.add_sub_cancel,g2]; exact ht
  ·rw [g1 i (by omega)]; exact w4 i h1 (by omega)
 have hmin:∀ u,ApartWay N adj u→D v+2≤u.length:=fun u hu=>by have:=h.best hu; omega
 have:=hmin _ hw
 refine ⟨c,hb,hw,by omega,fun u hu=>?_⟩
 have:=hmin u hu
 omega
end
theorem diag_arr {K N:Nat} {T:List Int} {u s:Nat} (hu:u<N) (hs:s<K):toN K N u s*N+toN K N u s∈pairL K N T (u*N+u):=by
 rw [mem_pairL (by omega),pair_div hu,pair_mod hu]
 exact ⟨s,s,hs,hs,rfl,rfl⟩
theorem diag_word {K N:Nat} {T:List Int} {u:Nat} (hu:u<N):∀ (n:Nat) (xs:List Int),xs.length=n→Syms K xs→Goes (pairL K N T) (u*N+u) ((u*pw K xs.length+numW K xs)%N*N+(u*pw K xs.length+numW K xs)%N)
 | 0,xs,hn,_=>by
  obtain rfl:=List.length_eq_zero_iff.1 hn
  rw [show u*pw K ([]:List Int).length+numW K []=u by simp [pw,numW],Nat.mod_eq_of_lt hu]
  exact .refl _
 | n+1,xs,hn,hx=>by
  have hne:xs≠[]:=by intro e; subst e; simp at hn
  obtain ⟨b,x,rfl⟩:∃ b x,xs=b++[x]:=⟨xs.dropLast,xs.getLast hne,(List.dropLast_concat_getLast hne).symm⟩
  have hb:b.length=n:=by simpa using hn
  have ih:=diag_word (T:=T) hu n b hb (fun y hy=>hx y (List.mem_append_left _ hy))
  have hxs:=hx x (by simp)
  refine .step ih ?_
  have:=diag_arr (T:=T) (u:=(u*pw K b.length+numW K b)%N) (s:=x.toNat) (Nat.mod_lt _ (by omega)) (show x.toNat<K by omega)
  have e:toN K N ((u*pw K b.length+numW K b)%N) x.toNat=(u*pw K (b++[x]).length+numW K (b++[x]))%N:=by
   unfold toN
   rw [numW_snoc,List.length_append,List.length_singleton,pw_succ,← Nat.mul_assoc,show u*pw K b.length*K+(numW K b*K+x.toNat)=(u*pw K b.length+numW K b)*K+x.toNat by rw [Nat.add_mul]; omega]
   rw [Nat.add_mod,Nat.mul_mod,Nat.mod_mod,← Nat.mul_mod,← Nat.add_mod]
  rw [e] at this
  exact this
theorem diag_goes {K R:Nat} {T:List Int} {u v:Nat} (hK:1≤K) (hu:u<pw K (2*R)) (hv:v<pw K (2*R)):Goes (pairL K (pw K (2*R)) T) (u*pw K (2*R)+u) (v*pw K (2*R)+v):=by
 have:=diag_word (T:=T) hu (2*R) (digs K (2*R) v) (digs_length ..) (digs_syms hK _ _)
 rw [digs_length,numW_digs hK _ _ hv,show u*pw K (2*R)+v=pw K (2*R)*u+v by rw [Nat.mul_comm],Nat.mul_add_mod,Nat.mod_eq_of_lt hv] at this
 exact this
open Go.RowKit
set_option maxRecDepth 100000
set_option maxHeartbeats 8000000
theorem oddTo_ok {G:List (List Int)} (hok:GraphOk G):∀ k,k≤G.length→oddTo G k<0
 | 0,_=>by simp [oddTo]
 | k+1,hk=>oddTo_miss (oddTo_ok hok k (by omega)) fun t ht=>by
  have:=hok k (by omega) t ht
  simp [oddT]; omega
theorem checkG_ok {G:List (List Int)} (h1:G.length≤8192) (h2:arrowsTo G G.length≤262144) (hok:GraphOk G):checkG G=none:=by
 unfold checkG
 rw [if_neg (by omega),if_neg (by omega),if_neg (by have:=oddTo_ok hok G.length (Nat.le_refl _); omega)]
section
variable {K N:Nat} {T:List Int}
theorem pairG_len:(pairG K N T).length=N*N:=rowsOf_len _ _
theorem pairG_row {p:Nat} (hp:p<N*N):(pairG K N T).getD p []=castI (pairL K N T p):=rowsOf_get _ _ _ hp
theorem pairG_adj {p:Nat} (hp:p<N*N):adjOf (pairG K N T) p=pairL K N T p:=by
 unfold adjOf
 rw [pairG_row hp,castI,List.map_map]
 exact List.map_id _
theorem pairG_ok (hN:0<N):GraphOk (pairG K N T):=by
 intro v hv t ht
 rw [pairG_len] at hv
 rw [pairG_row hv] at ht
 obtain ⟨q,hq,rfl⟩:=List.mem_map.1 ht
 have:=((mem_pairL hN).1 hq).lt hN
 rw [pairG_len]
 omega
theorem pairG_arrows:∀ k,k≤N*N→arrowsTo (pairG K N T) k≤k*(K*K)
 | 0,_=>by simp [arrowsTo]
 | k+1,hk=>by
  have:=pairG_arrows k (by omega)
  simp only [arrowsTo]
  rw [pairG_row (by omega),castI_len,Nat.add_mul]
  have:=pairL_len K N T k
  omega
theorem pairG_check (hN:0<N) (hN81:N≤81) (hNK:N*K≤256):checkG (pairG K N T)=none:=by
 refine checkG_ok ?_ ?_ (pairG_ok hN)
 ·rw [pairG_len]; have:=Nat.mul_le_mul hN81 hN81; omega
 ·rw [pairG_len]
  have:=pairG_arrows (K:=K) (N:=N) (T:=T) (N*N) (Nat.le_refl _)
  have h2:=Nat.mul_le_mul hNK hNK
  rw [show N*K*(N*K)=N*N*(K*K) by rw [Nat.mul_assoc,Nat.mul_left_comm K,← Nat.mul_assoc]] at h2
  omega
theorem pairG_goes (hN:0<N) {x y:Nat} (h:Goes (pairL K N T) x y) (hx:x<N*N):Goes (adjOf (pairG K N T)) x y∧y<N*N:=by
 induction h with
 | refl=>exact ⟨.refl _,hx⟩
 | step h hz ih =>
  exact ⟨.step ih.1 (by rw [pairG_adj ih.2]; exact hz),((mem_pairL hN).1 hz).lt hN⟩
end
theorem diag_live {K R:Nat} {T:List Int} {u:Nat} (hK:1≤K) (hu:u<pw K (2*R)):IsLive (pw K (2*R)*pw K (2*R)) (adjOf (pairG K (pw K (2*R)) T)) (u*pw K (2*R)+u):=by
 have hp:=pair_lt hu hu
 have hN:0<pw K (2*R):=by omega
 have ht:=toN_lt (K:=K) (u:=u) (s:=0) hN
 have hl:OnLoop (adjOf (pairG K (pw K (2*R)) T)) (u*pw K (2*R)+u) :=
  ⟨toN K (pw K (2*R)) u 0*pw K (2*R)+toN K (pw K (2*R)) u 0,by rw [pairG_adj hp]; exact diag_arr hu hK,(pairG_goes hN (diag_goes hK ht hu) (pair_lt ht ht)).1⟩
 exact ⟨⟨_,hp,hl,.refl _⟩,⟨_,hp,hl,.refl _⟩⟩
theorem pgraph_bad (r:Nat→Addr) (k R:Int) (va:Option Addr) (vn vc:Nat) (T:List Int) (t:Int×List (ByteArray×Int)) (w:World) (hg:Glob r w) (h:IntsAt w (.slice va vn vc) T) (hc:smallP k R T=some t) :
 Calls Tryz.prog 51 #[.agg #[.int .i64 k,.int .i64 R,.slice va vn vc]] w (Ret2 (fun x y w'=>x=.slice none 0 0∧ErrIs r w' (under sPairs 0 (some t)) y) w):=by
 have b0:=belowAlloc w (.cells #[.int .i64 k,.int .i64 R,.slice va vn vc] 24)
 replace hg:=Hd (hg.below b0)
 replace h:=Hd (h.below b0)
 replace hc:=Hd hc
 go_enter Tryz.func51,Tryz.ntmps51
 go_wp2_with fail
 refine (working_bad r k R va vn vc T t _ hg.out h.out hc.out).mono ?_
 rintro e w1 ⟨x,y,rfl,b1,rfl,hy⟩
 obtain ⟨T2,a2,rfl⟩:∃ T a,y=.iface T (.pointer (some a)):=by
  unfold under at hy
  exact ErrIs.some_shape hy
 have ba:=belowAlloc w1 (.cells #[.int .i64 0,.int .i64 0,.slice none 0 0] 24)
 have hy2:=hy.below ba
 replace hy:=Hd hy
 replace hy2:=Hd hy2
 go_wp2
 go_ret2
 exact ⟨_,_,rfl,Below.step b0 (Below.step b1 ba),rfl,hy2.out⟩
theorem papart_ok (r:Nat→Addr) (K R:Nat) (va:Option Addr) (vn vc:Nat) (T:List Int) (w:World) (hg:Glob r w) (h:IntsAt w (.slice va vn vc) T) (hr:RuleOk K R T) (hl:T.length≤256) :
 Calls Tryz.prog 53 #[.agg #[.int .i64 K,.int .i64 R,.slice va vn vc]] w (Ret2 (fun x y w'=>y=.nilIface∧∃ L,LiveList (pw K (2*wkR R)*pw K (2*wkR R)) (adjOf (pairG K (pw K (2*wkR R)) (wkT K R T))) L∧OwnI w.heap.size w' x (castI (L.filter fun p=>!decide (Diag (pw K (2*wkR R)) p)))) w):=by
 have b0:=belowAlloc w (.cells #[.int .i64 K,.int .i64 R,.slice va vn vc] 24)
 have q:Box3 (w.alloc (.cells #[.int .i64 K,.int .i64 R,.slice va vn vc] 24)) w.heap.size (.int .i64 K) (.int .i64 R) (.slice va vn vc):=by simp [Box3,go_sem]
 have hk1:=hr.k1
 have hk4:=hr.k4
 have hokW:=wk_ok hr
 have hlW:=wk_small hr hl
 have hRW:=wk_pos R
 have hN81:=nodes_le hokW hRW hlW
 obtain ⟨hdiv,hlen⟩:=hokW.half
 have hN1:=pw_pos (K:=K) (2*wkR R) hk1
 have hNK:pw K (2*wkR R)*K≤256:=by rw [← hlen]; exact hlW
 have hck:=pairG_check (K:=K) (N:=pw K (2*wkR R)) (T:=wkT K R T) (by omega) hN81 hNK
 have hlive0:=diag_live (K:=K) (R:=wkR R) (T:=wkT K R T) (u:=0) hk1 (by omega)
 have hgraph:=fun (w':World) (hgl:Glob r w') (hT:IntsAt w' (.slice va vn vc) T)=>pgraph_ok r K R va vn vc T w' hgl hT hr hl
 have hwork:=fun (w':World) (hgl:Glob r w') (hT:IntsAt w' (.slice va vn vc) T)=>working_ok r K R va vn vc T w' hgl hT hr hl
 have hNodes:=fun (a:Option Addr) (n c:Nat) (w':World) (hgl:Glob r w') (hT:IntsAt w' (.slice a n c) (wkT K R T))=>over_Nodes r K (wkR R) a n c (wkT K R T) w' hgl hT hokW hlW
 rw [hdiv] at hNodes
 generalize pw K (2*wkR R)=N at *
 generalize wkT K R T=T' at *
 generalize wkR R=R' at *
 rw [Nat.zero_mul,Nat.zero_add] at hlive0
 replace hgraph:=Hd hgraph
 replace hwork:=Hd hwork
 replace hNodes:=Hd hNodes
 replace hck:=Hd hck
 replace hlive0:=Hd hlive0
 replace hg:=Hd (hg.below b0)
 replace h:=Hd (h.below b0)
 replace hokW:=Hd hokW
 replace hr:=Hd hr
 replace hdiv:=Hd hdiv
 replace hlen:=Hd hlen
 go_enter Tryz.func53,Tryz.ntmps53
 go_wp2_with fail
 refine (hgraph.out _ hg.out h.out).mono ?_
 rintro e w1 ⟨gv,y,rfl,b1,rfl,f,vals,hrows,hwn⟩
 have hL:ListsAt w1 gv (pairG K N T'):=hwn.lists hrows
 obtain ⟨ga,gc,rfl⟩:=hL.shape
 have hsz:∀ k,k<(pairG K N T').length→((pairG K N T').getD k []).length≤17592186044416:=fun k hk=>by
  rw [pairG_len] at hk
  rw [pairG_row hk,castI_len]
  have:=pairL_len K N T' k
  have:=Nat.mul_le_mul hk4 hk4
  omega
 have hM6:N*N≤6561:=Nat.mul_le_mul hN81 hN81
 replace hrows:=Hd hrows
 replace hwn:=Hd hwn
 replace hL:=Hd hL
 replace hsz:=Hd hsz
 go_wp2_with fail
 refine (live_any r ga gc (pairG K N T') w1 (hg.out.below b1) hL.out hsz.out).mono ?_
 rintro e w2 ⟨lv,y,rfl,b2,he,hls,_⟩
 rw [hck.out] at he hls
 obtain rfl:=he.none_eq
 obtain ⟨L,hLL,ho⟩:=hls rfl
 rw [pairG_len] at hLL
 clear hls he
 have b12:=Below.step b1 b2
 have q2:=q.below b12
 obtain ⟨⟨z0,z1,z2⟩,-,-,-⟩:=q2
 replace hLL:=Hd hLL
 replace ho:=Hd ho
 go_wp2_with fail
 refine (hwork.out w2 (hg.out.below b12) (h.out.below b12)).mono ?_
 rintro e w3 ⟨x,y,rfl,b3,rfl,a,n,c,rfl,hT3⟩
 clear z0 z1 z2
 have b13:=Below.step b12 b3
 have ba:=belowAlloc w3 (.cells #[.int .i64 K,.int .i64 R',.slice a n c] 24)
 have b14:=Below.step b13 ba
 have hT4:=hT3.below ba
 replace hT3:=Hd hT3
 replace hT4:=Hd hT4
 go_wp2_with fail
 refine (hNodes.out a n c _ (hg.out.below b14) hT4.out).mono ?_
 rintro e w5 ⟨x,y,rfl,b5,rfl,rfl⟩
 have b15:=Below.step b14 b5
 have bb:=belowAlloc w5 (.cells #[.int .i64 N] 3)
 have b16:=Below.step b15 bb
 have b26:=Below.step b3 (Below.step ba (Below.step b5 bb))
 have ho6:=ho.out.below b26
 have cN:(w5.alloc (.cells #[.int .i64 N] 3)).cell? ⟨w5.heap.size,0,none⟩=some (.int .i64 N):=by simp [go_sem]
 have hne:lv.ownBlock≠some w5.heap.size:=fun e=>by
  have h1:=(ho.out.lt _ e).2
  have h2:=(Below.step b3 (Below.step ba b5)).size
  omega
 have hLne:castI L≠[]:=fun e=>by
  have:L=[]:=by cases L with | nil=>rfl | cons a l=>simp [castI] at e
  have h0:=(hLL.out.mem 0).2 ⟨by have:=Nat.mul_le_mul hN1 hN1; omega,hlive0.out⟩
  rw [this] at h0; cases h0
 replace ho6:=Hd ho6
 replace hne:=Hd hne
 replace hLne:=Hd hLne
 replace cN:=Hd cN
 go_wp2_with fail
 refine (delete_own w1.heap.size lv (castI L) w5.heap.size N _ ho6.out hLne.out hN1 cN.out hne.out).mono ?_
 rintro e w7 ⟨x,rfl,_,ho7,b7⟩
 have hF:(castI L).filter (fun x=>!dgI N x)=castI (L.filter fun p=>!decide (Diag N p)):=by
  unfold castI
  rw [List.filter_map]
  congr 1
  refine List.filter_congr fun p hp=>?_
  have:=((hLL.out.mem p).1 hp).1
  show (!dgI N (p:Int))=_
  rw [dgI_nat (by omega)]
 rw [hF] at ho7
 obtain ⟨xa,xn,xc,rfl⟩:=ho7.at.shape
 have ho8:=ho7.mono (B':=w.heap.size) (Nat.le_trans b0.size b1.size)
 have bE:=(Below.step b0 b1).trans ((Below.step b2 b26).trans b7 |>.mono (Nat.le_trans b0.size b1.size))
 replace ho7:=Hd ho7
 replace ho8:=Hd ho8
 replace hF:=Hd hF
 go_wp2
 go_ret2
 exact ⟨_,_,rfl,bE,rfl,L,hLL.out,ho8.out⟩
end Go.Proofs.YtkaoebokbfcmhaaGreatDoor
namespace Go.Proofs.YtkaoebokbfcmhaaGreatDoor
def LiveP (n:Nat) (adj:Nat→List Nat) (v:Nat):Prop:=(∃ u,u<n∧(∃ t∈adj u,Goes adj t u)∧Goes adj u v)∧∃ u,u<n∧(∃ t∈adj u,Goes adj t u)∧Goes adj v u
def Steps (adj:Nat→List Nat) (l:List Nat):Prop:=∀ i,i+1<l.length→l.getD (i+1) 0∈adj (l.getD i 0)
theorem getD_left {l:List Nat} {y i:Nat} (h:i<l.length):(l++[y]).getD i 0=l.getD i 0:=by
 rw [List.getD_eq_getElem?_getD,List.getElem?_append_left h,← List.getD_eq_getElem?_getD]
theorem getD_last {l:List Nat} {y i:Nat} (h:i=l.length):(l++[y]).getD i 0=y:=by
 subst h; simp [List.getD]
theorem Steps.snoc {adj:Nat→List Nat} {l:List Nat} {x y:Nat} (h:Steps adj l) (hx:l.getD (l.length-1) 0=x) (hy:y∈adj x):Steps adj (l++[y]):=by
 intro i hi
 simp only [List.length_append,List.length_singleton] at hi
 by_cases e:i+1=l.length
 ·rw [getD_last e,getD_left (by omega),show i=l.length-1 by omega,hx]; exact hy
 ·rw [getD_left (by omega),getD_left (by omega)]; exact h i (by omega)
theorem Goes.head {adj:Nat→List Nat} {x z:Nat} (h:Goes adj x z):x=z∨∃ y∈adj x,Goes adj y z:=by
 induction h with
 | refl=>exact .inl rfl
 | step h hz ih =>
  rcases ih with rfl | ⟨t,ht,hg⟩
  ·exact .inr ⟨_,hz,.refl _⟩
  ·exact .inr ⟨t,ht,.step hg hz⟩
theorem ways_into {M:Nat} {adj:Nat→List Nat} (hc:∀ x,x<M→∀ t∈adj x,t<M) (a:Nat):∀ v,(∃ u,u<M∧(∃ t∈adj u,Goes adj t u)∧Goes adj u v) →
 ∃ l,l.length=a+1∧l.getD a 0=v∧Steps adj l∧∀ x∈l,x<M:=by
 have low:∀ {u v},u<M→Goes adj u v→v<M:=fun hu h=>Goes.closed (P:=(·<M)) hc h hu
 induction a with
 | zero =>
  rintro v ⟨u,hu,_,hg⟩
  exact ⟨[v],rfl,rfl,fun i hi=>by simp at hi,fun x hx=>by rw [List.mem_singleton] at hx; subst hx; exact low hu hg⟩
 | succ a ih =>
  rintro v ⟨u,hu,hl,hg⟩
  have hv:=low hu hg
  have key:∃ y,v∈adj y∧∃ u,u<M∧(∃ t∈adj u,Goes adj t u)∧Goes adj u y:=by
   cases hg with
   | refl =>
    obtain ⟨t,ht,hgt⟩:=hl
    cases hgt with
    | refl=>exact ⟨_,ht,_,hu,⟨_,ht,.refl _⟩,.refl _⟩
    | step h2 hz=>exact ⟨_,hz,_,hu,⟨t,ht,.step h2 hz⟩,(Goes.one ht).trans h2⟩
   | step h2 hz=>exact ⟨_,hz,_,hu,hl,h2⟩
  obtain ⟨y,hy,hu2⟩:=key
  obtain ⟨l,l1,l2,l3,l4⟩:=ih y hu2
  refine ⟨l++[v],by simp [l1],getD_last l1.symm,l3.snoc (by rw [l1,Nat.add_sub_cancel]; exact l2) hy,fun x hx=>?_⟩
  rcases List.mem_append.1 hx with hx | hx
  ·exact l4 x hx
  ·rw [List.mem_singleton] at hx; subst hx; exact hv
theorem ways_through {M:Nat} {adj:Nat→List Nat} (hc:∀ x,x<M→∀ t∈adj x,t<M) {v:Nat} (h:LiveP M adj v) (a m:Nat) :
 ∃ l,l.length=a+1+m∧l.getD a 0=v∧Steps adj l∧(∀ x∈l,x<M)∧∃ u,u<M∧(∃ t∈adj u,Goes adj t u)∧Goes adj (l.getD (a+m) 0) u:=by
 induction m with
 | zero =>
  obtain ⟨l,l1,l2,l3,l4⟩:=ways_into hc a v h.1
  exact ⟨l,l1,l2,l3,l4,by rw [Nat.add_zero,l2]; exact h.2⟩
 | succ m ih =>
  obtain ⟨l,l1,l2,l3,l4,u,hu,ht,hg⟩:=ih
  obtain ⟨x,hx⟩:∃ x,l.getD (a+m) 0=x:=⟨_,rfl⟩
  have hxM:x<M:=l4 x (by rw [← hx,List.getD_eq_getElem?_getD,List.getElem?_eq_getElem (by omega),Option.getD_some]; exact List.getElem_mem _)
  rw [hx] at hg
  have key:∃ y∈adj x,∃ u,u<M∧(∃ t∈adj u,Goes adj t u)∧Goes adj y u:=by
   rcases hg.head with rfl | ⟨y,hy,hg2⟩
   ·obtain ⟨t,ht1,ht2⟩:=ht
    exact ⟨t,ht1,x,hu,⟨t,ht1,ht2⟩,ht2⟩
   ·exact ⟨y,hy,u,hu,ht,hg2⟩
  obtain ⟨y,hy,hu2⟩:=key
  refine ⟨l++[y],by simp [l1]; omega,by rw [getD_left (by omega)]; exact l2,l3.snoc (by rw [l1,show a+1+m-1=a+m by omega]; exact hx) hy,fun z hz=>?_,?_⟩
  ·rcases List.mem_append.1 hz with hz | hz
   ·exact l4 z hz
   ·rw [List.mem_singleton] at hz; subst hz; exact hc x hxM z hy
  ·rw [getD_last (by omega)]; exact hu2
theorem node_ne {K m:Nat} {x y:List Int} {i:Nat} (hx:i+m≤x.length) (hy:i+m≤y.length) (h:nodeAt K m x i≠nodeAt K m y i):∃ j,j<m∧x.getD (i+j) 0≠y.getD (i+j) 0:=by
 apply Classical.byContradiction
 intro q
 apply h
 unfold nodeAt
 congr 1
 refine ext_getD (by simp; omega) fun t ht=>?_
 have ht2:t<m:=by simp only [List.length_take] at ht; omega
 rw [sub_get ht2,sub_get ht2]
 exact Classical.byContradiction fun q2=>q ⟨t,ht2,q2⟩
theorem pairL_closed {K N:Nat} (hN:0<N) {T:List Int}:∀ x,x<N*N→∀ t∈pairL K N T x,t<N*N:=fun _ _ _ ht=>((mem_pairL hN).1 ht).lt hN
theorem notOne_of_live {K R:Nat} {T:List Int} (h:RuleOk K R T) (hR:1≤R) {p:Nat} (hp:LiveP (pw K (2*R)*pw K (2*R)) (pairL K (pw K (2*R)) T) p) (hd:¬ Diag (pw K (2*R)) p):NotOne K R T:=by
 intro n
 have hK:=h.k1
 have hN:=pw_pos (K:=K) (2*R) hK
 obtain ⟨l,l1,l2,l3,l4,-⟩:=ways_through (pairL_closed (by omega)) hp n n
 have low:∀ i,i<l.length→l.getD i 0<pw K (2*R)*pw K (2*R):=fun i hi=>l4 _ (by
  rw [List.getD_eq_getElem?_getD,List.getElem?_eq_getElem hi,Option.getD_some]; exact List.getElem_mem _)
 obtain ⟨hn,hi⟩:=ways_words hK hR (by omega) low l3
 have la:=alongW_len K (2*R) (·/pw K (2*R)) l
 have lb:=alongW_len K (2*R) (·%pw K (2*R)) l
 obtain ⟨e1,e2⟩:=hn n (by omega)
 rw [l2] at e1 e2
 obtain ⟨j,hj,hne⟩:=node_ne (K:=K) (m:=2*R) (x:=alongW K (2*R) (·/pw K (2*R)) l) (y:=alongW K (2*R) (·%pw K (2*R)) l) (i:=n) (by omega) (by omega) (by rw [e1,e2]; exact hd)
 exact split_img (alongW_syms hK _ _) (alongW_syms hK _ _) (by omega) (j:=n+j) (by omega) (by omega) hne hi
theorem pigeon {M:Nat} {f:Nat→Nat} (h:∀ i,i≤M→f i<M):∃ i j,i<j∧j≤M∧f i=f j:=by
 apply Classical.byContradiction
 intro q
 have hn:((List.range (M+1)).map f).Nodup:=by
  refine List.pairwise_map.2 (List.Pairwise.imp_of_mem ?_ List.pairwise_lt_range)
  intro a b ha hb hab e
  exact q ⟨a,b,hab,by have:=List.mem_range.1 hb; omega,e⟩
 have hs:(List.range (M+1)).map f ⊆ List.range M:=fun y hy=>by
  obtain ⟨i,hi,rfl⟩:=List.mem_map.1 hy
  exact List.mem_range.2 (h i (by have:=List.mem_range.1 hi; omega))
 have:=nodup_sub hn hs
 simp at this
 omega
theorem goes_along {adj:Nat→List Nat} {f:Nat→Nat} {a:Nat}:∀ d,(∀ k,a≤k→k<a+d→f (k+1)∈adj (f k))→Goes adj (f a) (f (a+d))
 | 0,_=>.refl _
 | d+1,h=>.step (goes_along d fun k h1 h2=>h k h1 (by omega)) (h (a+d) (by omega) (by omega))
theorem live_of_notOne {K R:Nat} {T:List Int} (h:RuleOk K R T) (hR:1≤R) (ho:NotOne K R T):∃ p,p<pw K (2*R)*pw K (2*R)∧LiveP (pw K (2*R)*pw K (2*R)) (pairL K (pw K (2*R)) T) p∧¬ Diag (pw K (2*R)) p:=by
 have hK:=h.k1
 have hN:=pw_pos (K:=K) (2*R) hK
 obtain ⟨M,hM⟩:∃ M,pw K (2*R)*pw K (2*R)=M:=⟨_,rfl⟩
 obtain ⟨n,hn⟩:∃ n,M+2*R=n:=⟨_,rfl⟩
 obtain ⟨x,y,sx,sy,lx,ly,hne,e⟩:=ho n
 obtain ⟨f,hf⟩:∃ f:Nat→Nat,f=fun i=>nodeAt K (2*R) x i*pw K (2*R)+nodeAt K (2*R) y i:=⟨_,rfl⟩
 have nx:∀ i,i+2*R≤2*n+1→nodeAt K (2*R) x i<pw K (2*R):=fun i hi=>node_lt sx (by omega)
 have ny:∀ i,i+2*R≤2*n+1→nodeAt K (2*R) y i<pw K (2*R):=fun i hi=>node_lt sy (by omega)
 have low:∀ i,i+2*R≤2*n+1→f i<M:=fun i hi=>by rw [hf,← hM]; exact pair_lt (nx i hi) (ny i hi)
 have step:∀ i,i+1+2*R≤2*n+1→f (i+1)∈pairL K (pw K (2*R)) T (f i):=fun i hi=>by
  rw [mem_pairL (by omega),hf]
  show Arr K _ T ((nodeAt K (2*R) x i*pw K (2*R)+nodeAt K (2*R) y i)/pw K (2*R)) ((nodeAt K (2*R) x i*pw K (2*R)+nodeAt K (2*R) y i)%pw K (2*R)) _
  rw [pair_div (ny i (by omega)),pair_mod (ny i (by omega))]
  exact wayW_arr sx sy (by omega) e (by omega)
 have goes:∀ a b,a≤b→b+2*R≤2*n+1→Goes (pairL K (pw K (2*R)) T) (f a) (f b):=fun a b hab hb=>by
  obtain ⟨d,rfl⟩:∃ d,b=a+d:=⟨b-a,by omega⟩
  exact goes_along d fun k _ _=>step k (by omega)
 refine ⟨f n,by rw [hM]; exact low n (by omega),⟨?_,?_⟩,?_⟩
 ·obtain ⟨i,j,hij,hj,eij⟩:=pigeon (M:=M) (f:=f) fun i hi=>low i (by omega)
  exact ⟨f i,by rw [hM]; exact low i (by omega),⟨f (i+1),step i (by omega),by rw [eij]; exact goes _ _ (by omega) (by omega)⟩,goes _ _ (by omega) (by omega)⟩
 ·obtain ⟨i,j,hij,hj,eij⟩:=pigeon (M:=M) (f:=fun i=>f (n+i)) fun i hi=>low (n+i) (by omega)
  exact ⟨f (n+i),by rw [hM]; exact low _ (by omega),⟨f (n+i+1),step _ (by omega),by show Goes _ _ (f (n+i)); rw [show f (n+i)=f (n+j) from eij]; exact goes _ _ (by omega) (by omega)⟩,goes _ _ (by omega) (by omega)⟩
 ·intro hd
  unfold Diag at hd
  rw [hf] at hd
  dsimp only at hd
  rw [pair_div (ny n (by omega)),pair_mod (ny n (by omega))] at hd
  have e1:=digs_numW hK _ (syms_take (syms_drop sx n) (2*R))
  have e2:=digs_numW hK _ (syms_take (syms_drop sy n) (2*R))
  rw [show ((x.drop n).take (2*R)).length=2*R by simp; omega] at e1
  rw [show ((y.drop n).take (2*R)).length=2*R by simp; omega] at e2
  have e3:(x.drop n).take (2*R)=(y.drop n).take (2*R):=by rw [← e1,← e2]; exact congrArg (digs K (2*R)) hd
  have e4:((x.drop n).take (2*R)).getD 0 0=((y.drop n).take (2*R)).getD 0 0:=by rw [e3]
  rw [sub_get (by omega),sub_get (by omega),Nat.add_zero] at e4
  exact hne e4
open Go.RowKit
def sTwins:ByteArray:=⟨#[116,119,105,110,115]⟩
def Ret4 (Φ:Value→Value→Value→Value→World→Prop) (w:World) (e:Ending) (w':World):Prop:=∃ x y z u,e=.returned (.tuple #[x,y,z,u])∧Below w.heap.size w w'∧Φ x y z u w'
theorem results_tmp4 {fn:Func} {t u v x:Tmp} (h:fn.results=#[.tmp t,.tmp u,.tmp v,.tmp x]) (tmps:Array Value) (P:Program) (w:World) :
 (results fn tmps).run P w=.ok (.tuple #[tmps.getD t undef,tmps.getD u undef,tmps.getD v undef,tmps.getD x undef]) w:=by
 simp [results,h]
end Go.Proofs.YtkaoebokbfcmhaaGreatDoor
