/-
  Texts that the proof leans on.
-/
import Derived.Test.YtindfaehjoileaaGreatDoorMSn7
import Derived.WalkArith
import Derived.Deep.LoopGhost
import Derived.Deep.DeepCutAuto
namespace Go.Proofs.YtindfaehjoileaaGreatDoor
open Go.RowKit
set_option maxRecDepth 100000
set_option maxHeartbeats 8000000
def names0:Names:=fun i=>if i=(3,0) then some (rowI (.slice none 0 0) []) else if i=(5,0) then some ⟨451,2,.slice none 0 0,0,[]⟩ else none
theorem rows0 (B:Nat) (w:World):Rows B w names0:=by
 refine ⟨fun i r hi=>?_,fun i j r s hi hj hne=>?_⟩
 ·unfold names0 at hi
  split at hi
  ·injection hi with hi; subst hi; exact OwnI.nil B w
  ·split at hi
   ·injection hi with hi; subst hi; exact World.ownsRow_nil w B _ 2
   ·cases hi
 ·left
  unfold names0 at hi
  split at hi
  ·injection hi with hi; subst hi; rfl
  ·split at hi
   ·injection hi with hi; subst hi; rfl
   ·cases hi
theorem tab_zero (n:Nat):tab n (fun _=>0)=List.replicate n 0:=by
 unfold tab; apply List.ext_getElem<;>simp
theorem tabI_neg (n:Nat):tabI n (fun _=>-1)=List.replicate n (-1):=by
 unfold tabI; apply List.ext_getElem<;>simp
theorem search_box {B:Nat} {W:World} {f:Names} {na:Option Addr} {gl nc n:Nat} {lv fv pv:Value} (hr:Rows B W f) (hB:B≤W.heap.size)
 (h1:f (1,0)=some (rowI lv (List.replicate n 0))) (h2:f (2,0)=some (rowI fv (List.replicate n 0))) (h4:f (4,0)=some (rowI pv (List.replicate n (-1))))
 (h3:f (3,0)=some (rowI (.slice none 0 0) [])) (h5:f (5,0)=some ⟨451,2,.slice none 0 0,0,[]⟩) :
 Rows B (W.alloc (.cells #[.slice na gl nc,lv,fv,.slice none 0 0,pv,.slice none 0 0,.int .i64 0] 435)) (upd f (0,0) (some ⟨435,7,.slice (some ⟨W.heap.size,0,none⟩) 1 1,1,[.slice na gl nc,lv,fv,.slice none 0 0,pv,.slice none 0 0,.int .i64 0]⟩)) ∧
  SN (upd f (0,0) (some ⟨435,7,.slice (some ⟨W.heap.size,0,none⟩) 1 1,1,[.slice na gl nc,lv,fv,.slice none 0 0,pv,.slice none 0 0,.int .i64 0]⟩)) W.heap.size (.slice na gl nc) lv fv pv (.slice none 0 0) (.slice none 0 0) n initS:=by
 refine ⟨hr.add (belowAlloc W _) ⟨rfl,.inr ⟨W.heap.size,1,_,rfl,hB,heap_alloc_new W _,Nat.le_refl _,by unfold maxLen; omega,rfl,rfl⟩⟩ (fun k hk=>by cases hk; exact Nat.le_refl _),⟨upd_same _ _ _,?_,?_,?_,?_,?_⟩⟩
 ·rw [upd_ne _ _ (by simp),h1]; show _=some (rowI lv (tab n fun _=>0)); rw [tab_zero]
 ·rw [upd_ne _ _ (by simp),h2]; show _=some (rowI fv (tab n fun _=>0)); rw [tab_zero]
 ·rw [upd_ne _ _ (by simp),h3]; rfl
 ·rw [upd_ne _ _ (by simp),h4]; show _=some (rowI pv (tabI n fun _=>-1)); rw [tabI_neg]
 ·rw [upd_ne _ _ (by simp),h5]; rfl
def PartsPost (r:Nat→Addr) (w:World) (G:List (List Int)) (x y:Value) (w':World):Prop :=
 ErrIs r w' (checkG G) y∧(checkG G=none→∃ ps,PartsOf G.length (adjOf G) ps∧OwnI w.heap.size w' x ps)∧(checkG G≠none→x=.slice none 0 0)
theorem parts_any (r:Nat→Addr) (na:Option Addr) (nc:Nat) (G:List (List Int)) (w:World) (hg:Glob r w) (h:ListsAt w (.slice na G.length nc) G) (hsz:∀ k,k<G.length→(G.getD k []).length≤17592186044416) :
 Calls Tryz.prog 337 #[.slice na G.length nc] w (Ret2 (PartsPost r w G) w):=by
 have hC:=graph_check r na nc G w hg h hsz
 cases hck:checkG G with
 | some t =>
  rw [hck] at hC
  replace hck:=Hd hck
  replace h:=Hd h
  replace hg:=Hd hg
  replace hsz:=Hd hsz
  go_enter Tryz.func337,Tryz.ntmps337
  go_wp2_with fail
  refine hC.mono ?_
  rintro e w1 ⟨y,rfl,b1,he⟩
  obtain ⟨T,a,rfl⟩:=he.some_shape
  replace he:=Hd he
  go_wp2
  go_ret2
  exact ⟨_,_,rfl,b1,⟨by rw [hck.out]; exact he.out,⟨fun q=>(by rw [hck.out] at q; cases q),fun _=>rfl⟩⟩⟩
 | none =>
  rw [hck] at hC
  obtain ⟨hn,harr,hok⟩:=checkG_none hck
  replace hck:=Hd hck
  replace h:=Hd h
  replace hg:=Hd hg
  replace hsz:=Hd hsz
  replace hok:=Hd hok
  go_enter Tryz.func337,Tryz.ntmps337
  go_wp2_with fail
  refine hC.mono ?_
  rintro e w1 ⟨y,rfl,b1,he⟩
  obtain rfl:=he.none_eq
  clear he hC
  go_upto_region 5 with fail
  go_cut [6] from 14 (fun s6 wx=>∃ d f lv fv pv,s6=.pointer (some ⟨d,0,none⟩)∧Below w1.heap.size w1 wx∧Rows w1.heap.size wx f∧SN f d (.slice na G.length nc) lv fv pv (.slice none 0 0) (.slice none 0 0) G.length initS)
  case first =>
   obtain ⟨W0,hW0⟩:∃ W0:World,W0=w1.drew:=⟨_,rfl⟩
   have b0:Below w1.heap.size w1 W0:=by rw [hW0]; exact (Below.refl _ _).drew
   have R0:=rows0 w1.heap.size W0
   have hB0:=b0.size
   refine wp_region_noPanic ?_
   refine wp_region_any (by kernel_rfl) ?_
   change wpAny _ _ _ _ _ _ _ (World.drew _)
   rw [← hW0]
   clear hW0
   refine pqA 0 21 ?_
   refine pqA 1 22 ?_
   refine pqA 3 24 ?_
   refine pqA 6 27 ?_
   refine wpAny_ready (rs:=[2,4,5]) (by kernel_rfl) (by simp) (AllReady.cons rfl (fun KK hK=>?_) (AllReady.cons rfl (fun KK hK=>?_) (AllReady.cons rfl (fun KK hK=>?_) (AllReady.nil))))
   ·obtain ⟨lv,W1,mk,ho,hb⟩:=run_makeI (G.length:Int) G.length W0 rfl (by omega)
    obtain ⟨lva,lvn,lvc,rfl⟩:=ho.at.shape
    go_simp
    refine hK _ _ ?_
    clear hK KK mk
    have R1:=R0.add (i:=(1,0)) (r':=rowI (.slice lva lvn lvc) (List.replicate G.length 0)) hb (ho.mono hB0) (fun k hk=>(ho.lt k hk).1)
    have b1:=b0.trans (hb.mono hB0)
    have hB1:=Nat.le_trans hB0 hb.size
    clear ho hb R0
    refine wpAny_ready (rs:=[4,5]) (by kernel_rfl) (by simp) (AllReady.cons rfl (fun KK hK=>?_) (AllReady.cons rfl (fun KK hK=>?_) (AllReady.nil)))
    ·obtain ⟨fv,W2,mk,ho,hb⟩:=run_makeI (G.length:Int) G.length W1 rfl (by omega)
     obtain ⟨fva,fvn,fvc,rfl⟩:=ho.at.shape
     go_simp
     refine hK _ _ ?_
     clear hK KK mk
     have R2:=R1.add (i:=(2,0)) (r':=rowI (.slice fva fvn fvc) (List.replicate G.length 0)) hb (ho.mono hB1) (fun k hk=>(ho.lt k hk).1)
     have b2:=b1.trans (hb.mono hB1)
     have hB2:=Nat.le_trans hB1 hb.size
     clear ho hb R1
     refine wpAny_ready (rs:=[5]) (by kernel_rfl) (by simp) (AllReady.cons rfl (fun KK hK=>?_) (AllReady.nil))
     ·go_simp
      refine hK _ _ ?_
      clear hK KK
      have hb:=belowAlloc W2 (.cells #[.int .i64 (-1)] 3)
      have hI3:=(OwnI.lit W2.heap.size W2 (Nat.le_refl _) [-1] (by simp [maxLen]) #[.int .i64 (-1)] rfl 1 rfl).at
      obtain ⟨W3,hW3⟩:∃ W3:World,W3=W2.alloc (.cells #[.int .i64 (-1)] 3):=⟨_,rfl⟩
      rw [← hW3]
      rw [← hW3] at hb hI3
      clear hW3
      have R3:=R2.below hb
      have b3:=b2.trans (hb.mono hB2)
      have hB3:=Nat.le_trans hB2 hb.size
      clear hb R2
      refine wpAny_ready (rs:=[7]) (by kernel_rfl) (by simp) (AllReady.cons rfl (fun KK hK=>?_) (AllReady.nil))
      ·go_simp
       refine (repeat_any _ (-1) G.length _ hI3 (by omega)).mono ?_
       rintro e W4 ⟨pv,rfl,hb,ho⟩
       obtain ⟨pva,pvn,pvc,rfl⟩:=ho.at.shape
       refine hK _ _ ?_
       clear hK KK
       have R4:=R3.add (i:=(4,0)) (r':=rowI (.slice pva pvn pvc) (List.replicate G.length (-1))) hb (ho.mono hB3) (fun k hk=>(ho.lt k hk).1)
       have b4:=b3.trans (hb.mono hB3)
       have hB4:=Nat.le_trans hB3 hb.size
       have hI4:=hI3.below hb
       clear ho hb R3 hI3
       refine pqA 8 29 ?_
       have Rb:=search_box (na:=na) (gl:=G.length) (nc:=nc) (n:=G.length) (lv:=.slice lva lvn lvc) (fv:=.slice fva fvn fvc) (pv:=.slice pva pvn pvc) R4 hB4 (by simp [upd]) (by simp [upd]) (by simp [upd]) (by simp [upd,names0]) (by simp [upd,names0])
       replace Rb:=Hd Rb
       replace R4:=Hd R4
       have bb:=b4.trans ((belowAlloc W4 (.cells #[.slice na G.length nc,.slice lva lvn lvc,.slice fva fvn fvc,.slice none 0 0,.slice pva pvn pvc,.slice none 0 0,.int .i64 0] 435)).mono hB4)
       refine wpAny_ready (rs:=[9]) (by kernel_rfl) (by simp) (AllReady.cons rfl (fun KK hK=>?_) AllReady.nil)
       go_simp
       refine hK _ _ ?_
       clear hK KK
       refine pqA 10 6 ?_
       refine wpAny_done (by kernel_rfl) ?_ _
       refine NoPanic.normal ?_
       go_wp2
       go_meet
       case rel=>exact ⟨_,_,_,_,_,rfl,bb,Rb.out.1,Rb.out.2⟩
    ·go_simp
     refine hK _ _ ?_
     clear hK KK
     have hb:=belowAlloc W1 (.cells #[.int .i64 (-1)] 3)
     have hI5:=(OwnI.lit W1.heap.size W1 (Nat.le_refl _) [-1] (by simp [maxLen]) #[.int .i64 (-1)] rfl 1 rfl).at
     obtain ⟨W5,hW5⟩:∃ W5:World,W5=W1.alloc (.cells #[.int .i64 (-1)] 3):=⟨_,rfl⟩
     rw [← hW5]
     rw [← hW5] at hb hI5
     clear hW5
     have R5:=R1.below hb
     have b5:=b1.trans (hb.mono hB1)
     have hB5:=Nat.le_trans hB1 hb.size
     clear hb R1
     refine wpAny_ready (rs:=[4,7]) (by kernel_rfl) (by simp) (AllReady.cons rfl (fun KK hK=>?_) (AllReady.cons rfl (fun KK hK=>?_) (AllReady.nil)))
     ·obtain ⟨fv,W6,mk,ho,hb⟩:=run_makeI (G.length:Int) G.length W5 rfl (by omega)
      obtain ⟨fva,fvn,fvc,rfl⟩:=ho.at.shape
      go_simp
      refine hK _ _ ?_
      clear hK KK mk
      have R6:=R5.add (i:=(2,0)) (r':=rowI (.slice fva fvn fvc) (List.replicate G.length 0)) hb (ho.mono hB5) (fun k hk=>(ho.lt k hk).1)
      have b6:=b5.trans (hb.mono hB5)
      have hB6:=Nat.le_trans hB5 hb.size
      have hI6:=hI5.below hb
      clear hI5
      clear ho hb R5
      refine wpAny_ready (rs:=[7]) (by kernel_rfl) (by simp) (AllReady.cons rfl (fun KK hK=>?_) (AllReady.nil))
      ·go_simp
       refine (repeat_any _ (-1) G.length _ hI6 (by omega)).mono ?_
       rintro e W7 ⟨pv,rfl,hb,ho⟩
       obtain ⟨pva,pvn,pvc,rfl⟩:=ho.at.shape
       refine hK _ _ ?_
       clear hK KK
       have R7:=R6.add (i:=(4,0)) (r':=rowI (.slice pva pvn pvc) (List.replicate G.length (-1))) hb (ho.mono hB6) (fun k hk=>(ho.lt k hk).1)
       have b7:=b6.trans (hb.mono hB6)
       have hB7:=Nat.le_trans hB6 hb.size
       have hI7:=hI6.below hb
       clear ho hb R6 hI6
       refine pqA 8 29 ?_
       have Rb:=search_box (na:=na) (gl:=G.length) (nc:=nc) (n:=G.length) (lv:=.slice lva lvn lvc) (fv:=.slice fva fvn fvc) (pv:=.slice pva pvn pvc) R7 hB7 (by simp [upd]) (by simp [upd]) (by simp [upd]) (by simp [upd,names0]) (by simp [upd,names0])
       replace Rb:=Hd Rb
       replace R7:=Hd R7
       have bb:=b7.trans ((belowAlloc W7 (.cells #[.slice na G.length nc,.slice lva lvn lvc,.slice fva fvn fvc,.slice none 0 0,.slice pva pvn pvc,.slice none 0 0,.int .i64 0] 435)).mono hB7)
       refine wpAny_ready (rs:=[9]) (by kernel_rfl) (by simp) (AllReady.cons rfl (fun KK hK=>?_) AllReady.nil)
       go_simp
       refine hK _ _ ?_
       clear hK KK
       refine pqA 10 6 ?_
       refine wpAny_done (by kernel_rfl) ?_ _
       refine NoPanic.normal ?_
       go_wp2
       go_meet
       case rel=>exact ⟨_,_,_,_,_,rfl,bb,Rb.out.1,Rb.out.2⟩
     ·go_simp
      refine (repeat_any _ (-1) G.length _ hI5 (by omega)).mono ?_
      rintro e W8 ⟨pv,rfl,hb,ho⟩
      obtain ⟨pva,pvn,pvc,rfl⟩:=ho.at.shape
      refine hK _ _ ?_
      clear hK KK
      have R8:=R5.add (i:=(4,0)) (r':=rowI (.slice pva pvn pvc) (List.replicate G.length (-1))) hb (ho.mono hB5) (fun k hk=>(ho.lt k hk).1)
      have b8:=b5.trans (hb.mono hB5)
      have hB8:=Nat.le_trans hB5 hb.size
      have hI8:=hI5.below hb
      clear ho hb R5 hI5
      refine wpAny_ready (rs:=[4]) (by kernel_rfl) (by simp) (AllReady.cons rfl (fun KK hK=>?_) (AllReady.nil))
      ·obtain ⟨fv,W9,mk,ho,hb⟩:=run_makeI (G.length:Int) G.length W8 rfl (by omega)
       obtain ⟨fva,fvn,fvc,rfl⟩:=ho.at.shape
       go_simp
       refine hK _ _ ?_
       clear hK KK mk
       have R9:=R8.add (i:=(2,0)) (r':=rowI (.slice fva fvn fvc) (List.replicate G.length 0)) hb (ho.mono hB8) (fun k hk=>(ho.lt k hk).1)
       have b9:=b8.trans (hb.mono hB8)
       have hB9:=Nat.le_trans hB8 hb.size
       have hI9:=hI8.below hb
       clear hI8
       clear ho hb R8
       refine pqA 8 29 ?_
       have Rb:=search_box (na:=na) (gl:=G.length) (nc:=nc) (n:=G.length) (lv:=.slice lva lvn lvc) (fv:=.slice fva fvn fvc) (pv:=.slice pva pvn pvc) R9 hB9 (by simp [upd]) (by simp [upd]) (by simp [upd]) (by simp [upd,names0]) (by simp [upd,names0])
       replace Rb:=Hd Rb
       replace R9:=Hd R9
       have bb:=b9.trans ((belowAlloc W9 (.cells #[.slice na G.length nc,.slice lva lvn lvc,.slice fva fvn fvc,.slice none 0 0,.slice pva pvn pvc,.slice none 0 0,.int .i64 0] 435)).mono hB9)
       refine wpAny_ready (rs:=[9]) (by kernel_rfl) (by simp) (AllReady.cons rfl (fun KK hK=>?_) AllReady.nil)
       go_simp
       refine hK _ _ ?_
       clear hK KK
       refine pqA 10 6 ?_
       refine wpAny_done (by kernel_rfl) ?_ _
       refine NoPanic.normal ?_
       go_wp2
       go_meet
       case rel=>exact ⟨_,_,_,_,_,rfl,bb,Rb.out.1,Rb.out.2⟩
   ·obtain ⟨fv,W10,mk,ho,hb⟩:=run_makeI (G.length:Int) G.length W0 rfl (by omega)
    obtain ⟨fva,fvn,fvc,rfl⟩:=ho.at.shape
    go_simp
    refine hK _ _ ?_
    clear hK KK mk
    have R10:=R0.add (i:=(2,0)) (r':=rowI (.slice fva fvn fvc) (List.replicate G.length 0)) hb (ho.mono hB0) (fun k hk=>(ho.lt k hk).1)
    have b10:=b0.trans (hb.mono hB0)
    have hB10:=Nat.le_trans hB0 hb.size
    clear ho hb R0
    refine wpAny_ready (rs:=[2,5]) (by kernel_rfl) (by simp) (AllReady.cons rfl (fun KK hK=>?_) (AllReady.cons rfl (fun KK hK=>?_) (AllReady.nil)))
    ·obtain ⟨lv,W11,mk,ho,hb⟩:=run_makeI (G.length:Int) G.length W10 rfl (by omega)
     obtain ⟨lva,lvn,lvc,rfl⟩:=ho.at.shape
     go_simp
     refine hK _ _ ?_
     clear hK KK mk
     have R11:=R10.add (i:=(1,0)) (r':=rowI (.slice lva lvn lvc) (List.replicate G.length 0)) hb (ho.mono hB10) (fun k hk=>(ho.lt k hk).1)
     have b11:=b10.trans (hb.mono hB10)
     have hB11:=Nat.le_trans hB10 hb.size
     clear ho hb R10
     refine wpAny_ready (rs:=[5]) (by kernel_rfl) (by simp) (AllReady.cons rfl (fun KK hK=>?_) (AllReady.nil))
     ·go_simp
      refine hK _ _ ?_
      clear hK KK
      have hb:=belowAlloc W11 (.cells #[.int .i64 (-1)] 3)
      have hI12:=(OwnI.lit W11.heap.size W11 (Nat.le_refl _) [-1] (by simp [maxLen]) #[.int .i64 (-1)] rfl 1 rfl).at
      obtain ⟨W12,hW12⟩:∃ W12:World,W12=W11.alloc (.cells #[.int .i64 (-1)] 3):=⟨_,rfl⟩
      rw [← hW12]
      rw [← hW12] at hb hI12
      clear hW12
      have R12:=R11.below hb
      have b12:=b11.trans (hb.mono hB11)
      have hB12:=Nat.le_trans hB11 hb.size
      clear hb R11
      refine wpAny_ready (rs:=[7]) (by kernel_rfl) (by simp) (AllReady.cons rfl (fun KK hK=>?_) (AllReady.nil))
      ·go_simp
       refine (repeat_any _ (-1) G.length _ hI12 (by omega)).mono ?_
       rintro e W13 ⟨pv,rfl,hb,ho⟩
       obtain ⟨pva,pvn,pvc,rfl⟩:=ho.at.shape
       refine hK _ _ ?_
       clear hK KK
       have R13:=R12.add (i:=(4,0)) (r':=rowI (.slice pva pvn pvc) (List.replicate G.length (-1))) hb (ho.mono hB12) (fun k hk=>(ho.lt k hk).1)
       have b13:=b12.trans (hb.mono hB12)
       have hB13:=Nat.le_trans hB12 hb.size
       have hI13:=hI12.below hb
       clear ho hb R12 hI12
       refine pqA 8 29 ?_
       have Rb:=search_box (na:=na) (gl:=G.length) (nc:=nc) (n:=G.length) (lv:=.slice lva lvn lvc) (fv:=.slice fva fvn fvc) (pv:=.slice pva pvn pvc) R13 hB13 (by simp [upd]) (by simp [upd]) (by simp [upd]) (by simp [upd,names0]) (by simp [upd,names0])
       replace Rb:=Hd Rb
       replace R13:=Hd R13
       have bb:=b13.trans ((belowAlloc W13 (.cells #[.slice na G.length nc,.slice lva lvn lvc,.slice fva fvn fvc,.slice none 0 0,.slice pva pvn pvc,.slice none 0 0,.int .i64 0] 435)).mono hB13)
       refine wpAny_ready (rs:=[9]) (by kernel_rfl) (by simp) (AllReady.cons rfl (fun KK hK=>?_) AllReady.nil)
       go_simp
       refine hK _ _ ?_
       clear hK KK
       refine pqA 10 6 ?_
       refine wpAny_done (by kernel_rfl) ?_ _
       refine NoPanic.normal ?_
       go_wp2
       go_meet
       case rel=>exact ⟨_,_,_,_,_,rfl,bb,Rb.out.1,Rb.out.2⟩
    ·go_simp
     refine hK _ _ ?_
     clear hK KK
     have hb:=belowAlloc W10 (.cells #[.int .i64 (-1)] 3)
     have hI14:=(OwnI.lit W10.heap.size W10 (Nat.le_refl _) [-1] (by simp [maxLen]) #[.int .i64 (-1)] rfl 1 rfl).at
     obtain ⟨W14,hW14⟩:∃ W14:World,W14=W10.alloc (.cells #[.int .i64 (-1)] 3):=⟨_,rfl⟩
     rw [← hW14]
     rw [← hW14] at hb hI14
     clear hW14
     have R14:=R10.below hb
     have b14:=b10.trans (hb.mono hB10)
     have hB14:=Nat.le_trans hB10 hb.size
     clear hb R10
     refine wpAny_ready (rs:=[2,7]) (by kernel_rfl) (by simp) (AllReady.cons rfl (fun KK hK=>?_) (AllReady.cons rfl (fun KK hK=>?_) (AllReady.nil)))
     ·obtain ⟨lv,W15,mk,ho,hb⟩:=run_makeI (G.length:Int) G.length W14 rfl (by omega)
      obtain ⟨lva,lvn,lvc,rfl⟩:=ho.at.shape
      go_simp
      refine hK _ _ ?_
      clear hK KK mk
      have R15:=R14.add (i:=(1,0)) (r':=rowI (.slice lva lvn lvc) (List.replicate G.length 0)) hb (ho.mono hB14) (fun k hk=>(ho.lt k hk).1)
      have b15:=b14.trans (hb.mono hB14)
      have hB15:=Nat.le_trans hB14 hb.size
      have hI15:=hI14.below hb
      clear hI14
      clear ho hb R14
      refine wpAny_ready (rs:=[7]) (by kernel_rfl) (by simp) (AllReady.cons rfl (fun KK hK=>?_) (AllReady.nil))
      ·go_simp
       refine (repeat_any _ (-1) G.length _ hI15 (by omega)).mono ?_
       rintro e W16 ⟨pv,rfl,hb,ho⟩
       obtain ⟨pva,pvn,pvc,rfl⟩:=ho.at.shape
       refine hK _ _ ?_
       clear hK KK
       have R16:=R15.add (i:=(4,0)) (r':=rowI (.slice pva pvn pvc) (List.replicate G.length (-1))) hb (ho.mono hB15) (fun k hk=>(ho.lt k hk).1)
       have b16:=b15.trans (hb.mono hB15)
       have hB16:=Nat.le_trans hB15 hb.size
       have hI16:=hI15.below hb
       clear ho hb R15 hI15
       refine pqA 8 29 ?_
       have Rb:=search_box (na:=na) (gl:=G.length) (nc:=nc) (n:=G.length) (lv:=.slice lva lvn lvc) (fv:=.slice fva fvn fvc) (pv:=.slice pva pvn pvc) R16 hB16 (by simp [upd]) (by simp [upd]) (by simp [upd]) (by simp [upd,names0]) (by simp [upd,names0])
       replace Rb:=Hd Rb
       replace R16:=Hd R16
       have bb:=b16.trans ((belowAlloc W16 (.cells #[.slice na G.length nc,.slice lva lvn lvc,.slice fva fvn fvc,.slice none 0 0,.slice pva pvn pvc,.slice none 0 0,.int .i64 0] 435)).mono hB16)
       refine wpAny_ready (rs:=[9]) (by kernel_rfl) (by simp) (AllReady.cons rfl (fun KK hK=>?_) AllReady.nil)
       go_simp
       refine hK _ _ ?_
       clear hK KK
       refine pqA 10 6 ?_
       refine wpAny_done (by kernel_rfl) ?_ _
       refine NoPanic.normal ?_
       go_wp2
       go_meet
       case rel=>exact ⟨_,_,_,_,_,rfl,bb,Rb.out.1,Rb.out.2⟩
     ·go_simp
      refine (repeat_any _ (-1) G.length _ hI14 (by omega)).mono ?_
      rintro e W17 ⟨pv,rfl,hb,ho⟩
      obtain ⟨pva,pvn,pvc,rfl⟩:=ho.at.shape
      refine hK _ _ ?_
      clear hK KK
      have R17:=R14.add (i:=(4,0)) (r':=rowI (.slice pva pvn pvc) (List.replicate G.length (-1))) hb (ho.mono hB14) (fun k hk=>(ho.lt k hk).1)
      have b17:=b14.trans (hb.mono hB14)
      have hB17:=Nat.le_trans hB14 hb.size
      have hI17:=hI14.below hb
      clear ho hb R14 hI14
      refine wpAny_ready (rs:=[2]) (by kernel_rfl) (by simp) (AllReady.cons rfl (fun KK hK=>?_) (AllReady.nil))
      ·obtain ⟨lv,W18,mk,ho,hb⟩:=run_makeI (G.length:Int) G.length W17 rfl (by omega)
       obtain ⟨lva,lvn,lvc,rfl⟩:=ho.at.shape
       go_simp
       refine hK _ _ ?_
       clear hK KK mk
       have R18:=R17.add (i:=(1,0)) (r':=rowI (.slice lva lvn lvc) (List.replicate G.length 0)) hb (ho.mono hB17) (fun k hk=>(ho.lt k hk).1)
       have b18:=b17.trans (hb.mono hB17)
       have hB18:=Nat.le_trans hB17 hb.size
       have hI18:=hI17.below hb
       clear hI17
       clear ho hb R17
       refine pqA 8 29 ?_
       have Rb:=search_box (na:=na) (gl:=G.length) (nc:=nc) (n:=G.length) (lv:=.slice lva lvn lvc) (fv:=.slice fva fvn fvc) (pv:=.slice pva pvn pvc) R18 hB18 (by simp [upd]) (by simp [upd]) (by simp [upd]) (by simp [upd,names0]) (by simp [upd,names0])
       replace Rb:=Hd Rb
       replace R18:=Hd R18
       have bb:=b18.trans ((belowAlloc W18 (.cells #[.slice na G.length nc,.slice lva lvn lvc,.slice fva fvn fvc,.slice none 0 0,.slice pva pvn pvc,.slice none 0 0,.int .i64 0] 435)).mono hB18)
       refine wpAny_ready (rs:=[9]) (by kernel_rfl) (by simp) (AllReady.cons rfl (fun KK hK=>?_) AllReady.nil)
       go_simp
       refine hK _ _ ?_
       clear hK KK
       refine pqA 10 6 ?_
       refine wpAny_done (by kernel_rfl) ?_ _
       refine NoPanic.normal ?_
       go_wp2
       go_meet
       case rel=>exact ⟨_,_,_,_,_,rfl,bb,Rb.out.1,Rb.out.2⟩
   ·go_simp
    refine hK _ _ ?_
    clear hK KK
    have hb:=belowAlloc W0 (.cells #[.int .i64 (-1)] 3)
    have hI19:=(OwnI.lit W0.heap.size W0 (Nat.le_refl _) [-1] (by simp [maxLen]) #[.int .i64 (-1)] rfl 1 rfl).at
    obtain ⟨W19,hW19⟩:∃ W19:World,W19=W0.alloc (.cells #[.int .i64 (-1)] 3):=⟨_,rfl⟩
    rw [← hW19]
    rw [← hW19] at hb hI19
    clear hW19
    have R19:=R0.below hb
    have b19:=b0.trans (hb.mono hB0)
    have hB19:=Nat.le_trans hB0 hb.size
    clear hb R0
    refine wpAny_ready (rs:=[2,4,7]) (by kernel_rfl) (by simp) (AllReady.cons rfl (fun KK hK=>?_) (AllReady.cons rfl (fun KK hK=>?_) (AllReady.cons rfl (fun KK hK=>?_) (AllReady.nil))))
    ·obtain ⟨lv,W20,mk,ho,hb⟩:=run_makeI (G.length:Int) G.length W19 rfl (by omega)
     obtain ⟨lva,lvn,lvc,rfl⟩:=ho.at.shape
     go_simp
     refine hK _ _ ?_
     clear hK KK mk
     have R20:=R19.add (i:=(1,0)) (r':=rowI (.slice lva lvn lvc) (List.replicate G.length 0)) hb (ho.mono hB19) (fun k hk=>(ho.lt k hk).1)
     have b20:=b19.trans (hb.mono hB19)
     have hB20:=Nat.le_trans hB19 hb.size
     have hI20:=hI19.below hb
     clear hI19
     clear ho hb R19
     refine wpAny_ready (rs:=[4,7]) (by kernel_rfl) (by simp) (AllReady.cons rfl (fun KK hK=>?_) (AllReady.cons rfl (fun KK hK=>?_) (AllReady.nil)))
     ·obtain ⟨fv,W21,mk,ho,hb⟩:=run_makeI (G.length:Int) G.length W20 rfl (by omega)
      obtain ⟨fva,fvn,fvc,rfl⟩:=ho.at.shape
      go_simp
      refine hK _ _ ?_
      clear hK KK mk
      have R21:=R20.add (i:=(2,0)) (r':=rowI (.slice fva fvn fvc) (List.replicate G.length 0)) hb (ho.mono hB20) (fun k hk=>(ho.lt k hk).1)
      have b21:=b20.trans (hb.mono hB20)
      have hB21:=Nat.le_trans hB20 hb.size
      have hI21:=hI20.below hb
      clear hI20
      clear ho hb R20
      refine wpAny_ready (rs:=[7]) (by kernel_rfl) (by simp) (AllReady.cons rfl (fun KK hK=>?_) (AllReady.nil))
      ·go_simp
       refine (repeat_any _ (-1) G.length _ hI21 (by omega)).mono ?_
       rintro e W22 ⟨pv,rfl,hb,ho⟩
       obtain ⟨pva,pvn,pvc,rfl⟩:=ho.at.shape
       refine hK _ _ ?_
       clear hK KK
       have R22:=R21.add (i:=(4,0)) (r':=rowI (.slice pva pvn pvc) (List.replicate G.length (-1))) hb (ho.mono hB21) (fun k hk=>(ho.lt k hk).1)
       have b22:=b21.trans (hb.mono hB21)
       have hB22:=Nat.le_trans hB21 hb.size
       have hI22:=hI21.below hb
       clear ho hb R21 hI21
       refine pqA 8 29 ?_
       have Rb:=search_box (na:=na) (gl:=G.length) (nc:=nc) (n:=G.length) (lv:=.slice lva lvn lvc) (fv:=.slice fva fvn fvc) (pv:=.slice pva pvn pvc) R22 hB22 (by simp [upd]) (by simp [upd]) (by simp [upd]) (by simp [upd,names0]) (by simp [upd,names0])
       replace Rb:=Hd Rb
       replace R22:=Hd R22
       have bb:=b22.trans ((belowAlloc W22 (.cells #[.slice na G.length nc,.slice lva lvn lvc,.slice fva fvn fvc,.slice none 0 0,.slice pva pvn pvc,.slice none 0 0,.int .i64 0] 435)).mono hB22)
       refine wpAny_ready (rs:=[9]) (by kernel_rfl) (by simp) (AllReady.cons rfl (fun KK hK=>?_) AllReady.nil)
       go_simp
       refine hK _ _ ?_
       clear hK KK
       refine pqA 10 6 ?_
       refine wpAny_done (by kernel_rfl) ?_ _
       refine NoPanic.normal ?_
       go_wp2
       go_meet
       case rel=>exact ⟨_,_,_,_,_,rfl,bb,Rb.out.1,Rb.out.2⟩
     ·go_simp
      refine (repeat_any _ (-1) G.length _ hI20 (by omega)).mono ?_
      rintro e W23 ⟨pv,rfl,hb,ho⟩
      obtain ⟨pva,pvn,pvc,rfl⟩:=ho.at.shape
      refine hK _ _ ?_
      clear hK KK
      have R23:=R20.add (i:=(4,0)) (r':=rowI (.slice pva pvn pvc) (List.replicate G.length (-1))) hb (ho.mono hB20) (fun k hk=>(ho.lt k hk).1)
      have b23:=b20.trans (hb.mono hB20)
      have hB23:=Nat.le_trans hB20 hb.size
      have hI23:=hI20.below hb
      clear ho hb R20 hI20
      refine wpAny_ready (rs:=[4]) (by kernel_rfl) (by simp) (AllReady.cons rfl (fun KK hK=>?_) (AllReady.nil))
      ·obtain ⟨fv,W24,mk,ho,hb⟩:=run_makeI (G.length:Int) G.length W23 rfl (by omega)
       obtain ⟨fva,fvn,fvc,rfl⟩:=ho.at.shape
       go_simp
       refine hK _ _ ?_
       clear hK KK mk
       have R24:=R23.add (i:=(2,0)) (r':=rowI (.slice fva fvn fvc) (List.replicate G.length 0)) hb (ho.mono hB23) (fun k hk=>(ho.lt k hk).1)
       have b24:=b23.trans (hb.mono hB23)
       have hB24:=Nat.le_trans hB23 hb.size
       have hI24:=hI23.below hb
       clear hI23
       clear ho hb R23
       refine pqA 8 29 ?_
       have Rb:=search_box (na:=na) (gl:=G.length) (nc:=nc) (n:=G.length) (lv:=.slice lva lvn lvc) (fv:=.slice fva fvn fvc) (pv:=.slice pva pvn pvc) R24 hB24 (by simp [upd]) (by simp [upd]) (by simp [upd]) (by simp [upd,names0]) (by simp [upd,names0])
       replace Rb:=Hd Rb
       replace R24:=Hd R24
       have bb:=b24.trans ((belowAlloc W24 (.cells #[.slice na G.length nc,.slice lva lvn lvc,.slice fva fvn fvc,.slice none 0 0,.slice pva pvn pvc,.slice none 0 0,.int .i64 0] 435)).mono hB24)
       refine wpAny_ready (rs:=[9]) (by kernel_rfl) (by simp) (AllReady.cons rfl (fun KK hK=>?_) AllReady.nil)
       go_simp
       refine hK _ _ ?_
       clear hK KK
       refine pqA 10 6 ?_
       refine wpAny_done (by kernel_rfl) ?_ _
       refine NoPanic.normal ?_
       go_wp2
       go_meet
       case rel=>exact ⟨_,_,_,_,_,rfl,bb,Rb.out.1,Rb.out.2⟩
    ·obtain ⟨fv,W25,mk,ho,hb⟩:=run_makeI (G.length:Int) G.length W19 rfl (by omega)
     obtain ⟨fva,fvn,fvc,rfl⟩:=ho.at.shape
     go_simp
     refine hK _ _ ?_
     clear hK KK mk
     have R25:=R19.add (i:=(2,0)) (r':=rowI (.slice fva fvn fvc) (List.replicate G.length 0)) hb (ho.mono hB19) (fun k hk=>(ho.lt k hk).1)
     have b25:=b19.trans (hb.mono hB19)
     have hB25:=Nat.le_trans hB19 hb.size
     have hI25:=hI19.below hb
     clear hI19
     clear ho hb R19
     refine wpAny_ready (rs:=[2,7]) (by kernel_rfl) (by simp) (AllReady.cons rfl (fun KK hK=>?_) (AllReady.cons rfl (fun KK hK=>?_) (AllReady.nil)))
     ·obtain ⟨lv,W26,mk,ho,hb⟩:=run_makeI (G.length:Int) G.length W25 rfl (by omega)
      obtain ⟨lva,lvn,lvc,rfl⟩:=ho.at.shape
      go_simp
      refine hK _ _ ?_
      clear hK KK mk
      have R26:=R25.add (i:=(1,0)) (r':=rowI (.slice lva lvn lvc) (List.replicate G.length 0)) hb (ho.mono hB25) (fun k hk=>(ho.lt k hk).1)
      have b26:=b25.trans (hb.mono hB25)
      have hB26:=Nat.le_trans hB25 hb.size
      have hI26:=hI25.below hb
      clear hI25
      clear ho hb R25
      refine wpAny_ready (rs:=[7]) (by kernel_rfl) (by simp) (AllReady.cons rfl (fun KK hK=>?_) (AllReady.nil))
      ·go_simp
       refine (repeat_any _ (-1) G.length _ hI26 (by omega)).mono ?_
       rintro e W27 ⟨pv,rfl,hb,ho⟩
       obtain ⟨pva,pvn,pvc,rfl⟩:=ho.at.shape
       refine hK _ _ ?_
       clear hK KK
       have R27:=R26.add (i:=(4,0)) (r':=rowI (.slice pva pvn pvc) (List.replicate G.length (-1))) hb (ho.mono hB26) (fun k hk=>(ho.lt k hk).1)
       have b27:=b26.trans (hb.mono hB26)
       have hB27:=Nat.le_trans hB26 hb.size
       have hI27:=hI26.below hb
       clear ho hb R26 hI26
       refine pqA 8 29 ?_
       have Rb:=search_box (na:=na) (gl:=G.length) (nc:=nc) (n:=G.length) (lv:=.slice lva lvn lvc) (fv:=.slice fva fvn fvc) (pv:=.slice pva pvn pvc) R27 hB27 (by simp [upd]) (by simp [upd]) (by simp [upd]) (by simp [upd,names0]) (by simp [upd,names0])
       replace Rb:=Hd Rb
       replace R27:=Hd R27
       have bb:=b27.trans ((belowAlloc W27 (.cells #[.slice na G.length nc,.slice lva lvn lvc,.slice fva fvn fvc,.slice none 0 0,.slice pva pvn pvc,.slice none 0 0,.int .i64 0] 435)).mono hB27)
       refine wpAny_ready (rs:=[9]) (by kernel_rfl) (by simp) (AllReady.cons rfl (fun KK hK=>?_) AllReady.nil)
       go_simp
       refine hK _ _ ?_
       clear hK KK
       refine pqA 10 6 ?_
       refine wpAny_done (by kernel_rfl) ?_ _
       refine NoPanic.normal ?_
       go_wp2
       go_meet
       case rel=>exact ⟨_,_,_,_,_,rfl,bb,Rb.out.1,Rb.out.2⟩
     ·go_simp
      refine (repeat_any _ (-1) G.length _ hI25 (by omega)).mono ?_
      rintro e W28 ⟨pv,rfl,hb,ho⟩
      obtain ⟨pva,pvn,pvc,rfl⟩:=ho.at.shape
      refine hK _ _ ?_
      clear hK KK
      have R28:=R25.add (i:=(4,0)) (r':=rowI (.slice pva pvn pvc) (List.replicate G.length (-1))) hb (ho.mono hB25) (fun k hk=>(ho.lt k hk).1)
      have b28:=b25.trans (hb.mono hB25)
      have hB28:=Nat.le_trans hB25 hb.size
      have hI28:=hI25.below hb
      clear ho hb R25 hI25
      refine wpAny_ready (rs:=[2]) (by kernel_rfl) (by simp) (AllReady.cons rfl (fun KK hK=>?_) (AllReady.nil))
      ·obtain ⟨lv,W29,mk,ho,hb⟩:=run_makeI (G.length:Int) G.length W28 rfl (by omega)
       obtain ⟨lva,lvn,lvc,rfl⟩:=ho.at.shape
       go_simp
       refine hK _ _ ?_
       clear hK KK mk
       have R29:=R28.add (i:=(1,0)) (r':=rowI (.slice lva lvn lvc) (List.replicate G.length 0)) hb (ho.mono hB28) (fun k hk=>(ho.lt k hk).1)
       have b29:=b28.trans (hb.mono hB28)
       have hB29:=Nat.le_trans hB28 hb.size
       have hI29:=hI28.below hb
       clear hI28
       clear ho hb R28
       refine pqA 8 29 ?_
       have Rb:=search_box (na:=na) (gl:=G.length) (nc:=nc) (n:=G.length) (lv:=.slice lva lvn lvc) (fv:=.slice fva fvn fvc) (pv:=.slice pva pvn pvc) R29 hB29 (by simp [upd]) (by simp [upd]) (by simp [upd]) (by simp [upd,names0]) (by simp [upd,names0])
       replace Rb:=Hd Rb
       replace R29:=Hd R29
       have bb:=b29.trans ((belowAlloc W29 (.cells #[.slice na G.length nc,.slice lva lvn lvc,.slice fva fvn fvc,.slice none 0 0,.slice pva pvn pvc,.slice none 0 0,.int .i64 0] 435)).mono hB29)
       refine wpAny_ready (rs:=[9]) (by kernel_rfl) (by simp) (AllReady.cons rfl (fun KK hK=>?_) AllReady.nil)
       go_simp
       refine hK _ _ ?_
       clear hK KK
       refine pqA 10 6 ?_
       refine wpAny_done (by kernel_rfl) ?_ _
       refine NoPanic.normal ?_
       go_wp2
       go_meet
       case rel=>exact ⟨_,_,_,_,_,rfl,bb,Rb.out.1,Rb.out.2⟩
    ·go_simp
     refine (repeat_any _ (-1) G.length _ hI19 (by omega)).mono ?_
     rintro e W30 ⟨pv,rfl,hb,ho⟩
     obtain ⟨pva,pvn,pvc,rfl⟩:=ho.at.shape
     refine hK _ _ ?_
     clear hK KK
     have R30:=R19.add (i:=(4,0)) (r':=rowI (.slice pva pvn pvc) (List.replicate G.length (-1))) hb (ho.mono hB19) (fun k hk=>(ho.lt k hk).1)
     have b30:=b19.trans (hb.mono hB19)
     have hB30:=Nat.le_trans hB19 hb.size
     have hI30:=hI19.below hb
     clear ho hb R19 hI19
     refine wpAny_ready (rs:=[2,4]) (by kernel_rfl) (by simp) (AllReady.cons rfl (fun KK hK=>?_) (AllReady.cons rfl (fun KK hK=>?_) (AllReady.nil)))
     ·obtain ⟨lv,W31,mk,ho,hb⟩:=run_makeI (G.length:Int) G.length W30 rfl (by omega)
      obtain ⟨lva,lvn,lvc,rfl⟩:=ho.at.shape
      go_simp
      refine hK _ _ ?_
      clear hK KK mk
      have R31:=R30.add (i:=(1,0)) (r':=rowI (.slice lva lvn lvc) (List.replicate G.length 0)) hb (ho.mono hB30) (fun k hk=>(ho.lt k hk).1)
      have b31:=b30.trans (hb.mono hB30)
      have hB31:=Nat.le_trans hB30 hb.size
      have hI31:=hI30.below hb
      clear hI30
      clear ho hb R30
      refine wpAny_ready (rs:=[4]) (by kernel_rfl) (by simp) (AllReady.cons rfl (fun KK hK=>?_) (AllReady.nil))
      ·obtain ⟨fv,W32,mk,ho,hb⟩:=run_makeI (G.length:Int) G.length W31 rfl (by omega)
       obtain ⟨fva,fvn,fvc,rfl⟩:=ho.at.shape
       go_simp
       refine hK _ _ ?_
       clear hK KK mk
       have R32:=R31.add (i:=(2,0)) (r':=rowI (.slice fva fvn fvc) (List.replicate G.length 0)) hb (ho.mono hB31) (fun k hk=>(ho.lt k hk).1)
       have b32:=b31.trans (hb.mono hB31)
       have hB32:=Nat.le_trans hB31 hb.size
       have hI32:=hI31.below hb
       clear hI31
       clear ho hb R31
       refine pqA 8 29 ?_
       have Rb:=search_box (na:=na) (gl:=G.length) (nc:=nc) (n:=G.length) (lv:=.slice lva lvn lvc) (fv:=.slice fva fvn fvc) (pv:=.slice pva pvn pvc) R32 hB32 (by simp [upd]) (by simp [upd]) (by simp [upd]) (by simp [upd,names0]) (by simp [upd,names0])
       replace Rb:=Hd Rb
       replace R32:=Hd R32
       have bb:=b32.trans ((belowAlloc W32 (.cells #[.slice na G.length nc,.slice lva lvn lvc,.slice fva fvn fvc,.slice none 0 0,.slice pva pvn pvc,.slice none 0 0,.int .i64 0] 435)).mono hB32)
       refine wpAny_ready (rs:=[9]) (by kernel_rfl) (by simp) (AllReady.cons rfl (fun KK hK=>?_) AllReady.nil)
       go_simp
       refine hK _ _ ?_
       clear hK KK
       refine pqA 10 6 ?_
       refine wpAny_done (by kernel_rfl) ?_ _
       refine NoPanic.normal ?_
       go_wp2
       go_meet
       case rel=>exact ⟨_,_,_,_,_,rfl,bb,Rb.out.1,Rb.out.2⟩
     ·obtain ⟨fv,W33,mk,ho,hb⟩:=run_makeI (G.length:Int) G.length W30 rfl (by omega)
      obtain ⟨fva,fvn,fvc,rfl⟩:=ho.at.shape
      go_simp
      refine hK _ _ ?_
      clear hK KK mk
      have R33:=R30.add (i:=(2,0)) (r':=rowI (.slice fva fvn fvc) (List.replicate G.length 0)) hb (ho.mono hB30) (fun k hk=>(ho.lt k hk).1)
      have b33:=b30.trans (hb.mono hB30)
      have hB33:=Nat.le_trans hB30 hb.size
      have hI33:=hI30.below hb
      clear hI30
      clear ho hb R30
      refine wpAny_ready (rs:=[2]) (by kernel_rfl) (by simp) (AllReady.cons rfl (fun KK hK=>?_) (AllReady.nil))
      ·obtain ⟨lv,W34,mk,ho,hb⟩:=run_makeI (G.length:Int) G.length W33 rfl (by omega)
       obtain ⟨lva,lvn,lvc,rfl⟩:=ho.at.shape
       go_simp
       refine hK _ _ ?_
       clear hK KK mk
       have R34:=R33.add (i:=(1,0)) (r':=rowI (.slice lva lvn lvc) (List.replicate G.length 0)) hb (ho.mono hB33) (fun k hk=>(ho.lt k hk).1)
       have b34:=b33.trans (hb.mono hB33)
       have hB34:=Nat.le_trans hB33 hb.size
       have hI34:=hI33.below hb
       clear hI33
       clear ho hb R33
       refine pqA 8 29 ?_
       have Rb:=search_box (na:=na) (gl:=G.length) (nc:=nc) (n:=G.length) (lv:=.slice lva lvn lvc) (fv:=.slice fva fvn fvc) (pv:=.slice pva pvn pvc) R34 hB34 (by simp [upd]) (by simp [upd]) (by simp [upd]) (by simp [upd,names0]) (by simp [upd,names0])
       replace Rb:=Hd Rb
       replace R34:=Hd R34
       have bb:=b34.trans ((belowAlloc W34 (.cells #[.slice na G.length nc,.slice lva lvn lvc,.slice fva fvn fvc,.slice none 0 0,.slice pva pvn pvc,.slice none 0 0,.int .i64 0] 435)).mono hB34)
       refine wpAny_ready (rs:=[9]) (by kernel_rfl) (by simp) (AllReady.cons rfl (fun KK hK=>?_) AllReady.nil)
       go_simp
       refine hK _ _ ?_
       clear hK KK
       refine pqA 10 6 ?_
       refine wpAny_done (by kernel_rfl) ?_ _
       refine NoPanic.normal ?_
       go_wp2
       go_meet
       case rel=>exact ⟨_,_,_,_,_,rfl,bb,Rb.out.1,Rb.out.2⟩
  case rest =>
   obtain ⟨d,f,lv,fv,pv,rfl,b2,hr2,h2⟩:=hcut
   have hG1:=Hd (h.out.below b1)
   have hI0:=TInv.init G.length (adjOf G) hok.out.lt
   replace hr2:=Hd hr2
   replace hI0:=Hd hI0
   go_wp2_with fail
   go_loopw [33] (fun iv wr=>∃ (k:Nat) (f':Names) (ov cv:Value) (S:TS),k≤G.length∧iv=.int .i64 k∧Rows w1.heap.size wr f'∧Below w1.heap.size w1 wr∧SN f' d (.slice na G.length nc) lv fv pv ov cv G.length S∧TInv G.length (adjOf G) S∧S.calls=[]∧∀ x,x<k→S.found x≠0) (fun iv _=>G.length-(intOf iv).toNat)
   case atStart=>exact ⟨0,f,_,_,initS,by omega,rfl,hr2.out,b2,h2,hI0.out,rfl,fun x hx=>by omega⟩
   case round =>
    obtain ⟨k,f',ov,cv,S,hk,rfl,hr3,b3,h3,hI3,hc3,hall⟩:=hrel
    obtain ⟨wo,rfl⟩:∃ wo:World,wo=wr:=⟨_,rfl⟩
    by_cases hlt:k<G.length
    ·have x2:=h3.cell hr3 2 (by decide)
     simp only [List.getElem?_cons_succ,List.getElem?_cons_zero] at x2
     have oF:=(hr3.ownI h3.fnd).at
     have iF:=fun w'=>oF.idx k (by rw [tab_len]; exact hlt) w'
     have cF:=oF.cellD k (by rw [tab_len]; exact hlt)
     rw [tab_get _ _ _ hlt] at cF
     clear oF
     generalize valAt fv k=fa at *
     by_cases hfk:S.found k=0
     ·have hF:=from_any w1 wo f' d na nc lv fv pv ov cv G S k hG1.out hok.out hn b3 hr3 h3 hI3 hc3 hlt hfk
      rw [hfk] at cF
      replace hF:=Hd hF
      replace hr3:=Hd hr3
      replace hI3:=Hd hI3
      replace hall:=Hd hall
      replace hfk:=Hd hfk
      replace hc3:=Hd hc3
      go_wp2_with fail
      clear x2 iF cF
      refine hF.out.mono ?_
      rintro e w4 ⟨rfl,b4,f4,ov4,cv4,T,hr4,h4,hI4,hc4,hk4⟩
      replace hr4:=Hd hr4
      replace hI4:=Hd hI4
      replace hk4:=Hd hk4
      replace hc4:=Hd hc4
      go_wp2
      go_roundw
      case measure=>simp [intOf]; omega
      case rel =>
       refine ⟨k+1,f4,ov4,cv4,T,by omega,by go_num,hr4.out,b3.trans b4,h4,hI4.out,hc4.out,fun x hx=>hk4.out x ?_⟩
       by_cases e:x=k
       ·exact .inr e
       ·exact .inl (hall.out x (by omega))
     ·have hne:((S.found k:Int)==0)=false:=by rw [beq_eq_false_iff_ne]; omega
      replace hr3:=Hd hr3
      replace hI3:=Hd hI3
      replace hall:=Hd hall
      replace hfk:=Hd hfk
      replace hc3:=Hd hc3
      go_wp2
      go_roundw
      case measure=>simp [intOf]; omega
      case rel =>
       refine ⟨k+1,f',ov,cv,S,by omega,by go_num,hr3.out,b3,h3,hI3.out,hc3.out,fun x hx=>?_⟩
       by_cases e:x=k
       ·subst e; exact hfk.out
       ·exact hall.out x (by omega)
    ·obtain rfl:k=G.length:=by omega
     have hD:=hI3.done hc3 hall
     have x4:=h3.cell hr3 4 (by decide)
     simp only [List.getElem?_cons_succ,List.getElem?_cons_zero] at x4
     have oP:=hr3.ownI h3.part
     have hpb:∀ x,x<G.length→(Lit.int .i64 (S.part x)).wf=true:=fun x hx=>by
      obtain ⟨q,hq,hq2,_⟩:=hI3.P1 x (hD.1 x hx)
      have:=hI3.seenLt q (hI3.partSeen q hq2)
      exact WalkArith.wf_i64 (by omega)
     have hparts:PartsOf G.length (adjOf G) ((List.range G.length).map (numO S.part)):=⟨S.part,hD.2,rfl⟩
     have hpv:=oP.at
     generalize S.part=p at *
     have hM:=NumMap.made wo
     have hbM:=belowAlloc wo (.map #[] 0)
     obtain ⟨W5,hW5⟩:∃ W5:World,W5=wo.alloc (.map #[] 0):=⟨_,rfl⟩
     have hs5:W5.heap.size=wo.heap.size+1:=by rw [hW5]; simp
     rw [← hW5] at hM hbM
     obtain ⟨out,w6,mk6,ho6,hb6⟩:=run_makeI (G.length:Int) G.length W5 rfl (by omega)
     rw [hs5] at ho6 hb6
     have hb56:Below wo.heap.size wo w6:=hbM.trans (hb6.mono (by omega))
     have hM6:=hM.kept (World.grownBy.mk hb6.os hb6.tape hb6.output hb6.size (fun j hj _=>hb6.block j (by omega)):W5.grownBy w6 none) (by simp)
     have lP:=hpv.len
     rw [tabI_len] at lP
     have x45:=(hbM.cell (World.block_lt_of_cell? _ _ x4)).trans x4
     have x46:=(hb56.cell (World.block_lt_of_cell? _ _ x4)).trans x4
     obtain ⟨outa,outn,outc,rfl⟩:=ho6.at.shape
     have hz:tabI G.length (fun v=>if v<0 then numO p v else 0)=List.replicate G.length 0:=by
      unfold tabI; apply List.ext_getElem<;>simp
     replace hparts:=Hd hparts
     replace hpb:=Hd hpb
     replace hpv:=Hd hpv
     replace hD:=Hd hD
     replace hI3:=Hd hI3
     replace hr3:=Hd hr3
     replace hall:=Hd hall
     replace hM6:=Hd hM6
     replace ho6:=Hd ho6
     replace hz:=Hd hz
     clear hM hbM oP x45
     have mkm:(Instr.makeMap 412 none).run Tryz.prog wo=.ok (.map (some wo.heap.size)) W5:=by rw [hW5]; rfl
     replace hW5:=Hd hW5
     go_wp2_with fail
     clear mk6 mkm x46 lP
     go_loopw [56] (fun iv wr=>∃ k nn:Nat,k≤G.length∧nn≤k∧iv=.int .i64 k∧NumMap wr wo.heap.size nn (numM p k).1 (numM p k).2∧OwnI (wo.heap.size+1) wr (.slice outa outn outc) (tabI G.length (fun v=>if v<k then numO p v else 0))∧Below wo.heap.size wo wr) (fun iv _=>G.length-(intOf iv).toNat)
     case atStart=>exact ⟨0,0,by omega,by omega,rfl,hM6.out,by rw [hz.out]; exact ho6.out,hb56⟩
     case round =>
      obtain ⟨k,nn,hk,hnn,rfl,hM,hO,hB⟩:=hrel
      obtain ⟨W,rfl⟩:∃ W:World,W=wr:=⟨_,rfl⟩
      by_cases hlt:k<G.length
      ·have hpk:=hpb.out k hlt
       have hPt:=hpv.out.below (hB.mono (by omega):Below wo.heap.size wo W)
       have iP:=fun w'=>hPt.idx k (by rw [tabI_len]; exact hlt) w'
       have cP:=hPt.cellD k (by rw [tabI_len]; exact hlt)
       rw [tabI_get _ _ _ hlt] at cP
       have hown:=numM_own p k
       have hsz2:=numM_size p k
       have hwn:(Lit.int .i64 (((numM p k).2:Nat):Int)).wf=true:=WalkArith.wf_i64 (by omega)
       have hnext:tabI G.length (updN (fun v=>if v<k then numO p v else 0) k (numO p k))=tabI G.length (fun v=>if v<k+1 then numO p v else 0):=by
        congr 1
        funext v
        by_cases e:v=k
        ·subst e; rw [updN_same,if_pos (by omega)]
        ·rw [updN_other _ _ _ e]
         by_cases e2:v<k
         ·rw [if_pos e2,if_pos (by omega)]
         ·rw [if_neg e2,if_neg (by omega)]
       obtain ⟨pc,hpc⟩:∃ pc,p k=pc:=⟨_,rfl⟩
       obtain ⟨px,hpx⟩:∃ px,numO p k=px:=⟨_,rfl⟩
       rw [hpc] at cP hpk hown
       rw [hpx] at hown hnext
       generalize valAt pv k=pa at *
       have hfin:∀ W':World,OwnI (wo.heap.size+1) W' (.slice outa outn outc) (tabI G.length (fun v=>if v<k then numO p v else 0))→Below wo.heap.size wo W'→∀ nn',NumMap W' wo.heap.size nn' (numM p (k+1)).1 (numM p (k+1)).2 →
        NumMap (W'.setCell (valAt (.slice outa outn outc) k) (.int .i64 px)) wo.heap.size nn' (numM p (k+1)).1 (numM p (k+1)).2∧OwnI (wo.heap.size+1) (W'.setCell (valAt (.slice outa outn outc) k) (.int .i64 px)) (.slice outa outn outc) (tabI G.length (fun v=>if v<k+1 then numO p v else 0))∧Below wo.heap.size wo (W'.setCell (valAt (.slice outa outn outc) k) (.int .i64 px)):=by
        intro W' hO' hB' nn' hM'
        have hs:=hO'.set k (by rw [tabI_len]; exact hlt) px
        rw [tabI_upd,hnext] at hs
        have hg:=hO'.toV.setGrown k (by rw [List.length_map,tabI_len]; exact hlt) (.int .i64 px)
        have hbk:=hO'.toV.blkB k (by rw [List.length_map,tabI_len]; exact hlt)
        refine ⟨hM'.kept hg (fun e=>?_),hs,hB'.setCell (by have:=hbk.2; omega) _⟩
        have:=(hO'.toV.lt wo.heap.size e.symm).1
        omega
       replace hfin:=Hd hfin
       replace hnext:=Hd hnext
       replace hparts:=Hd hparts.out
       have iO:∀ w',(Instr.indexAt 30 (.slice outa outn outc) (.int .i64 k)).run Tryz.prog w'=.ok (.pointer (some (valAt (.slice outa outn outc) k))) w':=fun w'=>hO.at.idx k (by rw [tabI_len]; exact hlt) w'
       by_cases hs:((numM p k).1 pc).isSome
       ·have hMk:numM p (k+1)=numM p k:=by
         show (if _ then _ else _)=_
         rw [hpc,if_pos hs]
        rw [hMk] at hown
        obtain ⟨c,hl1⟩:=hM.lookOk pc hpk
        rw [hs] at hl1
        have hl2:=hM.look pc px hpk hown
        have cO:=hO.at.cellD k (by rw [tabI_len]; exact hlt)
        have fO:=hO.frz k (by rw [tabI_len]; exact hlt)
        have hF:=hfin.out W hO hB nn (by rw [hMk]; exact hM)
        replace hF:=Hd hF
        replace hO:=Hd hO
        replace hM:=Hd hM
        replace hMk:=Hd hMk
        replace hown:=Hd hown
        generalize valAt (.slice outa outn outc) k=oa at *
        generalize (tabI G.length fun v=>if v<k then numO p v else 0).getD k 0=oc at cO
        go_wp2
        go_roundw
        case measure=>simp [intOf]; omega
        case rel=>exact ⟨k+1,nn,by omega,by omega,by go_num,hF.out.1,hF.out.2.1,hF.out.2.2⟩
       ·have hsn:(numM p k).1 pc=none:=by simpa using hs
        have hMk:numM p (k+1)=(updM (numM p k).1 pc ((numM p k).2:Int),(numM p k).2+1):=by
         show (if _ then _ else _)=_
         rw [hpc,if_neg hs]
        obtain ⟨c,hl1⟩:=hM.lookOk pc hpk
        rw [hsn,Option.isSome_none] at hl1
        have lM:=hM.len 3
        obtain ⟨W',hst,hM',hg'⟩:=hM.store pc _ hpk hwn hsn (by omega)
        have hMn:NumMap W' wo.heap.size (nn+1) (numM p (k+1)).1 (numM p (k+1)).2:=by rw [hMk]; exact hM'
        have hO':=ownI_map hO hM.blk.choose_spec.choose_spec hg'
        have hB':Below wo.heap.size wo W':=hB.grown hg' hB.size (fun j hj=>by cases hj; exact Nat.le_refl _)
        have hl2:=hMn.look pc px hpk hown
        have cO:=hO'.at.cellD k (by rw [tabI_len]; exact hlt)
        have fO:=hO'.frz k (by rw [tabI_len]; exact hlt)
        have hF:=hfin.out W' hO' hB' (nn+1) hMn
        replace hF:=Hd hF
        replace hO:=Hd hO
        replace hO':=Hd hO'
        replace hM:=Hd hM
        replace hM':=Hd hM'
        replace hMn:=Hd hMn
        replace hMk:=Hd hMk
        replace hown:=Hd hown
        replace hsn:=Hd hsn
        clear hs
        generalize valAt (.slice outa outn outc) k=oa at *
        generalize (tabI G.length fun v=>if v<k then numO p v else 0).getD k 0=oc at cO
        generalize (numM p k).2=ms at *
        go_wp2
        go_roundw
        case measure=>simp [intOf]; omega
        case rel=>exact ⟨k+1,nn+1,by omega,by omega,by go_num,hF.out.1,hF.out.2.1,hF.out.2.2⟩
      ·obtain rfl:k=G.length:=by omega
       have hres:tabI G.length (fun v=>if v<G.length then numO p v else 0)=(List.range G.length).map (numO p):=by
        unfold tabI
        exact List.map_congr_left fun v hv=>if_pos (List.mem_range.1 hv)
       rw [hres] at hO
       replace hO:=Hd hO
       replace hM:=Hd hM
       replace hres:=Hd hres
       go_wp2
       go_ret2
       refine ⟨_,_,rfl,b1.trans ((b3.mono b1.size).trans (hB.mono (Nat.le_trans b1.size b3.size))),⟨by rw [hck.out]; rfl,⟨fun _=>⟨_,hparts.out,hO.out.mono (Nat.le_trans (Nat.le_trans b1.size b3.size) (Nat.le_succ _))⟩,fun q=>absurd hck.out q⟩⟩⟩
theorem oneBoolG:OneCell 273 4 (.bool false) 1:=⟨by kernel_rfl,by kernel_rfl,rfl,by decide,fun _=>by kernel_rfl⟩
def tabB (n:Nat) (m:Nat→Bool):List Value:=(List.range n).map fun v=>Value.bool (m v)
theorem tabB_len (n:Nat) (m:Nat→Bool):(tabB n m).length=n:=by simp [tabB]
theorem tabB_get (n:Nat) (m:Nat→Bool) (v:Nat) (hv:v<n):vAt (tabB n m) v=.bool (m v):=by simp [tabB,vAt,List.getD,hv]
theorem tabB_upd (n:Nat) (m:Nat→Bool) (v:Nat) (b:Bool):(tabB n m).set v (.bool b)=tabB n (updN m v b):=by
 apply List.ext_getElem
 ·simp [tabB]
 ·intro i h1 h2
  simp only [tabB,List.getElem_set,List.getElem_map,List.getElem_range,updN]
  by_cases e:v=i
  ·rw [if_pos e,if_pos e.symm]
  ·rw [if_neg e,if_neg (fun q=>e q.symm)]
theorem tabB_one (n:Nat) (m:Nat→Bool):∀ v∈tabB n m,v.oneCell'=true:=by
 intro v hv
 obtain ⟨x,_,rfl⟩:=List.mem_map.1 hv
 rfl
theorem clone_bools (v:Value) (n:Nat) (m:Nat→Bool) (w:World) (h:ValsAt w v (tabB n m)) (hl:n≤10000) :
 Calls Tryz.prog 374 #[v] w (Ret1 (fun x w'=>OwnV 4 w.heap.size w' x (tabB n m)) w):=by
 obtain ⟨ao,cap,rfl,h1,h2,h3,h4⟩:=h
 cases ao with
 | none =>
  obtain rfl:=h3 rfl
  rw [tabB_len] at h1
  obtain rfl:n=0:=by omega
  have hn:=fun w'=>Lib.run_eql_slice_nil (P:=Tryz.prog) w' _ _ none 0 0 0 0 oneBoolG.ht
  rw [show (tabB 0 m).length=0 from rfl]
  clear h4
  go_enter Tryz.func374,Tryz.ntmps374
  go_wp2
  go_ret
  exact ⟨_,rfl,Below.refl _ _,OwnV.nil _ _ _⟩
 | some p =>
  have hn:=fun w'=>Lib.run_eql_slice_nil (P:=Tryz.prog) w' _ _ (some p) (tabB n m).length cap 0 0 oneBoolG.ht
  have b0:Below w.heap.size w (w.alloc (.cells #[] 4)):=(Below.refl _ _).alloc (Nat.le_refl _) _
  have ho0:OwnV 4 w.heap.size (w.alloc (.cells #[] 4)) (.slice (some ⟨w.heap.size,0,none⟩) 0 0) []:=World.ownsRow_made w #[] 0 (Nat.le_refl _) (by unfold maxLen; omega) rfl
  obtain ⟨i,hi,hz0,hz1,hz2⟩:=info_parts oneBoolG.hi
  have hcells:∀ (j:Nat) (u:Value),(tabB n m)[j]?=some u→(w.alloc (.cells #[] 4)).cell? (p.add j)=some u:=by
   intro j u hj
   have hjl:=(List.getElem?_eq_some_iff.1 hj).1
   have:=h4 j hjl
   simp only [valAt] at this
   rw [b0.cell (World.block_lt_of_cell? _ _ this),this,← hj,List.getElem?_eq_getElem hjl]
  have hone:=tabB_one n m
  have htl:=tabB_len n m
  generalize tabB n m=bs at *
  have hbl:bs.length≤10000:=by omega
  replace htl:=Hd htl
  replace hcells:=Hd hcells
  replace hone:=Hd hone
  replace ho0:=Hd ho0
  clear h4
  go_enter Tryz.func374,Tryz.ntmps374
  go_wp2_with (at_builtin; refine wpList_append_own_at _ rfl _ _ 273 rfl w.heap.size 4 i (.bool false) 1 1 oneBoolG.ht hi hz0 hz1 hz2 rfl (by decide) _ 0 [] rfl ho0.out p bs.length cap bs rfl (by simp) hcells.out hone.out (by unfold maxLen; omega) (by omega) (by simp) ?_)
  intro v' w' ho' hgr _ hat
  have hb2:Below w.heap.size w w':=b0.trans ((Below.refl _ _).grown hgr (by simp) (fun k hk=>(ho0.out.lt k hk).1))
  have ho2:OwnV 4 w.heap.size w' v' bs:=by simpa [OwnV] using ho'
  replace ho2:=Hd ho2
  clear ho' hat hgr
  go_wp2
  go_ret
  exact ⟨_,rfl,hb2,ho2.out⟩
def unm (n:Nat) (m:Nat→Bool):Nat:=wsum (fun _=>1) (fun x=>if m x then 1 else 0) n
theorem unm_upd (n:Nat) (m:Nat→Bool) (t:Nat) (ht:t<n) (hm:m t=false):unm n (updN m t true)+1=unm n m:=by
 have h:=wsum_upd (fun _=>1) (fun x=>if m x then 1 else 0) t 1 (by decide) (by simp [hm]) n
 rw [if_pos ht] at h
 have e:(fun x=>if updN m t true x then 1 else 0)=updN (fun x=>if m x then 1 else 0) t 1:=by
  funext x
  by_cases q:x=t
  ·subst q; simp [updN_same]
  ·rw [updN_other _ _ _ q,updN_other _ _ _ q]
 unfold unm
 rw [e]; exact h
theorem wsum_le (f:Nat→Nat):∀ n,wsum (fun _=>1) f n≤n
 | 0=>Nat.le_refl _
 | n+1=>by
  have:=wsum_le f n
  simp only [wsum]; split<;>omega
theorem unm_le (n:Nat) (m:Nat→Bool):unm n m≤n:=wsum_le _ n
structure RInv (n:Nat) (adj:Nat→List Nat) (ms m:Nat→Bool) (qs:List Nat) (busy:Nat→Prop):Prop where
 start:∀ x,x<n→ms x=true→m x=true
 sound:∀ x,x<n→m x=true→∃ u,u<n∧ms u=true∧Goes adj u x
 queue:∀ x∈qs,x<n∧m x=true
 closed:∀ x,x<n→m x=true→x∉qs→¬ busy x→∀ t∈adj x,m t=true
theorem RInv.pop {n:Nat} {adj:Nat→List Nat} {ms m:Nat→Bool} {v:Nat} {qs:List Nat} (h:RInv n adj ms m (v::qs) (fun _=>False)):RInv n adj ms m qs (fun x=>x=v) :=
 ⟨h.start,h.sound,fun x hx=>h.queue x (List.mem_cons_of_mem _ hx),fun x hx hm hq hb=>h.closed x hx hm (fun hc=>(List.mem_cons.1 hc).elim hb hq) id⟩
theorem RInv.finish {n:Nat} {adj:Nat→List Nat} {ms m:Nat→Bool} {v:Nat} {qs:List Nat} (h:RInv n adj ms m qs (fun x=>x=v)) (hv:∀ t∈adj v,m t=true):RInv n adj ms m qs (fun _=>False) :=
 ⟨h.start,h.sound,h.queue,fun x hx hm hq _=>by
   by_cases e:x=v
   ·subst e; exact hv
   ·exact h.closed x hx hm hq e⟩
theorem RInv.mark {n:Nat} {adj:Nat→List Nat} {ms m:Nat→Bool} {v t:Nat} {qs:List Nat} (h:RInv n adj ms m qs (fun x=>x=v)) (hv:v<n) (hmv:m v=true) (ht:t∈adj v) (htn:t<n):RInv n adj ms (updN m t true) (t::qs) (fun x=>x=v):=by
 have up:∀ x,m x=true→updN m t true x=true:=fun x hx=>by
  by_cases e:x=t
  ·subst e; exact updN_same _ _ _
  ·rw [updN_other _ _ _ e]; exact hx
 refine ⟨fun x hx hs=>up x (h.start x hx hs),fun x hx hm=>?_,fun x hx=>?_,fun x hx hm hq hb t' ht'=>?_⟩
 ·by_cases e:x=t
  ·subst e
   obtain ⟨u,h1,h2,h3⟩:=h.sound v hv hmv
   exact ⟨u,h1,h2,h3.step ht⟩
  ·rw [updN_other _ _ _ e] at hm; exact h.sound x hx hm
 ·rcases List.mem_cons.1 hx with e | e
  ·subst e; exact ⟨htn,updN_same _ _ _⟩
  ·exact ⟨(h.queue x e).1,up x (h.queue x e).2⟩
 ·have e:x≠t:=fun e=>hq (by rw [e]; exact List.mem_cons_self)
  rw [updN_other _ _ _ e] at hm
  exact up t' (h.closed x hx hm (fun hc=>hq (List.mem_cons_of_mem _ hc)) hb t' ht')
theorem RInv.all {n:Nat} {adj:Nat→List Nat} {ms m:Nat→Bool} (h:RInv n adj ms m [] (fun _=>False)) (ha:∀ v,v<n→∀ t∈adj v,t<n):∀ x,x<n→(m x=true↔∃ u,u<n∧ms u=true∧Goes adj u x):=by
 intro x hx
 refine ⟨h.sound x hx,fun ⟨u,hu,hs,hg⟩=>?_⟩
 exact (Goes.closed (P:=fun y=>y<n∧m y=true) (fun y hy t ht=>⟨ha y hy.1 t ht,h.closed y hy.1 hy.2 (by simp) id t ht⟩) hg ⟨hu,h.start u hu hs⟩).2
structure RN (f:Names) (ov qv:Value) (n:Nat) (m:Nat→Bool) (qs:List Nat):Prop where
 outs:f (1,0)=some (rowV 4 ov (tabB n m))
 queue:f (2,0)=some (rowI qv (upI qs))
section
variable {B:Nat} {w:World} {f:Names} {ov qv:Value} {n:Nat} {m:Nat→Bool} {qs:List Nat}
theorem RN.mark (h:RN f ov qv n m qs) (hr:Rows B w f) (t:Nat) (ht:t<n):∃ f',Rows B (w.setCell (valAt ov t) (.bool true)) f'∧RN f' ov qv n (updN m t true) qs:=by
 have hs:=hr.setV h.outs t (by rw [tabB_len]; exact ht) (.bool true)
 rw [tabB_upd] at hs
 exact ⟨_,hs,⟨upd_same _ _ _,by rw [upd_ne _ _ (by simp)]; exact h.queue⟩⟩
theorem RN.push (h:RN f ov qv n m qs) (hr:Rows B w f) {w1:World} {qv':Value} (t:Nat) (ho:OwnI B w1 qv' (upI qs++[(t:Int)]))
 (hal:(roomOf qv'=roomOf qv∧w.grownBy w1 qv.ownBlock)∨(∃ k,qv'.ownBlock=some k∧w.heap.size≤k∧w.grownBy w1 none)):∃ f',Rows B w1 f'∧RN f' ov qv' n m (t::qs):=by
 have hO:=hr.ownI h.queue
 have hg:w.grownBy w1 qv.ownBlock:=grown_via (hal.imp (·.2) (fun ⟨_,_,_,q⟩=>q))
 have hob:qv'.ownBlock=qv.ownBlock∨∃ k,qv'.ownBlock=some k∧w.heap.size≤k:=by
  rcases hal with ⟨q,_⟩ | ⟨k,h1,h2,_⟩
  ·obtain ⟨a1,n1,c1,e1⟩:=hO.at.shape
   obtain ⟨a2,n2,c2,e2⟩:=ho.at.shape
   exact .inl (ownBlock_of_room e1 e2 q)
  ·exact .inr ⟨k,h1,h2⟩
 exact ⟨_,hr.grown (r':=rowI qv' (upI qs++[(t:Int)])) h.queue hg ho hob,⟨by rw [upd_ne _ _ (by simp)]; exact h.outs,by rw [upd_same,upI_cons]⟩⟩
theorem RN.pop {v g c:Nat} {r:List Nat} (h:RN f ov (.slice (some ⟨g,0,none⟩) (r.length+1) c) n m (v::r)) (hr:Rows B w f):∃ f',Rows B w f'∧RN f' ov (.slice (some ⟨g,0,none⟩) r.length c) n m r:=by
 have ho:f (2,0)=some ⟨3,1,.slice (some ⟨g,0,none⟩) (r.length+1) c,r.length+1,(upI (v::r)).map (Value.int .i64)⟩:=by
  rw [h.queue]; simp [rowI,upI_len]
 have h1:=hr.shrink ho
 have hx:((upI (v::r)).map (Value.int .i64)).take (r.length*1)=(upI r).map (Value.int .i64):=by
  rw [upI_cons,List.map_append,Nat.mul_one]; exact List.take_left' (by simp [upI_len])
 rw [hx] at h1
 exact ⟨_,h1,⟨by rw [upd_ne _ _ (by simp)]; exact h.outs,by rw [upd_same]; simp [upI_len]⟩⟩
theorem RN.shape {v:Nat} {r:List Nat} (h:RN f ov qv n m (v::r)) (hr:Rows B w f):∃ g c,qv=.slice (some ⟨g,0,none⟩) (r.length+1) c∧r.length+1≤c:=by
 obtain ⟨g,c,e,e2⟩:=row_shape (hr.1 _ _ h.queue) (by show 0<(upI (v::r)).length; rw [upI_len]; simp)
 have e:qv=.slice (some ⟨g,0,none⟩) (upI (v::r)).length c:=e
 have e2:(upI (v::r)).length≤c:=e2
 rw [upI_len,List.length_cons] at e e2
 exact ⟨g,c,e,e2⟩
end
theorem upI_topR (t:Nat) (o:List Nat):(upI (t::o)).getD o.length 0=(t:Int):=by
 rw [upI_cons,List.getD_eq_getElem?_getD,List.getElem?_append_right (by rw [upI_len]; exact Nat.le_refl _),upI_len,Nat.sub_self]; rfl
theorem reach_any (na:Option Addr) (nc:Nat) (G:List (List Int)) (mv:Value) (ms:Nat→Bool) (w:World) (h:ListsAt w (.slice na G.length nc) G) (hok:GraphOk G) (hn:G.length≤8200) (hm:ValsAt w mv (tabB G.length ms)) :
 Calls Tryz.prog 338 #[.slice na G.length nc,mv] w (Ret1 (fun x w'=>∃ out:Nat→Bool,OwnV 4 w.heap.size w' x (tabB G.length out)∧∀ x,x<G.length→(out x=true↔∃ u,u<G.length∧ms u=true∧Goes (adjOf G) u x)) w):=by
 have hC:=clone_bools mv G.length ms w hm (by omega)
 replace h:=Hd h
 replace hok:=Hd hok
 replace hm:=Hd hm
 go_enter Tryz.func338,Tryz.ntmps338
 go_wp2_with fail
 refine hC.mono ?_
 rintro e w1 ⟨ov,rfl,b1,ho⟩
 clear hC
 have R1:=((rows_nils w.heap.size w 0).add (i:=(1,0)) (r':=rowV 4 ov (tabB G.length ms)) b1 ho (fun k hk=>(ho.lt k hk).1)).fresh (i:=(2,0)) (r':=rowI (.slice none 0 0) []) (World.grownBy.refl _ _) (OwnI.nil _ _) (fun k hk=>(by cases hk))
 have h1:RN (upd (upd (nils 0) (1,0) (some (rowV 4 ov (tabB G.length ms)))) (2,0) (some (rowI (.slice none 0 0) []))) ov (.slice none 0 0) G.length ms []:=⟨by rw [upd_ne _ _ (by simp),upd_same],by rw [upd_same]; rfl⟩
 generalize upd (upd (nils 0) (1,0) (some (rowV 4 ov (tabB G.length ms)))) (2,0) (some (rowI (.slice none 0 0) []))=f1 at *
 have lO:=fun w'=>ho.at.len oneBoolG 3 w'
 rw [tabB_len] at lO
 replace R1:=Hd R1
 replace ho:=Hd ho
 go_wp2_with fail
 clear lO
 go_loopw [6,16] (fun qv kv wr=>∃ (k:Nat) (qs:List Nat) (f:Names) (qw:Value),qw=qv∧kv=.int .i64 k∧k≤G.length∧qs.length≤k∧Rows w.heap.size wr f∧Below w.heap.size w wr∧RN f ov qw G.length ms qs∧∀ x,x∈qs↔(x<k∧ms x=true)) (fun _ kv _=>G.length-(intOf kv).toNat)
 case atStart=>exact ⟨0,[],f1,_,rfl,rfl,by omega,by simp,R1.out,b1,h1,fun x=>⟨fun h=>(by cases h),fun h=>by omega⟩⟩
 case round =>
  clear h1 R1 ho
  obtain ⟨k,qs,f2,qv,rfl,rfl,hk,hql,hr2,b2,h2,hqs⟩:=hrel
  obtain ⟨wo,rfl⟩:∃ wo:World,wo=wr:=⟨_,rfl⟩
  by_cases hlt:k<G.length
  ·have hOV:=(hr2.ownV h2.outs).at
   have iK:=fun w'=>hOV.idx oneBoolG k (by rw [tabB_len]; exact hlt) w'
   have cK:=hOV.cellV k (by rw [tabB_len]; exact hlt)
   rw [tabB_get _ _ _ hlt] at cK
   generalize valAt ov k=ka at *
   obtain ⟨bk,hbk⟩:∃ bk,ms k=bk:=⟨_,rfl⟩
   rw [hbk] at cK
   replace hOV:=Hd hOV
   cases bk with
   | true =>
    have hOQ:=hr2.ownI h2.queue
    have hB2:w.heap.size≤wo.heap.size:=b2.size
    have hqs2:∀ x,x∈k::qs↔(x<k+1∧ms x=true):=fun x=>by
     rw [List.mem_cons,hqs x]
     constructor
     ·rintro (rfl | ⟨a,b⟩)
      ·exact ⟨by omega,hbk⟩
      ·exact ⟨by omega,b⟩
     ·rintro ⟨a,b⟩
      by_cases e:x=k
      ·exact .inl e
      ·exact .inr ⟨by omega,b⟩
    replace hqs2:=Hd hqs2
    replace hqs:=Hd hqs
    replace hbk:=Hd hbk
    replace hr2:=Hd hr2
    go_wp2_with (at_builtin; refine wpl_app1 rfl _ _ rfl w.heap.size qv (upI qs) k hOQ rfl rfl (by rw [upI_len]; omega) hB2 ?_)
    intro qv' w7 ho7 b7 hal7
    obtain ⟨f7,hr7,h7⟩:=h2.push hr2.out k ho7 hal7
    replace hr7:=Hd hr7
    replace ho7:=Hd ho7
    clear hal7
    go_wp2
    go_roundw
    case measure=>simp [intOf]; omega
    case rel=>exact ⟨k+1,k::qs,f7,qv',rfl,by go_num,by omega,by simp only [List.length_cons]; omega,hr7.out,b2.trans b7,h7,hqs2.out⟩
   | false =>
    have hqs2:∀ x,x∈qs↔(x<k+1∧ms x=true):=fun x=>by
     rw [hqs x]
     constructor
     ·rintro ⟨a,b⟩; exact ⟨by omega,b⟩
     ·rintro ⟨a,b⟩
      by_cases e:x=k
      ·subst e; rw [hbk] at b; cases b
      ·exact ⟨by omega,b⟩
    replace hqs2:=Hd hqs2
    replace hqs:=Hd hqs
    replace hbk:=Hd hbk
    replace hr2:=Hd hr2
    go_wp2
    go_roundw
    case measure=>simp [intOf]; omega
    case rel=>exact ⟨k+1,qs,f2,qv,rfl,by go_num,by omega,by omega,hr2.out,b2,h2,hqs2.out⟩
  ·obtain rfl:k=G.length:=by omega
   have hinv:RInv G.length (adjOf G) ms ms qs (fun _=>False):=⟨fun _ _ q=>q,fun x hx q=>⟨x,hx,q,.refl x⟩,fun x hx=>⟨((hqs x).1 hx).1,((hqs x).1 hx).2⟩,fun x hx hmx hq _=>absurd ((hqs x).2 ⟨hx,hmx⟩) hq⟩
   replace hinv:=Hd hinv
   replace hqs:=Hd hqs
   replace hr2:=Hd hr2
   go_wp2_with fail
   go_loopg [6] (2*unm G.length ms+qs.length) (fun k qv wr=>∃ (m:Nat→Bool) (qs:List Nat) (f:Names) (qw:Value),qw=qv∧k=2*unm G.length m+qs.length∧k≤3*G.length∧Rows w.heap.size wr f∧Below w.heap.size w wr∧RN f ov qw G.length m qs∧RInv G.length (adjOf G) ms m qs (fun _=>False))
   case atStart=>exact ⟨ms,qs,f2,qv,rfl,rfl,by have:=unm_le G.length ms; omega,hr2.out,b2,h2,hinv.out⟩
   case round =>
    clear hinv hqs hr2 h2 b2 hql
    obtain ⟨m,qs,f3,qv,rfl,rfl,hk3,hr3,b3,h3,hI⟩:=hrel
    obtain ⟨wo,rfl⟩:∃ wo:World,wo=wr:=⟨_,rfl⟩
    cases qs with
    | nil =>
     have hOQ:=hr3.ownI h3.queue
     have lQ:=hOQ.at.len
     rw [upI_len,List.length_nil] at lQ
     have hall:=hI.all hok.out.lt
     have hres:=hr3.ownV h3.outs
     replace hall:=Hd hall
     replace hres:=Hd hres
     replace hI:=Hd hI
     replace hr3:=Hd hr3
     go_wp2
     go_ret
     exact ⟨_,rfl,b3,m,hres.out,hall.out⟩
    | cons v r =>
     obtain ⟨g,c,rfl,hcap⟩:=h3.shape hr3
     have hun:=unm_le G.length m
     obtain ⟨hvn,hmv⟩:=hI.queue v List.mem_cons_self
     have hOQ:=(hr3.ownI h3.queue).at
     have iV:=fun w'=>hOQ.idx r.length (by rw [upI_len]; simp) w'
     have cV:=hOQ.cellD r.length (by rw [upI_len]; simp)
     rw [upI_topR] at cV
     obtain ⟨f4,hr4,h4⟩:=h3.pop hr3
     have hpop:=hI.pop
     obtain ⟨xv,iR,cR0,hM0⟩:=h.out.row v hvn
     have cR:=(b3.cell (World.block_lt_of_cell? _ _ cR0)).trans cR0
     have hM:=hM0.below b3
     have hgp:=hok.out v hvn
     have hadj:adjOf G v=(G.getD v []).map Int.toNat:=rfl
     generalize G.getD v []=gx at *
     have lM:=hM.len
     have hglen:=hM.len_le
     generalize valAt (.slice na G.length nc) v=ra at *
     generalize valAt (.slice (some ⟨g,0,none⟩) (r.length+1) c) r.length=qa at *
     simp only [List.length_cons] at hk3
     have hwr:IntKind.i64.wrap (r.length:Int)=r.length:=wrapK (by omega) (by omega)
     have hsl:(0≤(r.length:Int)∧(r.length:Int)≤(c:Int)):=⟨by omega,by omega⟩
     replace hOQ:=Hd hOQ
     replace hM:=Hd hM
     replace hM0:=Hd hM0
     replace hgp:=Hd hgp
     replace hadj:=Hd hadj
     replace hr3:=Hd hr3
     replace hr4:=Hd hr4
     replace hI:=Hd hI
     replace hpop:=Hd hpop
     replace hmv:=Hd hmv
     go_wp2_with fail
     clear iV cV iR cR lM
     go_loopw [6,46] (fun qv jv wr=>∃ (j:Nat) (m':Nat→Bool) (qs:List Nat) (f:Names) (qw:Value),qw=qv∧jv=.int .i64 j∧j≤gx.length∧2*unm G.length m'+qs.length≤2*unm G.length m+r.length∧Rows w.heap.size wr f∧Below w.heap.size w wr∧RN f ov qw G.length m' qs∧RInv G.length (adjOf G) ms m' qs (fun x=>x=v)∧m' v=true∧∀ i,i<j→m' (gx.getD i 0).toNat=true) (fun _ jv _=>gx.length-(intOf jv).toNat)
     case atStart=>exact ⟨0,m,r,f4,_,rfl,rfl,by omega,Nat.le_refl _,hr4.out,b3,h4,hpop.out,hmv.out,fun i hi=>by omega⟩
     case round =>
      clear hOQ hM hr3 hr4 h4 h3 b3 hpop hI hmv hwr hsl hcap
      obtain ⟨j,m',qs,f5,qv,rfl,rfl,hj,hle,hr5,b5,h5,hI,hmv,hdone⟩:=hrel
      obtain ⟨wo,rfl⟩:∃ wo:World,wo=wr:=⟨_,rfl⟩
      by_cases hjl:j<gx.length
      ·have hMj:=hM0.out.below b5
       have hgj:=hgp.out gx[j] (List.getElem_mem hjl)
       obtain ⟨t,hu⟩:∃ t:Nat,gx[j]=t:=Int.eq_ofNat_of_zero_le hgj.1
       have htn:t<G.length:=by rw [hu] at hgj; omega
       have hgd:gx.getD j 0=(t:Int):=by rw [List.getD_eq_getElem?_getD,List.getElem?_eq_getElem hjl,hu]; rfl
       have hta:t∈adjOf G v:=by
        rw [hadj.out]
        exact List.mem_map.2 ⟨gx[j],List.getElem_mem hjl,by rw [hu]; rfl⟩
       have iJ:=fun w'=>hMj.idx j hjl w'
       have cJ:=hMj.cellD j hjl
       rw [hgd] at cJ
       have hOV:=(hr5.ownV h5.outs)
       have iT:=fun w'=>hOV.at.idx oneBoolG t (by rw [tabB_len]; exact htn) w'
       have cT:=hOV.at.cellV t (by rw [tabB_len]; exact htn)
       rw [tabB_get _ _ _ htn] at cT
       have fT:=hOV.frz t (by rw [tabB_len]; exact htn)
       have kT:=(hOV.blkB t (by rw [tabB_len]; exact htn)).2
       obtain ⟨f6,hr6,h6⟩:=h5.mark hr5 t htn
       have b6:Below w.heap.size w (wo.setCell (valAt ov t) (.bool true)):=b5.setCell kT _
       generalize valAt xv j=ja at *
       generalize valAt ov t=ta at *
       obtain ⟨bt,hbt⟩:∃ bt,m' t=bt:=⟨_,rfl⟩
       rw [hbt] at cT
       cases bt with
       | false =>
        have hunm:=unm_upd G.length m' t htn hbt
        have hmark:=hI.mark hvn hmv hta htn
        have hmv2:updN m' t true v=true:=by
         by_cases e:v=t
         ·subst e; exact updN_same _ _ _
         ·rw [updN_other _ _ _ e]; exact hmv
        have hdone2:∀ i,i<j+1→updN m' t true (gx.getD i 0).toNat=true:=fun i hi=>by
         by_cases e:(gx.getD i 0).toNat=t
         ·rw [e]; exact updN_same _ _ _
         ·rw [updN_other _ _ _ e]
          by_cases q:i=j
          ·subst q; rw [hgd] at e; exact absurd rfl e
          ·exact hdone i (by omega)
        replace hmark:=Hd hmark
        replace hmv2:=Hd hmv2
        replace hdone2:=Hd hdone2
        replace hdone:=Hd hdone
        replace hmv:=Hd hmv
        replace hI:=Hd hI
        replace hbt:=Hd hbt
        replace hr5:=Hd hr5
        replace hr6:=Hd hr6
        replace hOV:=Hd hOV
        replace hMj:=Hd hMj
        replace hgd:=Hd hgd
        replace hgj:=Hd hgj
        replace hu:=Hd hu
        replace hta:=Hd hta
        go_upto_region 17 with fail
        obtain ⟨W6,hW6⟩:∃ W6:World,W6=wo.setCell ta (.bool true):=⟨_,rfl⟩
        rw [← hW6]
        rw [← hW6] at hr6 b6
        clear hW6 iJ cJ iT cT fT
        have hOQ:=hr6.out.ownI h6.queue
        have hB6:w.heap.size≤W6.heap.size:=b6.size
        go_wp2_with (at_builtin; refine wpl_app1 rfl _ _ rfl w.heap.size qv (upI qs) t hOQ rfl rfl (by rw [upI_len]; omega) hB6 ?_)
        intro qv' w7 ho7 b7 hal7
        obtain ⟨f7,hr7,h7⟩:=h6.push hr6.out t ho7 hal7
        replace hr7:=Hd hr7
        replace ho7:=Hd ho7
        clear hal7
        go_wp2
        go_roundw
        case measure=>simp [intOf]; omega
        case rel=>exact ⟨j+1,updN m' t true,t::qs,f7,qv',rfl,by go_num,by omega,by simp only [List.length_cons]; omega,hr7.out,b6.trans b7,h7,hmark.out,hmv2.out,hdone2.out⟩
       | true =>
        have hdone2:∀ i,i<j+1→m' (gx.getD i 0).toNat=true:=fun i hi=>by
         by_cases q:i=j
         ·subst q; rw [hgd]; exact hbt
         ·exact hdone i (by omega)
        replace hdone2:=Hd hdone2
        replace hdone:=Hd hdone
        replace hmv:=Hd hmv
        replace hI:=Hd hI
        replace hbt:=Hd hbt
        replace hr5:=Hd hr5
        replace hr6:=Hd hr6
        replace hOV:=Hd hOV
        replace hMj:=Hd hMj
        replace hgd:=Hd hgd
        replace hgj:=Hd hgj
        replace hu:=Hd hu
        replace hta:=Hd hta
        go_wp2
        go_roundw
        case measure=>simp [intOf]; omega
        case rel=>exact ⟨j+1,m',qs,f5,qv,rfl,by go_num,by omega,by omega,hr5.out,b5,h5,hI.out,hmv.out,hdone2.out⟩
      ·obtain rfl:j=gx.length:=by omega
       have hfin:=hI.finish (fun t ht=>by
        rw [hadj.out] at ht
        obtain ⟨x,hx,rfl⟩:=List.mem_map.1 ht
        obtain ⟨i,hi,rfl⟩:=List.mem_iff_getElem.1 hx
        have:=hdone i hi
        rw [List.getD_eq_getElem?_getD,List.getElem?_eq_getElem hi] at this
        exact this)
       replace hfin:=Hd hfin
       replace hdone:=Hd hdone
       replace hmv:=Hd hmv
       replace hI:=Hd hI
       replace hr5:=Hd hr5
       go_wp2
       go_roundg (2*unm G.length m'+qs.length)
       case measure=>simp only [List.length_cons]; omega
       case rel=>exact ⟨m',qs,f5,qv,rfl,rfl,by omega,hr5.out,b5,h5,hfin.out⟩
def OnLoop (adj:Nat→List Nat) (u:Nat):Prop:=∃ t∈adj u,Goes adj t u
def IsLive (n:Nat) (adj:Nat→List Nat) (v:Nat):Prop:=(∃ u,u<n∧OnLoop adj u∧Goes adj u v)∧∃ u,u<n∧OnLoop adj u∧Goes adj v u
structure LiveList (n:Nat) (adj:Nat→List Nat) (L:List Nat):Prop where
 sorted:L.Pairwise (·<·)
 mem:∀ v,v∈L↔v<n∧IsLive n adj v
theorem sorted_eq:∀ {L M:List Nat},L.Pairwise (·<·)→M.Pairwise (·<·)→(∀ v,v∈L↔v∈M)→L=M
 | [],[],_,_,_=>rfl
 | [],b::M,_,_,h=>absurd ((h b).2 List.mem_cons_self) (by simp)
 | a::L,[],_,_,h=>absurd ((h a).1 List.mem_cons_self) (by simp)
 | a::L,b::M,hL,hM,h=>by
  obtain ⟨a1,a2⟩:=List.pairwise_cons.1 hL
  obtain ⟨b1,b2⟩:=List.pairwise_cons.1 hM
  have hab:a=b:=by
   rcases List.mem_cons.1 ((h a).1 List.mem_cons_self) with e | e
   ·exact e
   ·rcases List.mem_cons.1 ((h b).2 List.mem_cons_self) with e2 | e2
    ·exact e2.symm
    ·have:=b1 a e; have:=a1 b e2; omega
  subst hab
  rw [sorted_eq a2 b2 fun v=>?_]
  have:=h v
  simp only [List.mem_cons] at this
  constructor
  ·intro hv
   rcases this.1 (.inr hv) with e | e
   ·subst e; exact absurd (a1 v hv) (Nat.lt_irrefl _)
   ·exact e
  ·intro hv
   rcases this.2 (.inr hv) with e | e
   ·subst e; exact absurd (b1 v hv) (Nat.lt_irrefl _)
   ·exact e
theorem LiveList.unique {n:Nat} {adj:Nat→List Nat} {L M:List Nat} (h:LiveList n adj L) (k:LiveList n adj M):L=M:=sorted_eq h.sorted k.sorted fun v=>by rw [h.mem,k.mem]
theorem turned_adj {G H:List (List Int)} (h:TurnedOf G H) (hok:GraphOk G) {t v:Nat} (ht:t<G.length):v∈adjOf H t↔v<G.length∧t∈adjOf G v:=by
 unfold adjOf
 simp only [List.mem_map]
 constructor
 ·rintro ⟨y,hy,rfl⟩
  obtain ⟨x,rfl,hx,hm⟩:=(h.2.2 t ht y).1 hy
  exact ⟨by simpa using hx,(t:Int),by simpa using hm,by simp⟩
 ·rintro ⟨hv,y,hy,rfl⟩
  have:=hok v hv y hy
  exact ⟨(v:Int),(h.2.2 y.toNat ht v).2 ⟨v,rfl,hv,by rw [Int.toNat_of_nonneg this.1]; exact hy⟩,by simp⟩
theorem turned_ok {G H:List (List Int)} (h:TurnedOf G H):GraphOk H:=by
 intro t ht y hy
 rw [h.1] at ht ⊢
 obtain ⟨x,rfl,hx,_⟩:=(h.2.2 t ht y).1 hy
 omega
theorem goes_lt {G:List (List Int)} (hok:GraphOk G) {x y:Nat} (h:Goes (adjOf G) x y) (hx:x<G.length):y<G.length :=
 Goes.closed (P:=fun z=>z<G.length) (fun z hz t ht=>hok.lt z hz t ht) h hx
theorem turned_goes {G H:List (List Int)} (h:TurnedOf G H) (hok:GraphOk G) {x y:Nat} (hg:Goes (adjOf H) x y) (hx:x<G.length):Goes (adjOf G) y x:=by
 induction hg with
 | refl=>exact .refl _
 | @step y z hg hz ih =>
  have hy:y<G.length:=by have:=goes_lt (turned_ok h) hg (by rw [h.1]; exact hx); rwa [h.1] at this
  exact (Goes.one ((turned_adj h hok hy).1 hz).2).trans ih
theorem goes_turned {G H:List (List Int)} (h:TurnedOf G H) (hok:GraphOk G) {x y:Nat} (hg:Goes (adjOf G) x y) (hx:x<G.length):Goes (adjOf H) y x:=by
 induction hg with
 | refl=>exact .refl _
 | @step y z hg hz ih =>
  have hy:=goes_lt hok hg hx
  exact (Goes.one ((turned_adj h hok (hok.lt y hy z hz)).2 ⟨hy,hz⟩)).trans ih
theorem onLoop_parts {G:List (List Int)} (hok:GraphOk G) {ps:List Int} (hp:PartsOf G.length (adjOf G) ps) {x:Nat} (hx:x<G.length):OnLoop (adjOf G) x↔∃ t∈adjOf G x,ps.getD t 0=ps.getD x 0:=by
 constructor
 ·rintro ⟨t,ht,hg⟩
  exact ⟨t,ht,(hp.eq (hok.lt x hx t ht) hx).2 ⟨hg,.one ht⟩⟩
 ·rintro ⟨t,ht,he⟩
  exact ⟨t,ht,((hp.eq (hok.lt x hx t ht) hx).1 he).1⟩
def LivePost (r:Nat→Addr) (w:World) (G:List (List Int)) (x y:Value) (w':World):Prop :=
 ErrIs r w' (checkG G) y∧(checkG G=none→∃ L,LiveList G.length (adjOf G) L∧OwnI w.heap.size w' x (castI L))∧(checkG G≠none→x=.slice none 0 0)
def LoopTo (G:List (List Int)) (ps:List Int) (k j:Nat) (m:Nat→Bool):Prop :=
 ∀ x,x<G.length→(m x=true↔(x<k∧∃ t∈adjOf G x,ps.getD t 0=ps.getD x 0)∨(x=k∧∃ t∈(adjOf G k).take j,ps.getD t 0=ps.getD k 0))
theorem LoopTo.next {G:List (List Int)} {ps:List Int} {k:Nat} {m:Nat→Bool} (h:LoopTo G ps k (adjOf G k).length m):LoopTo G ps (k+1) 0 m:=by
 intro x hx
 rw [h x hx,List.take_length]
 constructor
 ·rintro (⟨a,b⟩ | ⟨rfl,b⟩)
  ·exact .inl ⟨by omega,b⟩
  ·exact .inl ⟨by omega,b⟩
 ·rintro (⟨a,b⟩ | ⟨_,t,ht,_⟩)
  ·by_cases e:x=k
   ·subst e; exact .inr ⟨rfl,b⟩
   ·exact .inl ⟨by omega,b⟩
  ·simp at ht
theorem LoopTo.add {G:List (List Int)} {ps:List Int} {k j t:Nat} {m:Nat→Bool} (h:LoopTo G ps k j m) (ht:(adjOf G k)[j]?=some t) (m':Nat→Bool)
 (hm:m'=if ps.getD t 0=ps.getD k 0 then updN m k true else m):LoopTo G ps k (j+1) m':=by
 intro x hx
 have htk:(adjOf G k).take (j+1)=(adjOf G k).take j++[t]:=by rw [List.take_add_one,ht]; rfl
 by_cases hp:ps.getD t 0=ps.getD k 0
 ·rw [if_pos hp] at hm
  subst hm
  by_cases e:x=k
  ·subst e
   rw [updN_same]
   exact ⟨fun _=>.inr ⟨rfl,t,by rw [htk]; simp,hp⟩,fun _=>rfl⟩
  ·rw [updN_other _ _ _ e,h x hx]
   exact ⟨fun q=>q.imp id (fun q=>absurd q.1 e),fun q=>q.imp id (fun q=>absurd q.1 e)⟩
 ·rw [if_neg hp] at hm
  subst hm
  rw [h x hx,htk]
  constructor
  ·rintro (q | ⟨e,s,hs,hq⟩)
   ·exact .inl q
   ·exact .inr ⟨e,s,List.mem_append_left _ hs,hq⟩
  ·rintro (q | ⟨e,s,hs,hq⟩)
   ·exact .inl q
   ·rcases List.mem_append.1 hs with hs | hs
    ·exact .inr ⟨e,s,hs,hq⟩
    ·cases List.mem_singleton.1 hs; exact absurd hq hp
theorem live_any (r:Nat→Addr) (na:Option Addr) (nc:Nat) (G:List (List Int)) (w:World) (hg:Glob r w) (h:ListsAt w (.slice na G.length nc) G) (hsz:∀ k,k<G.length→(G.getD k []).length≤17592186044416) :
 Calls Tryz.prog 267 #[.slice na G.length nc] w (Ret2 (LivePost r w G) w):=by
 have hP:=parts_any r na nc G w hg h hsz
 replace h:=Hd h
 replace hg:=Hd hg
 replace hsz:=Hd hsz
 cases hck:checkG G with
 | some t =>
  replace hck:=Hd hck
  go_enter Tryz.func267,Tryz.ntmps267
  go_wp2_with fail
  refine hP.mono ?_
  rintro e w1 ⟨x,y,rfl,b1,he,_,hx⟩
  rw [hck.out] at he hx
  obtain rfl:=hx (by simp)
  obtain ⟨T,a,rfl⟩:=he.some_shape
  replace he:=Hd he
  clear hx hP
  go_wp2
  go_ret2
  exact ⟨_,_,rfl,b1,⟨by rw [hck.out]; exact he.out,⟨fun q=>(by rw [hck.out] at q; cases q),fun _=>rfl⟩⟩⟩
 | none =>
  obtain ⟨hn,harr,hok⟩:=checkG_none hck
  replace hck:=Hd hck
  replace hok:=Hd hok
  go_enter Tryz.func267,Tryz.ntmps267
  go_wp2_with fail
  refine hP.mono ?_
  rintro e w1 ⟨pv,y,rfl,b1,he,hps0,_⟩
  rw [hck.out] at he hps0
  obtain rfl:=he.none_eq
  obtain ⟨ps,hps,hpo⟩:=hps0 rfl
  clear hps0
  have hpl:=hps.len
  obtain ⟨pa,pn,pc,rfl⟩:=hpo.at.shape
  have hp1:=hpo.at
  clear he hP hpo
  obtain ⟨lv,w2,mk,hl2,hb2⟩:=run_makeW oneBoolG (G.length:Int) G.length w1 rfl (by omega)
  have hz:tabB G.length (fun _=>false)=List.replicate G.length (.bool false):=by
   unfold tabB; apply List.ext_getElem<;>simp
  rw [← hz] at hl2
  obtain ⟨la,ln,lc,rfl⟩:=hl2.shape
  have hz0:LoopTo G ps 0 0 (fun _=>false):=by
   intro x hx
   simp
  replace hz0:=Hd hz0
  replace hz:=Hd hz
  replace hl2:=Hd hl2
  replace hp1:=Hd hp1
  replace hps:=Hd hps
  replace hpl:=Hd hpl
  go_wp2_with fail
  clear mk
  go_loopw [28] (fun kv wr=>∃ (k:Nat) (m:Nat→Bool),k≤G.length∧kv=.int .i64 k∧OwnV 4 w1.heap.size wr (.slice la ln lc) (tabB G.length m)∧Below w1.heap.size w1 wr∧LoopTo G ps k 0 m) (fun kv _=>G.length-(intOf kv).toNat)
  case atStart=>exact ⟨0,_,by omega,rfl,hl2.out,hb2,hz0.out⟩
  case round =>
   clear hl2
   obtain ⟨k,m,hk,rfl,hlo,b3,hm⟩:=hrel
   obtain ⟨wo,rfl⟩:∃ wo:World,wo=wr:=⟨_,rfl⟩
   by_cases hlt:k<G.length
   ·obtain ⟨mv,iR,cR0,hM0⟩:=h.out.row k hlt
    have hbw:Below w.heap.size w wo:=b1.trans (b3.mono b1.size)
    have cR:=(hbw.cell (World.block_lt_of_cell? _ _ cR0)).trans cR0
    have hM:=hM0.below hbw
    have hgp:=hok.out k hlt
    have hal:=adjOf_len G k
    have hag:∀ j (hj:j<(G.getD k []).length),(adjOf G k)[j]?=some ((G.getD k [])[j]).toNat:=fun j hj=>by
     show ((G.getD k []).map Int.toNat)[j]?=_
     rw [List.getElem?_map,List.getElem?_eq_getElem hj]; rfl
    have hglen:=hsz.out k hlt
    generalize G.getD k []=gk at *
    have lM:=hM.len
    generalize valAt (.slice na G.length nc) k=ra at *
    replace hm:=Hd hm
    replace hlo:=Hd hlo
    replace hM:=Hd hM
    replace hM0:=Hd hM0
    replace hgp:=Hd hgp
    replace hag:=Hd hag
    replace hal:=Hd hal
    go_wp2_with fail
    clear iR cR cR0 lM hbw
    go_loopw [35] (fun jv wr=>∃ (j:Nat) (m:Nat→Bool),j≤gk.length∧jv=.int .i64 j∧OwnV 4 w1.heap.size wr (.slice la ln lc) (tabB G.length m)∧Below w1.heap.size w1 wr∧LoopTo G ps k j m) (fun jv _=>gk.length-(intOf jv).toNat)
    case atStart=>exact ⟨0,m,by omega,rfl,hlo.out,b3,hm.out⟩
    case round =>
     clear hlo b3 hm hM
     obtain ⟨j,m,hj,rfl,hlo,b3,hm⟩:=hrel
     obtain ⟨wo,rfl⟩:∃ wo:World,wo=wr:=⟨_,rfl⟩
     by_cases hjl:j<gk.length
     ·have hMj:=hM0.out.below (b1.trans (b3.mono b1.size))
      have hgj:=hgp.out gk[j] (List.getElem_mem hjl)
      obtain ⟨t,hu⟩:∃ t:Nat,gk[j]=t:=Int.eq_ofNat_of_zero_le hgj.1
      have htn:t<G.length:=by rw [hu] at hgj; omega
      have hgd:gk.getD j 0=(t:Int):=by rw [List.getD_eq_getElem?_getD,List.getElem?_eq_getElem hjl,hu]; rfl
      have hta:(adjOf G k)[j]?=some t:=by rw [hag.out j hjl,hu]; rfl
      have iJ:=fun w'=>hMj.idx j hjl w'
      have cJ:=hMj.cellD j hjl
      rw [hgd] at cJ
      have hPt:=hp1.out.below b3
      have iT:=fun w'=>hPt.idx t (by rw [hpl.out]; exact htn) w'
      have cT:=hPt.cellD t (by rw [hpl.out]; exact htn)
      have iK:=fun w'=>hPt.idx k (by rw [hpl.out]; exact hlt) w'
      have cK:=hPt.cellD k (by rw [hpl.out]; exact hlt)
      have hadd:=hm.add hta
      have iL:=fun w'=>hlo.at.idx oneBoolG k (by rw [tabB_len]; exact hlt) w'
      have cL:=hlo.at.cellV k (by rw [tabB_len]; exact hlt)
      rw [tabB_get _ _ _ hlt] at cL
      have fL:=hlo.frz k (by rw [tabB_len]; exact hlt)
      have kL:=(hlo.blkB k (by rw [tabB_len]; exact hlt)).2
      have hset:=hlo.set k (by rw [tabB_len]; exact hlt) (.bool true)
      rw [tabB_upd] at hset
      generalize valAt mv j=ja at *
      generalize valAt (.slice pa pn pc) t=ta at *
      generalize valAt (.slice pa pn pc) k=ka at *
      generalize valAt (.slice la ln lc) k=qa at *
      obtain ⟨pt,hpt⟩:∃ pt,ps.getD t 0=pt:=⟨_,rfl⟩
      obtain ⟨pk,hpk⟩:∃ pk,ps.getD k 0=pk:=⟨_,rfl⟩
      rw [hpt] at cT hadd
      rw [hpk] at cK hadd
      generalize m k=mk at cL
      replace hm:=Hd hm
      replace hlo:=Hd hlo
      replace hset:=Hd hset
      replace hPt:=Hd hPt
      replace hMj:=Hd hMj
      replace hpt:=Hd hpt
      replace hpk:=Hd hpk
      replace hgd:=Hd hgd
      replace hgj:=Hd hgj
      replace hu:=Hd hu
      replace hta:=Hd hta
      by_cases he:pt=pk
      ·have hq:(pt==pk)=true:=by simp [he]
       have hn2:=hadd _ (if_pos he).symm
       replace hn2:=Hd hn2
       replace he:=Hd he
       clear hadd
       go_upto_region 11 with fail
       go_quiet (fail)
       go_wp2
       go_roundw
       case measure=>simp [intOf]; omega
       case rel =>
        refine ⟨j+1,_,by omega,by go_num,?_,?_,hn2.out⟩
        ·exact hset.out
        ·exact (below_drewN b3 nq).setCell kL _
      ·have hq:(pt==pk)=false:=by simp [he]
       have hn2:=hadd _ (if_neg he).symm
       replace hn2:=Hd hn2
       replace he:=Hd he
       clear hadd
       go_upto_region 11 with fail
       go_quiet (fail)
       go_wp2
       go_roundw
       case measure=>simp [intOf]; omega
       case rel=>exact ⟨j+1,m,by omega,by go_num,hlo.out,b3.trans ⟨rfl,rfl,rfl,Nat.le_refl _,fun _ _=>rfl⟩,hn2.out⟩
     ·obtain rfl:j=gk.length:=by omega
      have hnext:=(hal.out▸hm:LoopTo G ps k (adjOf G k).length m).next
      replace hnext:=Hd hnext
      replace hm:=Hd hm
      replace hlo:=Hd hlo
      go_wp2
      go_roundw
      case measure=>simp [intOf]; omega
      case rel=>exact ⟨k+1,m,by omega,by go_num,hlo.out,b3,hnext.out⟩
   ·obtain rfl:k=G.length:=by omega
    have hbw:Below w.heap.size w wo:=b1.trans (b3.mono b1.size)
    have hR1:=reach_any na nc G (.slice la ln lc) m wo (h.out.below hbw) hok.out (by omega) hlo.at
    have hon:∀ x,x<G.length→(m x=true↔OnLoop (adjOf G) x):=fun x hx=>by
     rw [hm x hx,onLoop_parts hok.out hps.out hx]
     constructor
     ·rintro (⟨_,q⟩ | ⟨e,_⟩)
      ·exact q
      ·omega
     ·intro q; exact .inl ⟨hx,q⟩
    replace hm:=Hd hm
    replace hon:=Hd hon
    replace hR1:=Hd hR1
    have hlo':=Hd hlo
    clear hlo
    go_wp2_with fail
    refine hR1.out.mono ?_
    rintro e w4 ⟨bv,rfl,b4,bm,hbo,hbm⟩
    have hb4:=Below.step hbw b4
    have hBk:=graph_back na nc G w4 (h.out.below hb4) hok.out (by omega) harr
    replace hBk:=Hd hBk
    go_wp2_with fail
    refine hBk.out.mono ?_
    rintro e w5 ⟨hv,rfl,b5,H,hT,hHl⟩
    obtain ⟨ha,hc,rfl⟩:=hHl.shape
    have hHn:=hT.1
    have hR2:=reach_any ha hc H (.slice la ln lc) m w5 hHl (turned_ok hT) (by omega) (by rw [hHn]; exact (hlo'.out.at.below b4).below b5)
    replace hR2:=Hd hR2
    replace hHn:=Hd hHn
    replace hT:=Hd hT
    replace hHl:=Hd hHl
    go_wp2_with fail
    refine hR2.out.mono ?_
    rintro e w6 ⟨av,rfl,b6,am,hao,ham⟩
    rw [hHn.out] at hao ham
    have hboth:∀ x,x<G.length→((bm x&&am x)=true↔IsLive G.length (adjOf G) x):=fun x hx=>by
     rw [Bool.and_eq_true,hbm x hx,ham x hx]
     unfold IsLive
     constructor
     ·rintro ⟨⟨u,hu,h1,h2⟩,v,hv,h3,h4⟩
      exact ⟨⟨u,hu,(hon.out u hu).1 h1,h2⟩,v,hv,(hon.out v hv).1 h3,turned_goes hT.out hok.out h4 hv⟩
     ·rintro ⟨⟨u,hu,h1,h2⟩,v,hv,h3,h4⟩
      exact ⟨⟨u,hu,(hon.out u hu).2 h1,h2⟩,v,hv,(hon.out v hv).2 h3,goes_turned hT.out hok.out h4 hx⟩
    have hbv:=hbo.at.below (Below.step b5 b6)
    have hav:=hao.at
    have hw6:=Below.step hb4 (Below.step b5 b6)
    replace hboth:=Hd hboth
    replace hbm:=Hd hbm
    replace ham:=Hd ham
    replace hbv:=Hd hbv
    replace hav:=Hd hav
    replace hbo:=Hd hbo
    replace hao:=Hd hao
    clear hR1 hR2 hBk
    go_wp2_with fail
    go_loopw [13,62] (fun qv kv wr=>∃ (k:Nat) (L:List Nat) (qw:Value),qw=qv∧kv=.int .i64 k∧k≤G.length∧L.length≤k∧OwnI w6.heap.size wr qw (castI L)∧Below w6.heap.size w6 wr∧L.Pairwise (·<·)∧∀ v,v∈L↔(v<k∧(bm v&&am v)=true)) (fun _ kv _=>G.length-(intOf kv).toNat)
    case atStart=>exact ⟨0,[],_,rfl,rfl,by omega,by simp,OwnI.nil _ _,Below.refl _ _,List.Pairwise.nil,fun v=>⟨fun q=>(by cases q),fun q=>by omega⟩⟩
    case round =>
     obtain ⟨k,L,qv,rfl,rfl,hk,hLk,hLo,b7,hLs,hLm⟩:=hrel
     obtain ⟨wo,rfl⟩:∃ wo:World,wo=wr:=⟨_,rfl⟩
     by_cases hlt:k<G.length
     ·have hB:=hbv.out.below b7
      have hA:=hav.out.below b7
      have iB:=fun w'=>hB.idx oneBoolG k (by rw [tabB_len]; exact hlt) w'
      have cB:=hB.cellV k (by rw [tabB_len]; exact hlt)
      rw [tabB_get _ _ _ hlt] at cB
      have iA:=fun w'=>hA.idx oneBoolG k (by rw [tabB_len]; exact hlt) w'
      have cA:=hA.cellV k (by rw [tabB_len]; exact hlt)
      rw [tabB_get _ _ _ hlt] at cA
      generalize valAt bv k=qb at *
      generalize valAt av k=qa at *
      have hyes:(bm k&&am k)=true→∀ v,v∈L++[k]↔(v<k+1∧(bm v&&am v)=true):=fun hq v=>by
       rw [List.mem_append,hLm v,List.mem_singleton]
       constructor
       ·rintro (⟨a,b⟩ | rfl)
        ·exact ⟨by omega,b⟩
        ·exact ⟨by omega,hq⟩
       ·rintro ⟨a,b⟩
        by_cases e:v=k
        ·exact .inr e
        ·exact .inl ⟨by omega,b⟩
      have hno:(bm k&&am k)=false→∀ v,v∈L↔(v<k+1∧(bm v&&am v)=true):=fun hq v=>by
       rw [hLm v]
       constructor
       ·rintro ⟨a,b⟩; exact ⟨by omega,b⟩
       ·rintro ⟨a,b⟩
        by_cases e:v=k
        ·subst e; rw [hq] at b; cases b
        ·exact ⟨by omega,b⟩
      have hsrt2:(L++[k]).Pairwise (·<·):=by
       rw [List.pairwise_append]
       refine ⟨hLs,List.pairwise_singleton _ _,fun x hx y hy=>?_⟩
       cases List.mem_singleton.1 hy
       exact ((hLm x).1 hx).1
      obtain ⟨bk,hbk⟩:∃ bk,bm k=bk:=⟨_,rfl⟩
      obtain ⟨ak,hak⟩:∃ ak,am k=ak:=⟨_,rfl⟩
      rw [hbk] at cB hyes hno
      rw [hak] at cA hyes hno
      replace hB:=Hd hB
      replace hA:=Hd hA
      replace hLm:=Hd hLm
      replace hLs:=Hd hLs
      replace hsrt2:=Hd hsrt2
      replace hbk:=Hd hbk
      replace hak:=Hd hak
      cases bk with
      | false =>
       have hn:=hno rfl
       replace hn:=Hd hn
       replace hLo:=Hd hLo
       clear hyes hno
       go_wp2
       go_roundw
       case measure=>simp [intOf]; omega
       case rel=>exact ⟨k+1,L,qv,rfl,by go_num,by omega,by omega,hLo.out,b7,hLs.out,hn.out⟩
      | true =>
       cases ak with
       | false =>
        have hn:=hno rfl
        replace hn:=Hd hn
        replace hLo:=Hd hLo
        clear hyes hno
        go_wp2
        go_roundw
        case measure=>simp [intOf]; omega
        case rel=>exact ⟨k+1,L,qv,rfl,by go_num,by omega,by omega,hLo.out,b7,hLs.out,hn.out⟩
       | true =>
        have hy:=hyes rfl
        replace hy:=Hd hy
        clear hyes hno
        have hB7:w6.heap.size≤wo.heap.size:=b7.size
        go_wp2_with (at_builtin; refine wpl_app1 rfl _ _ rfl w6.heap.size qv (castI L) k hLo rfl rfl (by rw [castI_len]; omega) hB7 ?_)
        intro qv' w8 ho8 b8 hal8
        replace ho8:=Hd ho8
        clear hal8 hLo
        go_wp2
        go_roundw
        case measure=>simp [intOf]; omega
        case rel=>exact ⟨k+1,L++[k],qv',rfl,by go_num,by omega,by rw [List.length_append]; simp only [List.length_cons,List.length_nil]; omega,by rw [castI_snoc]; exact ho8.out,b7.trans b8,hsrt2.out,hy.out⟩
     ·obtain rfl:k=G.length:=by omega
      have hLL:LiveList G.length (adjOf G) L:=⟨hLs,fun v=>by
       rw [hLm v]
       constructor
       ·rintro ⟨a,b⟩; exact ⟨a,(hboth.out v a).1 b⟩
       ·rintro ⟨a,b⟩; exact ⟨a,(hboth.out v a).2 b⟩⟩
      obtain ⟨qa,qn,qc,rfl⟩:=hLo.at.shape
      replace hLL:=Hd hLL
      replace hLo:=Hd hLo
      replace hLm:=Hd hLm
      replace hLs:=Hd hLs
      go_wp2
      go_ret2
      exact ⟨_,_,rfl,Below.step hw6 b7,⟨by rw [hck.out]; rfl,⟨fun _=>⟨L,hLL.out,hLo.out.mono hw6.size⟩,fun q=>absurd hck.out q⟩⟩⟩
end Go.Proofs.YtindfaehjoileaaGreatDoor
namespace Go.Proofs.YtindfaehjoileaaGreatDoor
open Go.RowKit
set_option maxRecDepth 100000
theorem oddTo_miss {G:List (List Int)} {k:Nat} (hk:oddTo G k<0) (h:∀ t∈G.getD k [],oddT G.length t=false):oddTo G (k+1)<0:=by
 simp only [oddTo]
 rw [if_pos hk]
 rcases idxOf_cases (oddT G.length) (G.getD k []) with ⟨q,_⟩ | ⟨i,_,q1,q2⟩
 ·rw [if_neg (by omega)]; exact hk
 ·exfalso
  simp_all
set_option maxHeartbeats 8000000
theorem oddTo_ok {G:List (List Int)} (hok:GraphOk G):∀ k,k≤G.length→oddTo G k<0
 | 0,_=>by simp [oddTo]
 | k+1,hk=>oddTo_miss (oddTo_ok hok k (by omega)) fun t ht=>by
  have:=hok k (by omega) t ht
  simp [oddT]; omega
theorem checkG_ok {G:List (List Int)} (h1:G.length≤8192) (h2:arrowsTo G G.length≤262144) (hok:GraphOk G):checkG G=none:=by
 unfold checkG
 rw [if_neg (by omega),if_neg (by omega),if_neg (by have:=oddTo_ok hok G.length (Nat.le_refl _); omega)]
section
variable {K N:Nat} {T:List Int}
theorem pairG_len:(pairG K N T).length=N*N:=rowsOf_len _ _
theorem pairG_row {p:Nat} (hp:p<N*N):(pairG K N T).getD p []=castI (pairL K N T p):=rowsOf_get _ _ _ hp
theorem pairG_adj {p:Nat} (hp:p<N*N):adjOf (pairG K N T) p=pairL K N T p:=by
 unfold adjOf
 rw [pairG_row hp,castI,List.map_map]
 exact List.map_id _
theorem pairG_ok (hN:0<N):GraphOk (pairG K N T):=by
 intro v hv t ht
 rw [pairG_len] at hv
 rw [pairG_row hv] at ht
 obtain ⟨q,hq,rfl⟩:=List.mem_map.1 ht
 have:=((mem_pairL hN).1 hq).lt hN
 rw [pairG_len]
 omega
theorem pairG_arrows:∀ k,k≤N*N→arrowsTo (pairG K N T) k≤k*(K*K)
 | 0,_=>by simp [arrowsTo]
 | k+1,hk=>by
  have:=pairG_arrows k (by omega)
  simp only [arrowsTo]
  rw [pairG_row (by omega),castI_len,Nat.add_mul]
  have:=pairL_len K N T k
  omega
theorem pairG_check (hN:0<N) (hN81:N≤81) (hNK:N*K≤256):checkG (pairG K N T)=none:=by
 refine checkG_ok ?_ ?_ (pairG_ok hN)
 ·rw [pairG_len]; have:=Nat.mul_le_mul hN81 hN81; omega
 ·rw [pairG_len]
  have:=pairG_arrows (K:=K) (N:=N) (T:=T) (N*N) (Nat.le_refl _)
  have h2:=Nat.mul_le_mul hNK hNK
  rw [show N*K*(N*K)=N*N*(K*K) by rw [Nat.mul_assoc,Nat.mul_left_comm K,← Nat.mul_assoc]] at h2
  omega
theorem pairG_goes (hN:0<N) {x y:Nat} (h:Goes (pairL K N T) x y) (hx:x<N*N):Goes (adjOf (pairG K N T)) x y∧y<N*N:=by
 induction h with
 | refl=>exact ⟨.refl _,hx⟩
 | step h hz ih =>
  exact ⟨.step ih.1 (by rw [pairG_adj ih.2]; exact hz),((mem_pairL hN).1 hz).lt hN⟩
end
theorem diag_live {K R:Nat} {T:List Int} {u:Nat} (hK:1≤K) (hu:u<pw K (2*R)):IsLive (pw K (2*R)*pw K (2*R)) (adjOf (pairG K (pw K (2*R)) T)) (u*pw K (2*R)+u):=by
 have hp:=pair_lt hu hu
 have hN:0<pw K (2*R):=by omega
 have ht:=toN_lt (K:=K) (u:=u) (s:=0) hN
 have hl:OnLoop (adjOf (pairG K (pw K (2*R)) T)) (u*pw K (2*R)+u) :=
  ⟨toN K (pw K (2*R)) u 0*pw K (2*R)+toN K (pw K (2*R)) u 0,by rw [pairG_adj hp]; exact diag_arr hu hK,(pairG_goes hN (diag_goes hK ht hu) (pair_lt ht ht)).1⟩
 exact ⟨⟨_,hp,hl,.refl _⟩,⟨_,hp,hl,.refl _⟩⟩
theorem papart_ok (r:Nat→Addr) (K R:Nat) (va:Option Addr) (vn vc:Nat) (T:List Int) (w:World) (hg:Glob r w) (h:IntsAt w (.slice va vn vc) T) (hr:RuleOk K R T) (hl:T.length≤256) :
 Calls Tryz.prog 160 #[.agg #[.int .i64 K,.int .i64 R,.slice va vn vc]] w (Ret2 (fun x y w'=>y=.nilIface∧∃ L,LiveList (pw K (2*wkR R)*pw K (2*wkR R)) (adjOf (pairG K (pw K (2*wkR R)) (wkT K R T))) L∧OwnI w.heap.size w' x (castI (L.filter fun p=>!decide (Diag (pw K (2*wkR R)) p)))) w):=by
 have b0:=belowAlloc w (.cells #[.int .i64 K,.int .i64 R,.slice va vn vc] 124)
 have q:Box3 (w.alloc (.cells #[.int .i64 K,.int .i64 R,.slice va vn vc] 124)) w.heap.size (.int .i64 K) (.int .i64 R) (.slice va vn vc):=by simp [Box3,go_sem]
 have hk1:=hr.k1
 have hk4:=hr.k4
 have hokW:=wk_ok hr
 have hlW:=wk_small hr hl
 have hRW:=wk_pos R
 have hN81:=nodes_le hokW hRW hlW
 obtain ⟨hdiv,hlen⟩:=hokW.half
 have hN1:=pw_pos (K:=K) (2*wkR R) hk1
 have hNK:pw K (2*wkR R)*K≤256:=by rw [← hlen]; exact hlW
 have hck:=pairG_check (K:=K) (N:=pw K (2*wkR R)) (T:=wkT K R T) (by omega) hN81 hNK
 have hlive0:=diag_live (K:=K) (R:=wkR R) (T:=wkT K R T) (u:=0) hk1 (by omega)
 have hgraph:=fun (w':World) (hgl:Glob r w') (hT:IntsAt w' (.slice va vn vc) T)=>pgraph_ok r K R va vn vc T w' hgl hT hr hl
 have hwork:=fun (w':World) (hgl:Glob r w') (hT:IntsAt w' (.slice va vn vc) T)=>working_ok r K R va vn vc T w' hgl hT hr hl
 have hNodes:=fun (a:Option Addr) (n c:Nat) (w':World) (hgl:Glob r w') (hT:IntsAt w' (.slice a n c) (wkT K R T))=>over_Nodes r K (wkR R) a n c (wkT K R T) w' hgl hT hokW hlW
 rw [hdiv] at hNodes
 generalize pw K (2*wkR R)=N at *
 generalize wkT K R T=T' at *
 generalize wkR R=R' at *
 rw [Nat.zero_mul,Nat.zero_add] at hlive0
 replace hgraph:=Hd hgraph
 replace hwork:=Hd hwork
 replace hNodes:=Hd hNodes
 replace hck:=Hd hck
 replace hlive0:=Hd hlive0
 replace hg:=Hd (hg.below b0)
 replace h:=Hd (h.below b0)
 replace hokW:=Hd hokW
 replace hr:=Hd hr
 replace hdiv:=Hd hdiv
 replace hlen:=Hd hlen
 go_enter Tryz.func160,Tryz.ntmps160
 go_wp2_with fail
 refine (hgraph.out _ hg.out h.out).mono ?_
 rintro e w1 ⟨gv,y,rfl,b1,rfl,f,vals,hrows,hwn⟩
 have hL:ListsAt w1 gv (pairG K N T'):=hwn.lists hrows
 obtain ⟨ga,gc,rfl⟩:=hL.shape
 have hsz:∀ k,k<(pairG K N T').length→((pairG K N T').getD k []).length≤17592186044416:=fun k hk=>by
  rw [pairG_len] at hk
  rw [pairG_row hk,castI_len]
  have:=pairL_len K N T' k
  have:=Nat.mul_le_mul hk4 hk4
  omega
 have hM6:N*N≤6561:=Nat.mul_le_mul hN81 hN81
 replace hrows:=Hd hrows
 replace hwn:=Hd hwn
 replace hL:=Hd hL
 replace hsz:=Hd hsz
 go_wp2_with fail
 refine (live_any r ga gc (pairG K N T') w1 (hg.out.below b1) hL.out hsz.out).mono ?_
 rintro e w2 ⟨lv,y,rfl,b2,he,hls,_⟩
 rw [hck.out] at he hls
 obtain rfl:=he.none_eq
 obtain ⟨L,hLL,ho⟩:=hls rfl
 rw [pairG_len] at hLL
 clear hls he
 have b12:=Below.step b1 b2
 have q2:=q.below b12
 obtain ⟨⟨z0,z1,z2⟩,-,-,-⟩:=q2
 replace hLL:=Hd hLL
 replace ho:=Hd ho
 go_wp2_with fail
 refine (hwork.out w2 (hg.out.below b12) (h.out.below b12)).mono ?_
 rintro e w3 ⟨x,y,rfl,b3,rfl,a,n,c,rfl,hT3⟩
 clear z0 z1 z2
 have b13:=Below.step b12 b3
 have ba:=belowAlloc w3 (.cells #[.int .i64 K,.int .i64 R',.slice a n c] 124)
 have b14:=Below.step b13 ba
 have hT4:=hT3.below ba
 replace hT3:=Hd hT3
 replace hT4:=Hd hT4
 go_wp2_with fail
 refine (hNodes.out a n c _ (hg.out.below b14) hT4.out).mono ?_
 rintro e w5 ⟨x,y,rfl,b5,rfl,rfl⟩
 have b15:=Below.step b14 b5
 have bb:=belowAlloc w5 (.cells #[.int .i64 N] 3)
 have b16:=Below.step b15 bb
 have b26:=Below.step b3 (Below.step ba (Below.step b5 bb))
 have ho6:=ho.out.below b26
 have cN:(w5.alloc (.cells #[.int .i64 N] 3)).cell? ⟨w5.heap.size,0,none⟩=some (.int .i64 N):=by simp [go_sem]
 have hne:lv.ownBlock≠some w5.heap.size:=fun e=>by
  have h1:=(ho.out.lt _ e).2
  have h2:=(Below.step b3 (Below.step ba b5)).size
  omega
 have hLne:castI L≠[]:=fun e=>by
  have:L=[]:=by cases L with | nil=>rfl | cons a l=>simp [castI] at e
  have h0:=(hLL.out.mem 0).2 ⟨by have:=Nat.mul_le_mul hN1 hN1; omega,hlive0.out⟩
  rw [this] at h0; cases h0
 replace ho6:=Hd ho6
 replace hne:=Hd hne
 replace hLne:=Hd hLne
 replace cN:=Hd cN
 go_wp2_with fail
 refine (delete_own w1.heap.size lv (castI L) w5.heap.size N _ ho6.out hLne.out hN1 cN.out hne.out).mono ?_
 rintro e w7 ⟨x,rfl,_,ho7,b7⟩
 have hF:(castI L).filter (fun x=>!dgI N x)=castI (L.filter fun p=>!decide (Diag N p)):=by
  unfold castI
  rw [List.filter_map]
  congr 1
  refine List.filter_congr fun p hp=>?_
  have:=((hLL.out.mem p).1 hp).1
  show (!dgI N (p:Int))=_
  rw [dgI_nat (by omega)]
 rw [hF] at ho7
 obtain ⟨xa,xn,xc,rfl⟩:=ho7.at.shape
 have ho8:=ho7.mono (B':=w.heap.size) (Nat.le_trans b0.size b1.size)
 have bE:=(Below.step b0 b1).trans ((Below.step b2 b26).trans b7 |>.mono (Nat.le_trans b0.size b1.size))
 replace ho7:=Hd ho7
 replace ho8:=Hd ho8
 replace hF:=Hd hF
 go_wp2
 go_ret2
 exact ⟨_,_,rfl,bE,rfl,L,hLL.out,ho8.out⟩
def outG (G:List (List Int)) (a:Int):Prop:=a<0∨(G.length:Int)≤a
instance (G:List (List Int)) (a:Int):Decidable (outG G a):=by unfold outG; infer_instance
def pathE (G:List (List Int)) (a b:Int):PErr :=
 match checkG G with
 | some t=>some t
 | none=>if outG G a then fresh sGraph 1 3 else if outG G b then fresh sGraph 2 3 else none
theorem pathE_ok {G:List (List Int)} {x y:Nat} (hc:checkG G=none) (hx:x<G.length) (hy:y<G.length):pathE G x y=none:=by
 unfold pathE
 rw [hc]
 dsimp only
 rw [if_neg (by unfold outG; omega),if_neg (by unfold outG; omega)]
def PathPost (r:Nat→Addr) (w:World) (G:List (List Int)) (a b:Int) (x y:Value) (w':World):Prop :=
 ErrIs r w' (pathE G a b) y∧(pathE G a b=none→FirstPost w (adjOf G) a.toNat b.toNat x w')∧(pathE G a b≠none→x=.slice none 0 0)
theorem FirstPost.step {w1 w2 w3:World} {adj:Nat→List Nat} {a b:Nat} {x:Value} (h:FirstPost w2 adj a b x w3) (hs:w1.heap.size≤w2.heap.size):FirstPost w1 adj a b x w3:=by
 rcases h with ⟨u,h1,h2⟩ | h
 ·exact .inl ⟨u,h1,h2.mono hs⟩
 ·exact .inr h
theorem FirstPost.shape {w w':World} {adj:Nat→List Nat} {a b:Nat} {x:Value} (h:FirstPost w adj a b x w'):∃ p n c,x=.slice p n c:=by
 rcases h with ⟨u,_,h2⟩ | ⟨_,h⟩
 ·exact h2.at.shape
 ·exact ⟨_,_,_,h⟩
theorem path_any (r:Nat→Addr) (na:Option Addr) (nc:Nat) (G:List (List Int)) (a b:Int) (w:World) (hg:Glob r w) (h:ListsAt w (.slice na G.length nc) G) (hsz:∀ k,k<G.length→(G.getD k []).length≤17592186044416) :
 Calls Tryz.prog 274 #[.slice na G.length nc,.int .i64 a,.int .i64 b] w (Ret2 (PathPost r w G a b) w):=by
 have hC:=graph_check r na nc G w hg h hsz
 cases hck:checkG G with
 | some t =>
  rw [hck] at hC
  have hp:pathE G a b=some t:=by unfold pathE; rw [hck]
  replace hp:=Hd hp
  replace hck:=Hd hck
  replace h:=Hd h
  replace hg:=Hd hg
  replace hsz:=Hd hsz
  go_enter Tryz.func274,Tryz.ntmps274
  go_wp2_with fail
  refine hC.mono ?_
  rintro e w1 ⟨y,rfl,b1,he⟩
  obtain ⟨T,p,rfl⟩:=he.some_shape
  replace he:=Hd he
  go_wp2
  go_ret2
  exact ⟨_,_,rfl,b1,⟨by rw [hp.out]; exact he.out,⟨fun q=>(by rw [hp.out] at q; cases q),fun _=>rfl⟩⟩⟩
 | none =>
  rw [hck] at hC
  obtain ⟨hn,harr,hok⟩:=checkG_none hck
  by_cases ha:outG G a
  ·have hp:pathE G a b=fresh sGraph 1 3:=by unfold pathE; rw [hck]; dsimp only; rw [if_pos ha]
   replace hp:=Hd hp
   replace hck:=Hd hck
   replace h:=Hd h
   replace hg:=Hd hg
   replace hsz:=Hd hsz
   replace hok:=Hd hok
   rcases ha with ha | ha
   ·go_enter Tryz.func274,Tryz.ntmps274
    go_wp2_with fail
    refine hC.mono ?_
    rintro e w1 ⟨y,rfl,b1,he⟩
    obtain rfl:=he.none_eq
    clear he hC
    go_wp2_with fail
    refine (graph_wrong r _ _ _ (hg.out.below b1) (by decide) (by decide)).mono ?_
    rintro e w2 ⟨y,rfl,b2,he⟩
    replace he:=Hd he
    go_wp2
    go_ret2
    exact ⟨_,_,rfl,Below.step b1 b2,⟨by rw [hp.out]; exact he.out,⟨fun q=>(by rw [hp.out] at q; cases q),fun _=>rfl⟩⟩⟩
   ·have ha0:¬ a<0:=by omega
    go_enter Tryz.func274,Tryz.ntmps274
    go_wp2_with fail
    refine hC.mono ?_
    rintro e w1 ⟨y,rfl,b1,he⟩
    obtain rfl:=he.none_eq
    clear he hC
    go_wp2_with fail
    refine (graph_wrong r _ _ _ (hg.out.below b1) (by decide) (by decide)).mono ?_
    rintro e w2 ⟨y,rfl,b2,he⟩
    replace he:=Hd he
    go_wp2
    go_ret2
    exact ⟨_,_,rfl,Below.step b1 b2,⟨by rw [hp.out]; exact he.out,⟨fun q=>(by rw [hp.out] at q; cases q),fun _=>rfl⟩⟩⟩
  ·have ha1:0≤a∧a<G.length:=by unfold outG at ha; omega
   obtain ⟨ha1,ha2⟩:=ha1
   by_cases hb:outG G b
   ·have hp:pathE G a b=fresh sGraph 2 3:=by unfold pathE; rw [hck]; dsimp only; rw [if_neg ha,if_pos hb]
    replace hp:=Hd hp
    replace hck:=Hd hck
    replace h:=Hd h
    replace hg:=Hd hg
    replace hsz:=Hd hsz
    replace hok:=Hd hok
    clear ha
    rcases hb with hb | hb
    ·go_enter Tryz.func274,Tryz.ntmps274
     go_wp2_with fail
     refine hC.mono ?_
     rintro e w1 ⟨y,rfl,b1,he⟩
     obtain rfl:=he.none_eq
     clear he hC
     go_wp2_with fail
     refine (graph_wrong r _ _ _ (hg.out.below b1) (by decide) (by decide)).mono ?_
     rintro e w2 ⟨y,rfl,b2,he⟩
     replace he:=Hd he
     go_wp2
     go_ret2
     exact ⟨_,_,rfl,Below.step b1 b2,⟨by rw [hp.out]; exact he.out,⟨fun q=>(by rw [hp.out] at q; cases q),fun _=>rfl⟩⟩⟩
    ·have hb0:¬ b<0:=by omega
     go_enter Tryz.func274,Tryz.ntmps274
     go_wp2_with fail
     refine hC.mono ?_
     rintro e w1 ⟨y,rfl,b1,he⟩
     obtain rfl:=he.none_eq
     clear he hC
     go_wp2_with fail
     refine (graph_wrong r _ _ _ (hg.out.below b1) (by decide) (by decide)).mono ?_
     rintro e w2 ⟨y,rfl,b2,he⟩
     replace he:=Hd he
     go_wp2
     go_ret2
     exact ⟨_,_,rfl,Below.step b1 b2,⟨by rw [hp.out]; exact he.out,⟨fun q=>(by rw [hp.out] at q; cases q),fun _=>rfl⟩⟩⟩
   ·have hb1:0≤b∧b<G.length:=by unfold outG at hb; omega
    obtain ⟨hb1,hb2⟩:=hb1
    have hp:pathE G a b=none:=by unfold pathE; rw [hck]; dsimp only; rw [if_neg ha,if_neg hb]
    obtain ⟨x,rfl⟩:=Int.eq_ofNat_of_zero_le ha1
    obtain ⟨y,rfl⟩:=Int.eq_ofNat_of_zero_le hb1
    have hx:x<G.length:=by omega
    have hy:y<G.length:=by omega
    clear ha hb ha1 hb1 ha2 hb2
    replace hp:=Hd hp
    replace hck:=Hd hck
    replace h:=Hd h
    replace hg:=Hd hg
    replace hsz:=Hd hsz
    replace hok:=Hd hok
    go_enter Tryz.func274,Tryz.ntmps274
    go_wp2_with fail
    refine hC.mono ?_
    rintro e w1 ⟨y',rfl,b1,he⟩
    obtain rfl:=he.none_eq
    clear he hC
    go_wp2_with fail
    refine (first_any na nc G x y _ (h.out.below b1) hok.out (by omega) hx hy hsz.out).mono ?_
    rintro e w2 ⟨z,rfl,b2,hz⟩
    obtain ⟨zp,zn,zc,rfl⟩:=hz.shape
    replace hz:=Hd hz
    go_wp2
    go_ret2
    exact ⟨_,_,rfl,Below.step b1 b2,⟨by rw [hp.out]; rfl,⟨fun _=>by rw [Int.toNat_natCast,Int.toNat_natCast]; exact hz.out.step b1.size,fun q=>absurd hp.out q⟩⟩⟩
def mapW (v n:Nat) (l:List Int):List Int:=l.map fun t=>if t=(v:Int) then (n:Int) else t
theorem mapW_len (v n:Nat) (l:List Int):(mapW v n l).length=l.length:=by simp [mapW]
def wideTo (G:List (List Int)) (v k:Nat):Nat→List Int:=fun u=>if u<k then mapW v G.length (G.getD u []) else []
def wideG (G:List (List Int)) (v:Nat):List (List Int):=rowsOf (G.length+1) (wideTo G v G.length)
def midW (v n:Nat) (l:List Int) (j:Nat):List Int:=mapW v n (l.take j)++l.drop j
theorem midW_zero (v n:Nat) (l:List Int):midW v n l 0=l:=by simp [midW,mapW]
theorem midW_full (v n:Nat) (l:List Int):midW v n l l.length=mapW v n l:=by simp [midW]
theorem midW_len (v n:Nat) (l:List Int) (j:Nat) (hj:j≤l.length):(midW v n l j).length=l.length:=by simp [midW,mapW_len]; omega
theorem mapW_append (v n:Nat) (a b:List Int):mapW v n (a++b)=mapW v n a++mapW v n b:=by unfold mapW; exact List.map_append
theorem midW_next (v n:Nat) (l:List Int) (j:Nat) (hj:j<l.length):midW v n l (j+1)=mapW v n (l.take j)++(if l[j]=(v:Int) then (n:Int) else l[j])::l.drop (j+1):=by
 unfold midW
 rw [take_snoc l j hj,mapW_append,List.append_assoc]
 rfl
theorem midW_now (v n:Nat) (l:List Int) (j:Nat) (hj:j<l.length):midW v n l j=mapW v n (l.take j)++l[j]::l.drop (j+1):=by
 unfold midW
 rw [← List.drop_eq_getElem_cons hj]
theorem midW_step (v n:Nat) (l:List Int) (j:Nat) (hj:j<l.length):midW v n l (j+1)=(midW v n l j).set j (if l[j]=(v:Int) then (n:Int) else l[j]):=by
 have hl:(mapW v n (l.take j)).length=j:=by rw [mapW_len,List.length_take]; omega
 rw [midW_next v n l j hj,midW_now v n l j hj,List.set_append_right _ _ (by omega),hl,Nat.sub_self,List.set_cons_zero]
theorem midW_same (v n:Nat) (l:List Int) (j:Nat) (hj:j<l.length) (he:l[j]≠(v:Int)):midW v n l (j+1)=midW v n l j:=by
 rw [midW_next v n l j hj,midW_now v n l j hj,if_neg he]
theorem updN_updN {α:Type} (f:Nat→α) (k:Nat) (a b:α):updN (updN f k a) k b=updN f k b:=by
 funext x
 by_cases e:x=k
 ·subst e; rw [updN_same,updN_same]
 ·rw [updN_other _ _ _ e,updN_other _ _ _ e,updN_other _ _ _ e]
theorem wideTo_succ (G:List (List Int)) (v k:Nat):updN (wideTo G v k) k (mapW v G.length (G.getD k []))=wideTo G v (k+1):=by
 funext u
 unfold wideTo
 by_cases e:u=k
 ·subst e; rw [updN_same,if_pos (by omega)]
 ·rw [updN_other _ _ _ e]
  by_cases q:u<k
  ·rw [if_pos q,if_pos (by omega)]
  ·rw [if_neg q,if_neg (by omega)]
theorem wideG_len (G:List (List Int)) (v:Nat):(wideG G v).length=G.length+1:=rowsOf_len _ _
theorem wideG_row (G:List (List Int)) (v u:Nat) (hu:u<G.length):(wideG G v).getD u []=mapW v G.length (G.getD u []):=by
 unfold wideG
 rw [rowsOf_get _ _ _ (by omega)]
 exact if_pos hu
theorem wideG_last (G:List (List Int)) (v:Nat):(wideG G v).getD G.length []=[]:=by
 unfold wideG
 rw [rowsOf_get _ _ _ (by omega)]
 exact if_neg (by omega)
theorem wideG_ok {G:List (List Int)} (hok:GraphOk G) (v:Nat):GraphOk (wideG G v):=by
 intro u hu t ht
 rw [wideG_len] at hu ⊢
 by_cases e:u<G.length
 ·rw [wideG_row G v u e] at ht
  obtain ⟨x,hx,rfl⟩:=List.mem_map.1 ht
  have:=hok u e x hx
  split<;>omega
 ·obtain rfl:u=G.length:=by omega
  rw [wideG_last] at ht; cases ht
theorem wide_adj {G:List (List Int)} (hok:GraphOk G) (v:Nat) {u:Nat} (hu:u<G.length) (t:Nat):t∈adjOf (wideG G v) u↔(t≠v∧t∈adjOf G u∧t<G.length)∨(t=G.length∧v∈adjOf G u):=by
 unfold adjOf
 rw [wideG_row G v u hu]
 simp only [List.mem_map,mapW]
 constructor
 ·rintro ⟨y,⟨x,hx,rfl⟩,rfl⟩
  have:=hok u hu x hx
  by_cases e:x=(v:Int)
  ·rw [if_pos e]; exact .inr ⟨by simp,x,hx,by rw [e]; simp⟩
  ·rw [if_neg e]; exact .inl ⟨by omega,⟨x,hx,rfl⟩,by omega⟩
 ·rintro (⟨h1,⟨x,hx,rfl⟩,_⟩ | ⟨rfl,x,hx,he⟩)
  ·have:=hok u hu x hx
   exact ⟨x,⟨x,hx,if_neg (by omega)⟩,rfl⟩
  ·have:=hok u hu x hx
   exact ⟨(G.length:Int),⟨x,hx,if_pos (by omega)⟩,by simp⟩
def loopE (G:List (List Int)) (a:Int):PErr :=
 match checkG G with
 | some t=>some t
 | none=>if outG G a then fresh sGraph 1 3 else none
theorem loopE_ok {G:List (List Int)} {x:Nat} (hc:checkG G=none) (hx:x<G.length):loopE G x=none:=by
 unfold loopE
 rw [hc]
 dsimp only
 rw [if_neg (by unfold outG; omega)]
def LoopWay (w:World) (G:List (List Int)) (v:Nat) (x:Value) (w':World):Prop :=
 (∃ u,IsFirst (adjOf (wideG G v)) v G.length u∧OwnI w.heap.size w' x (castI u.dropLast))∨(¬ Goes (adjOf (wideG G v)) v G.length∧x=.slice none 0 0)
def LoopPost (r:Nat→Addr) (w:World) (G:List (List Int)) (a:Int) (x y:Value) (w':World):Prop :=
 ErrIs r w' (loopE G a) y∧(loopE G a=none→LoopWay w G a.toNat x w')∧(loopE G a≠none→x=.slice none 0 0)
theorem OwnI.cut {B:Nat} {w:World} {g m c:Nat} {xs:List Int} (h:OwnI B w (.slice (some ⟨g,0,none⟩) (m+1) c) xs) (hl:xs.length=m+1):OwnI B w (.slice (some ⟨g,0,none⟩) m c) (xs.take m):=by
 rcases h.2 with ⟨e,_⟩ | ⟨g',cap',cur,e,hB,hg,hn,hm,hs,ht⟩
 ·cases e
 ·injection e with e1 e2 e3
  injection e1 with e1
  injection e1 with e1
  subst e1; subst e3
  have hml:(xs.take m).length=m:=by simp; omega
  refine ⟨by simp,.inr ⟨g,c,cur,by rw [hml],hB,hg,by rw [hml]; omega,hm,hs,?_⟩⟩
  rw [hml]
  rw [hl] at ht
  have:=congrArg (List.take m) ht
  rw [List.take_take] at this
  simp only [Nat.mul_one] at this ⊢
  rw [Nat.min_eq_left (by omega)] at this
  rw [this,List.map_take]
theorem loopG_any (r:Nat→Addr) (na:Option Addr) (nc:Nat) (G:List (List Int)) (a:Int) (w:World) (hg:Glob r w) (h:ListsAt w (.slice na G.length nc) G) (hsz:∀ k,k<G.length→(G.getD k []).length≤17592186044416) :
 Calls Tryz.prog 273 #[.slice na G.length nc,.int .i64 a] w (Ret2 (LoopPost r w G a) w):=by
 have hC:=graph_check r na nc G w hg h hsz
 cases hck:checkG G with
 | some t =>
  rw [hck] at hC
  have hp:loopE G a=some t:=by unfold loopE; rw [hck]
  replace hp:=Hd hp
  replace hck:=Hd hck
  replace h:=Hd h
  replace hg:=Hd hg
  replace hsz:=Hd hsz
  go_enter Tryz.func273,Tryz.ntmps273
  go_wp2_with fail
  refine hC.mono ?_
  rintro e w1 ⟨y,rfl,b1,he⟩
  obtain ⟨T,p,rfl⟩:=he.some_shape
  replace he:=Hd he
  go_wp2
  go_ret2
  exact ⟨_,_,rfl,b1,⟨by rw [hp.out]; exact he.out,⟨fun q=>(by rw [hp.out] at q; cases q),fun _=>rfl⟩⟩⟩
 | none =>
  rw [hck] at hC
  obtain ⟨hn,harr,hok⟩:=checkG_none hck
  by_cases ha:outG G a
  ·have hp:loopE G a=fresh sGraph 1 3:=by unfold loopE; rw [hck]; dsimp only; rw [if_pos ha]
   replace hp:=Hd hp
   replace hck:=Hd hck
   replace h:=Hd h
   replace hg:=Hd hg
   replace hsz:=Hd hsz
   replace hok:=Hd hok
   rcases ha with ha | ha
   ·go_enter Tryz.func273,Tryz.ntmps273
    go_wp2_with fail
    refine hC.mono ?_
    rintro e w1 ⟨y,rfl,b1,he⟩
    obtain rfl:=he.none_eq
    clear he hC
    go_wp2_with fail
    refine (graph_wrong r _ _ _ (hg.out.below b1) (by decide) (by decide)).mono ?_
    rintro e w2 ⟨y,rfl,b2,he⟩
    replace he:=Hd he
    go_wp2
    go_ret2
    exact ⟨_,_,rfl,Below.step b1 b2,⟨by rw [hp.out]; exact he.out,⟨fun q=>(by rw [hp.out] at q; cases q),fun _=>rfl⟩⟩⟩
   ·have ha0:¬ a<0:=by omega
    go_enter Tryz.func273,Tryz.ntmps273
    go_wp2_with fail
    refine hC.mono ?_
    rintro e w1 ⟨y,rfl,b1,he⟩
    obtain rfl:=he.none_eq
    clear he hC
    go_wp2_with fail
    refine (graph_wrong r _ _ _ (hg.out.below b1) (by decide) (by decide)).mono ?_
    rintro e w2 ⟨y,rfl,b2,he⟩
    replace he:=Hd he
    go_wp2
    go_ret2
    exact ⟨_,_,rfl,Below.step b1 b2,⟨by rw [hp.out]; exact he.out,⟨fun q=>(by rw [hp.out] at q; cases q),fun _=>rfl⟩⟩⟩
  ·have ha1:0≤a∧a<G.length:=by unfold outG at ha; omega
   obtain ⟨ha1,ha2⟩:=ha1
   obtain ⟨v,rfl⟩:=Int.eq_ofNat_of_zero_le ha1
   have hv:v<G.length:=by omega
   have hp:loopE G (v:Int)=none:=loopE_ok hck hv
   have hd1:decide ((v:Int)<0)=false:=by simp
   have hd2:decide (G.length≤v)=false:=by simp; omega
   clear ha ha1 ha2
   replace hp:=Hd hp
   replace hck:=Hd hck
   replace h:=Hd h
   replace hg:=Hd hg
   replace hsz:=Hd hsz
   replace hok:=Hd hok
   go_enter Tryz.func273,Tryz.ntmps273
   go_wp2_with fail
   refine hC.mono ?_
   rintro e w1 ⟨y',rfl,b1,he⟩
   obtain rfl:=he.none_eq
   clear he hC
   obtain ⟨ov,w2,mk,ho,hb2⟩:=run_makeW oneLists ((G.length:Int)+1) (G.length+1) w1 (by omega) (by omega)
   obtain ⟨f1,hr1,h1⟩:=WN.made (G.length+1) hb2 (Nat.le_refl _) ho
   have h1:WN f1 ov (List.replicate (G.length+1) (.slice none 0 0)) (G.length+1) (wideTo G v 0):=by
    have:(fun _:Nat=>([]:List Int))=wideTo G v 0:=by funext u; unfold wideTo; rw [if_neg (by omega)]
    rw [← this]; exact h1
   obtain ⟨oa,on,oc,rfl⟩:=ho.shape
   replace ho:=Hd ho
   replace hr1:=Hd hr1
   go_wp2_with fail
   clear mk
   go_loopw [35] (fun kv wr=>∃ (k:Nat) (f:Names) (vals:List Value),k≤G.length∧kv=.int .i64 k∧Rows w1.heap.size wr f∧Below w1.heap.size w1 wr∧WN f (.slice oa on oc) vals (G.length+1) (wideTo G v k)) (fun kv _=>G.length-(intOf kv).toNat)
   case atStart=>exact ⟨0,f1,_,by omega,rfl,hr1.out,hb2,h1⟩
   case round =>
    clear h1 ho hr1
    obtain ⟨k,f2,vals,hk,rfl,hr2,b2,h2⟩:=hrel
    obtain ⟨wo,rfl⟩:∃ wo:World,wo=wr:=⟨_,rfl⟩
    by_cases hlt:k<G.length
    ·obtain ⟨mv,iR,cR0,hM0⟩:=h.out.row k hlt
     have hbw:Below w.heap.size w wo:=b1.trans (b2.mono b1.size)
     have cR:=(hbw.cell (World.block_lt_of_cell? _ _ cR0)).trans cR0
     have hM:=hM0.below hbw
     have hglen:=hsz.out k hlt
     have hsucc:=wideTo_succ G v k
     generalize G.getD k []=gk at *
     have hcl:=clone_any mv gk wo hM hglen
     have hOV:=(hr2.ownV h2.outer).at
     have iO:=fun w'=>hOV.idx oneLists k (by rw [h2.len]; omega) w'
     have hput:=fun (w1':World) (v':Value) (xs:List Int)=>h2.put (B:=w1.heap.size) (w1:=w1') (u:=k) (by omega) (v':=v') (xs:=xs)
     have hnew:=fun (w1':World) (v':Value) (xs:List Int)=>h2.new (B:=w1.heap.size) hr2 (w1:=w1') k (v':=v') (xs:=xs)
     have hBo:=b2.size
     generalize valAt (.slice na G.length nc) k=ra at *
     obtain ⟨ua,hua⟩:∃ ua,valAt (.slice oa on oc) k=ua:=⟨_,rfl⟩
     rw [hua] at iO
     simp only [hua] at hput
     replace hua:=Hd hua
     replace hput:=Hd hput
     replace hnew:=Hd hnew
     replace hOV:=Hd hOV
     replace hr2:=Hd hr2
     replace hM:=Hd hM
     replace hM0:=Hd hM0
     replace hcl:=Hd hcl
     replace hsucc:=Hd hsucc
     go_wp2_with fail
     clear cR cR0 iR hbw
     refine hcl.out.mono ?_
     rintro e w3 ⟨cv,rfl,b3,hcv⟩
     have hR3:=hnew.out w3 cv gk b3 hBo hcv
     obtain ⟨y1,y2,y3,f4,hr4,h4,_⟩:=hput.out w3 cv gk hR3
     obtain ⟨va,vn,vc,rfl⟩:=hcv.at.shape
     have b4:Below w1.heap.size w1 (w3.setCell ua (.slice va vn vc)):=(b2.trans (b3.mono hBo)).setCell y3 _
     have h4:WN f4 (.slice oa on oc) (vals.set k (.slice va vn vc)) (G.length+1) (updN (wideTo G v k) k (midW v G.length gk 0)):=by rw [midW_zero]; exact h4
     have lM:=(hM0.out.below (b1.trans (b4.mono b1.size))).len
     obtain ⟨W4,hW4⟩:∃ W4:World,W4=w3.setCell ua (.slice va vn vc):=⟨_,rfl⟩
     rw [← hW4] at hr4 b4
     replace hr4:=Hd hr4
     replace hR3:=Hd hR3
     replace hcv:=Hd hcv
     clear hcl
     go_upto_region 12 with fail
     rw [← hW4]
     clear hW4 y1 y2 iO
     go_wp2_with fail
     clear lM
     generalize vals.set k (.slice va vn vc)=vals at *
     go_loopw [47] (fun jv wr=>∃ (j:Nat) (f:Names) (vals:List Value),j≤gk.length∧jv=.int .i64 j∧Rows w1.heap.size wr f∧Below w1.heap.size w1 wr∧WN f (.slice oa on oc) vals (G.length+1) (updN (wideTo G v k) k (midW v G.length gk j))) (fun jv _=>gk.length-(intOf jv).toNat)
     case atStart=>exact ⟨0,f4,_,by omega,rfl,hr4.out,b4,h4⟩
     case round =>
      clear hr4 h4 b4 hR3 hcv hM hr2 hnew hput hOV y3
      obtain ⟨j,f5,vals,hj,rfl,hr5,b5,h5⟩:=hrel
      obtain ⟨wo,rfl⟩:∃ wo:World,wo=wr:=⟨_,rfl⟩
      by_cases hjl:j<gk.length
      ·have hMj:=hM0.out.below (b1.trans (b5.mono b1.size))
       have iJ:=fun w'=>hMj.idx j hjl w'
       have cJ:=hMj.cell j hjl
       generalize valAt mv j=ja at *
       have hstep:=midW_step v G.length gk j hjl
       have hsame:=midW_same v G.length gk j hjl
       obtain ⟨t,ht⟩:∃ t,gk[j]=t:=⟨_,rfl⟩
       rw [ht] at cJ hstep hsame
       replace hMj:=Hd hMj
       replace ht:=Hd ht
       by_cases htv:t=(v:Int)
       ·have hq:(t==(v:Int))=true:=by simp [htv]
        rw [if_pos htv] at hstep
        have hOV:=(hr5.ownV h5.outer).at
        have iO:=fun w'=>hOV.idx oneLists k (by rw [h5.len]; omega) w'
        have cO:=hOV.cellV k (by rw [h5.len]; omega)
        have hrow:=hr5.ownI (h5.rows k (by omega))
        rw [updN_same] at hrow
        have hml:(midW v G.length gk j).length=gk.length:=midW_len _ _ _ _ hj
        have iE:=fun w'=>hrow.at.idx j (by rw [hml]; exact hjl) w'
        have cE:=hrow.at.cellD j (by rw [hml]; exact hjl)
        have fE:=hrow.frz j (by rw [hml]; exact hjl)
        have kE:=(hrow.toV.blkB j (by rw [List.length_map,hml]; exact hjl)).2
        obtain ⟨f6,hr6,h6⟩:=h5.elem hr5 k (by omega) j (by rw [updN_same,hml]; exact hjl) (G.length:Int)
        rw [updN_same,← hstep,updN_updN] at h6
        have b6:Below w1.heap.size w1 (wo.setCell (valAt (vAt vals k) j) (.int .i64 (G.length:Int))):=b5.setCell kE _
        generalize valAt (vAt vals k) j=ea at *
        generalize vAt vals k=ev at *
        generalize valAt (.slice oa on oc) k=ua at *
        generalize (midW v G.length gk j).getD j 0=eo at *
        subst htv
        replace hr6:=Hd hr6
        replace hr5:=Hd hr5
        replace hOV:=Hd hOV
        replace hrow:=Hd hrow
        replace hstep:=Hd hstep
        replace hsame:=Hd hsame
        replace hml:=Hd hml
        go_wp2
        go_roundw
        case measure=>simp [intOf]; omega
        case rel=>exact ⟨j+1,f6,vals,by omega,by go_num,hr6.out,b6,h6⟩
       ·have hq:(t==(v:Int))=false:=by simp [htv]
        have h6:=h5
        rw [← hsame htv] at h6
        replace hr5:=Hd hr5
        replace hstep:=Hd hstep
        replace hsame:=Hd hsame
        go_wp2
        go_roundw
        case measure=>simp [intOf]; omega
        case rel=>exact ⟨j+1,f5,vals,by omega,by go_num,hr5.out,b5,h6⟩
      ·obtain rfl:j=gk.length:=by omega
       rw [midW_full,hsucc.out] at h5
       replace hr5:=Hd hr5
       go_wp2
       go_roundw
       case measure=>simp [intOf]; omega
       case rel=>exact ⟨k+1,f5,vals,by omega,by go_num,hr5.out,b5,h5⟩
    ·obtain rfl:k=G.length:=by omega
     have hWL:=h2.lists hr2
     have hWL:ListsAt wo (.slice oa on oc) (wideG G v):=hWL
     obtain ⟨oa',oc',he⟩:=hWL.shape
     injection he with he1 he2 he3
     clear he1 he3
     rw [he2] at hWL
     have hF:=first_any oa oc (wideG G v) v G.length wo hWL (wideG_ok hok.out v) (by rw [wideG_len]; omega) (by rw [wideG_len]; omega) (by rw [wideG_len]; omega) (fun u hu=>by
      rw [wideG_len] at hu
      by_cases e:u<G.length
      ·rw [wideG_row G v u e,mapW_len]; exact hsz.out u e
      ·obtain rfl:u=G.length:=by omega
       rw [wideG_last]; exact Nat.zero_le _)
     rw [← he2] at hF
     replace hF:=Hd hF
     replace he2:=Hd he2
     replace hWL:=Hd hWL
     replace hr2:=Hd hr2
     go_wp2_with fail
     refine hF.out.mono ?_
     rintro e w5 ⟨xv,rfl,b5,hx⟩
     have hbw:Below w.heap.size w wo:=b1.trans (b2.mono b1.size)
     rcases hx with ⟨u,hu,hxo⟩ | ⟨hno,rfl⟩
     ·have hul:=hu.way.pos
      obtain ⟨g,c,e1,e2⟩:=row_shape (show w5.ownsRow wo.heap.size 3 1 xv (castI u).length ((castI u).map (Value.int .i64)) from hxo) (by rw [castI_len]; exact hul)
      obtain ⟨m,hm⟩:∃ m,u.length=m+1:=⟨u.length-1,by omega⟩
      rw [castI_len,hm] at e1 e2
      subst e1
      have hcut:=hxo.cut (by rw [castI_len,hm])
      have hdl:(castI u).take m=castI u.dropLast:=by
       unfold castI
       rw [List.dropLast_eq_take,hm,← List.map_take]; rfl
      rw [hdl] at hcut
      have hmb:m≤9223372036854775806:=by
       have:=hxo.at.len_le
       rw [castI_len,hm] at this; omega
      have hwr:IntKind.i64.wrap (m:Int)=m:=wrapK (by omega) (by omega)
      have hsl:(0≤(m:Int)∧(m:Int)≤(c:Int)):=⟨by omega,by omega⟩
      have hne:(((m:Int)+1)==0)=false:=by rw [beq_eq_false_iff_ne]; omega
      replace hcut:=Hd hcut
      replace hxo:=Hd hxo
      replace hdl:=Hd hdl
      replace hm:=Hd hm
      go_wp2
      go_ret2
      exact ⟨_,_,rfl,Below.step hbw b5,⟨by rw [hp.out]; rfl,⟨fun _=>by rw [Int.toNat_natCast]; exact .inl ⟨u,hu,hcut.out.mono hbw.size⟩,fun q=>absurd hp.out q⟩⟩⟩
     ·replace hno:=Hd hno
      go_wp2
      go_ret2
      exact ⟨_,_,rfl,Below.step hbw b5,⟨by rw [hp.out]; rfl,⟨fun _=>by rw [Int.toNat_natCast]; exact .inr ⟨hno.out,rfl⟩,fun q=>absurd hp.out q⟩⟩⟩
end Go.Proofs.YtindfaehjoileaaGreatDoor
namespace Go.Proofs.YtindfaehjoileaaGreatDoor
open Go.RowKit
set_option maxRecDepth 100000
def ChainOk (G:List (List Int)) (u:List Nat):Prop:=∀ i x,u[i]?=some x→x<G.length∧∀ j y,i=j+1→u[j]?=some y→(x:Int)∈G.getD y []
theorem adj_mem {G:List (List Int)} (hok:GraphOk G) {y x:Nat} (hy:y<G.length) (h:x∈adjOf G y):(x:Int)∈G.getD y []:=by
 obtain ⟨z,hz,rfl⟩:=List.mem_map.1 h
 have:=hok y hy z hz
 rwa [Int.toNat_of_nonneg this.1]
theorem way_chain {G:List (List Int)} (hok:GraphOk G) {x y:Nat} {w:List Nat} (h:Way (adjOf G) x y w) (hx:x<G.length):ChainOk G w:=by
 induction h with
 | one x =>
  intro i z hz
  have hi:=get_of hz
  simp only [List.length_cons,List.length_nil] at hi
  obtain rfl:i=0:=by omega
  injection hz with hz; subst hz
  exact ⟨hx,fun j y e=>by omega⟩
 | @cons x t y w ht h ih =>
  have htn:=hok.lt x hx t ht
  have ih:=ih htn
  intro i z hz
  cases i with
  | zero=>injection hz with hz; subst hz; exact ⟨hx,fun j y e=>by omega⟩
  | succ i =>
   have hz':w[i]?=some z:=hz
   refine ⟨(ih i z hz').1,fun j y e hy=>?_⟩
   have e:j=i:=by omega
   subst e
   cases j with
   | zero =>
    injection hy with hy; subst hy
    obtain ⟨w',rfl⟩:=h.ne
    injection hz' with hz'; subst hz'
    exact adj_mem hok hx ht
   | succ j=>exact (ih (j+1) z hz').2 j y rfl hy
theorem ChainOk.dropLast {G:List (List Int)} {u:List Nat} (h:ChainOk G u):ChainOk G u.dropLast:=by
 have up:∀ i x,u.dropLast[i]?=some x→u[i]?=some x:=fun i x hx=>by
  rw [List.getElem?_dropLast] at hx
  split at hx
  ·exact hx
  ·cases hx
 intro i x hx
 exact ⟨(h i x (up i x hx)).1,fun j y e hy=>(h i x (up i x hx)).2 j y e (up j y hy)⟩
theorem ChainOk.nil (G:List (List Int)):ChainOk G []:=fun i x hx=>by simp at hx
set_option maxHeartbeats 8000000
theorem dm (p N:Nat) (hp:p≤100000000):(p:Int).tdiv (N:Int)=((p/N:Nat):Int)∧(p:Int).tmod (N:Int)=((p%N:Nat):Int)∧(p:Int)/(N:Int)=((p/N:Nat):Int)∧(p:Int)%(N:Int)=((p%N:Nat):Int) ∧
 IntKind.i64.wrap ((p/N:Nat):Int)=((p/N:Nat):Int)∧IntKind.i64.wrap ((p%N:Nat):Int)=((p%N:Nat):Int):=by
 have h1:p/N≤p:=Nat.div_le_self _ _
 have h2:p%N≤p:=Nat.mod_le _ _
 refine ⟨by rw [Int.tdiv_eq_ediv_of_nonneg (by omega)]; simp,by rw [Int.tmod_eq_emod_of_nonneg (by omega)]; simp,by simp,by simp,?_,?_⟩
 ·generalize p/N=a at *; exact wrapK (by omega) (by omega)
 ·generalize p%N=a at *; exact wrapK (by omega) (by omega)
theorem words1_any (x:Int) (b N:Nat) (w:World) (hN:N≤10000) (hb:w.cell? ⟨b,0,none⟩=some (.int .i64 N)) :
 Calls Tryz.prog 279 #[.int .i64 x,.pointer (some ⟨b,0,none⟩)] w fun e w'=>e=.returned (.bool (odd1 ((N*N:Nat):Int) x))∧w=w':=by
 have hM:(N:Int)*(N:Int)=((N*N:Nat):Int):=by simp
 have hM2:=Nat.mul_le_mul hN hN
 by_cases h:x<0
 ·have e:odd1 ((N*N:Nat):Int) x=true:=by simp [odd1,h]
  rw [e]
  clear hM hM2
  go_enter Tryz.func279,Tryz.ntmps279
  go_wp2
  go_ret
  exact ⟨rfl,rfl⟩
 ·have e:odd1 ((N*N:Nat):Int) x=decide (((N*N:Nat):Int)≤x):=by simp [odd1,h]
  rw [e]
  generalize N*N=M at *
  clear e
  go_enter Tryz.func279,Tryz.ntmps279
  go_wp2
  go_ret
  exact ⟨ret_bool (by simp),rfl⟩
theorem eg_words1 (args:Array Value) (w:World):(callFunc 279 args).run Tryz.prog w=.ok (.enter 279 args) w:=by kernel_rfl
theorem words2_any (K R x q:Nat) (w:World) (hk1:1≤K) (hk4:K≤4) (hR:R≤3) (hx:x≤100000) (q0:w.cell? ⟨q,0,none⟩=some (.int .i64 K)) (q1:w.cell? ⟨q,1,none⟩=some (.int .i64 R)) :
 Calls Tryz.prog 281 #[.int .i64 x,.pointer (some ⟨q,0,none⟩)] w (Ret1 (fun y w'=>OwnI w.heap.size w' y (digs K (2*R) x)) w):=by
 obtain ⟨ov,w1,mk,ho,hb1⟩:=run_makeI (2*(R:Int)) (2*R) w (by omega) (by omega)
 have lo:=ho.at.len
 rw [List.length_replicate] at lo
 obtain ⟨oa,on,oc,rfl⟩:=ho.at.shape
 have hql:=World.block_lt_of_cell? _ _ q0
 have hK0:((K:Int)==0)=false:=by rw [beq_eq_false_iff_ne]; omega
 have hK1:¬ (K:Int)=0:=by omega
 have hK2:(0:Int)<K:=by omega
 have hK3:¬ K=0:=by omega
 obtain ⟨N,hN⟩:∃ N,2*R=N:=⟨_,rfl⟩
 have hN6:N≤6:=by omega
 rw [hN] at ho lo ⊢
 have hNi:2*(R:Int)=(N:Int):=by omega
 have hNw:IntKind.i64.wrap (N:Int)=N:=wrapK (by omega) (by omega)
 rw [hNi] at mk
 replace ho:=Hd ho
 replace hN:=Hd hN
 go_enter Tryz.func281,Tryz.ntmps281
 go_wp2_with fail
 clear mk
 go_loopw [0,12] (fun xv jv wr=>∃ j:Nat,j≤N∧jv=.int .i64 j∧xv=.int .i64 (x/pw K j:Nat)∧OwnI w.heap.size wr (.slice oa on oc) ((List.replicate N (0:Int)).take (N-j)++(digs K N x).drop (N-j))∧Below w.heap.size w wr) (fun _ jv _=>N-(intOf jv).toNat)
 case atStart=>exact ⟨0,by omega,rfl,by simp [pw],by rw [Nat.sub_zero,List.drop_of_length_le (by rw [digs_length]; exact Nat.le_refl _),List.append_nil,List.take_of_length_le (by simp)]; exact ho.out,hb1⟩
 case round =>
  obtain ⟨j,hj,rfl,rfl,hO,hbI⟩:=hrel
  obtain ⟨wi,rfl⟩:∃ wi:World,wi=wr:=⟨_,rfl⟩
  by_cases hjl:j<N
  ·have hXl:((List.replicate N (0:Int)).take (N-j)++(digs K N x).drop (N-j)).length=N:=by simp only [List.length_append,List.length_take,List.length_replicate,List.length_drop,digs_length]; omega
   have i1:∀ w',(Instr.indexAt 30 (.slice oa on oc) (.int .i64 ((N:Int)-1-(j:Int)))).run Tryz.prog w'=.ok (.pointer (some (valAt (.slice oa on oc) (N-1-j)))) w':=by
    intro w'
    have:=hO.at.idxI ((N:Int)-1-(j:Int)) (by omega) (by rw [hXl]; omega) w'
    rwa [show ((N:Int)-1-(j:Int)).toNat=N-1-j by omega] at this
   have c1:=hO.at.cellD (N-1-j) (by rw [hXl]; omega)
   have f1:=hO.frz (N-1-j) (by rw [hXl]; omega)
   have hS:=hO.set (N-1-j) (by rw [hXl]; omega) ((x/pw K j%K:Nat):Int)
   have hbS:=hO.setBelow hbI (N-1-j) (by rw [hXl]; omega) (.int .i64 ((x/pw K j%K:Nat):Int))
   rw [digs_fill K N x j hjl _ (by simp)] at hS
   have hqd:x/pw K j/K=x/pw K (j+1):=by rw [Nat.div_div_eq_div_mul,← pw_succ]
   have hql:x/pw K j≤100000:=Nat.le_trans (Nat.div_le_self _ _) hx
   have y0:=(hbI.cell (p:=⟨q,0,none⟩) (World.block_lt_of_cell? _ _ q0)).trans q0
   have hbe:=hO.blkB (N-1-j) (by rw [hXl]; omega)
   generalize ((List.replicate N (0:Int)).take (N-j)++(digs K N x).drop (N-j)).getD (N-1-j) 0=y at c1
   have y0':(wi.setCell (valAt (.slice oa on oc) (N-1-j)) (.int .i64 ((x/pw K j%K:Nat):Int))).cell? ⟨q,0,none⟩=some (.int .i64 K):=(hbS.cell (p:=⟨q,0,none⟩) (World.block_lt_of_cell? _ _ q0)).trans q0
   have hlen':=lo
   generalize valAt (.slice oa on oc) (N-1-j)=ya at *
   generalize x/pw K j=z at *
   obtain ⟨a1,a2,a3,a4,a5,a6⟩:=dm z K (by omega)
   obtain ⟨d,hd⟩:∃ d,z%K=d:=⟨_,rfl⟩
   obtain ⟨e,he⟩:∃ e,z/K=e:=⟨_,rfl⟩
   rw [hd] at a2 a4 a6 hS hbS y0'
   rw [he] at a1 a3 a5 hqd
   replace hS:=Hd hS
   replace hbS:=Hd hbS
   replace hqd:=Hd hqd
   replace hO:=Hd hO
   replace hd:=Hd hd
   replace he:=Hd he
   clear hXl
   go_wp2
   go_roundw
   case rel=>exact ⟨j+1,by omega,by go_num,by rw [← hqd.out],hS.out,hbS.out⟩
   case measure=>simp [intOf]; omega
  ·obtain rfl:j=N:=by omega
   rw [Nat.sub_self,List.take_zero,List.drop_zero,List.nil_append] at hO
   replace hO:=Hd hO
   go_wp2
   go_ret
   exact ⟨_,rfl,hbI,hO.out⟩
end Go.Proofs.YtindfaehjoileaaGreatDoor
