/-
  Texts that the proof leans on.
-/
import Derived.Test.YtkaoebokbfcmhaaGreatDoorMWf5
import Derived.WalkArith
import Derived.Deep.LoopGhost
import Derived.Deep.DeepCutAuto
import Derived.RangeFuncBox
import Derived.RangeFuncLeaves
import Derived.Shelf.Abstract
import Derived.OwnWalkIn
import Derived.TacticsInMore
import Derived.LoopNIn
import Derived.LoopIn
import Derived.Maps.AppendAt
import Derived.Ground.SlgmProg
import Derived.Shelf.SlGeneric
import Derived.Shelf.SortM.Plain
import Derived.Shelf.SortM.SortNone
import Derived.Lib.SlKeysI
import Derived.Ground.NamesProg
import Derived.Shelf.Slices.Cells
namespace Go.Proofs.YtkaoebokbfcmhaaGreatDoor
open Go.RowKit
set_option maxRecDepth 100000
set_option maxHeartbeats 8000000
def names0:Names:=fun i=>if i=(3,0) then some (rowI (.slice none 0 0) []) else if i=(5,0) then some ⟨270,2,.slice none 0 0,0,[]⟩ else none
theorem rows0 (B:Nat) (w:World):Rows B w names0:=by
 refine ⟨fun i r hi=>?_,fun i j r s hi hj hne=>?_⟩
 ·unfold names0 at hi
  split at hi
  ·injection hi with hi; subst hi; exact OwnI.nil B w
  ·split at hi
   ·injection hi with hi; subst hi; exact World.ownsRow_nil w B _ 2
   ·cases hi
 ·left
  unfold names0 at hi
  split at hi
  ·injection hi with hi; subst hi; rfl
  ·split at hi
   ·injection hi with hi; subst hi; rfl
   ·cases hi
theorem tab_zero (n:Nat):tab n (fun _=>0)=List.replicate n 0:=by
 unfold tab; apply List.ext_getElem<;>simp
theorem tabI_neg (n:Nat):tabI n (fun _=>-1)=List.replicate n (-1):=by
 unfold tabI; apply List.ext_getElem<;>simp
theorem search_box {B:Nat} {W:World} {f:Names} {na:Option Addr} {gl nc n:Nat} {lv fv pv:Value} (hr:Rows B W f) (hB:B≤W.heap.size)
 (h1:f (1,0)=some (rowI lv (List.replicate n 0))) (h2:f (2,0)=some (rowI fv (List.replicate n 0))) (h4:f (4,0)=some (rowI pv (List.replicate n (-1))))
 (h3:f (3,0)=some (rowI (.slice none 0 0) [])) (h5:f (5,0)=some ⟨270,2,.slice none 0 0,0,[]⟩) :
 Rows B (W.alloc (.cells #[.slice na gl nc,lv,fv,.slice none 0 0,pv,.slice none 0 0,.int .i64 0] 244)) (upd f (0,0) (some ⟨244,7,.slice (some ⟨W.heap.size,0,none⟩) 1 1,1,[.slice na gl nc,lv,fv,.slice none 0 0,pv,.slice none 0 0,.int .i64 0]⟩)) ∧
  SN (upd f (0,0) (some ⟨244,7,.slice (some ⟨W.heap.size,0,none⟩) 1 1,1,[.slice na gl nc,lv,fv,.slice none 0 0,pv,.slice none 0 0,.int .i64 0]⟩)) W.heap.size (.slice na gl nc) lv fv pv (.slice none 0 0) (.slice none 0 0) n initS:=by
 refine ⟨hr.add (belowAlloc W _) ⟨rfl,.inr ⟨W.heap.size,1,_,rfl,hB,heap_alloc_new W _,Nat.le_refl _,by unfold maxLen; omega,rfl,rfl⟩⟩ (fun k hk=>by cases hk; exact Nat.le_refl _),⟨upd_same _ _ _,?_,?_,?_,?_,?_⟩⟩
 ·rw [upd_ne _ _ (by simp),h1]; show _=some (rowI lv (tab n fun _=>0)); rw [tab_zero]
 ·rw [upd_ne _ _ (by simp),h2]; show _=some (rowI fv (tab n fun _=>0)); rw [tab_zero]
 ·rw [upd_ne _ _ (by simp),h3]; rfl
 ·rw [upd_ne _ _ (by simp),h4]; show _=some (rowI pv (tabI n fun _=>-1)); rw [tabI_neg]
 ·rw [upd_ne _ _ (by simp),h5]; rfl
def PartsPost (r:Nat→Addr) (w:World) (G:List (List Int)) (x y:Value) (w':World):Prop :=
 ErrIs r w' (checkG G) y∧(checkG G=none→∃ ps,PartsOf G.length (adjOf G) ps∧OwnI w.heap.size w' x ps)∧(checkG G≠none→x=.slice none 0 0)
theorem parts_any (r:Nat→Addr) (na:Option Addr) (nc:Nat) (G:List (List Int)) (w:World) (hg:Glob r w) (h:ListsAt w (.slice na G.length nc) G) (hsz:∀ k,k<G.length→(G.getD k []).length≤17592186044416) :
 Calls Tryz.prog 132 #[.slice na G.length nc] w (Ret2 (PartsPost r w G) w):=by
 have hC:=graph_check r na nc G w hg h hsz
 cases hck:checkG G with
 | some t =>
  rw [hck] at hC
  replace hck:=Hd hck
  replace h:=Hd h
  replace hg:=Hd hg
  replace hsz:=Hd hsz
  go_enter Tryz.func132,Tryz.ntmps132
  go_wp2_with fail
  refine hC.mono ?_
  rintro e w1 ⟨y,rfl,b1,he⟩
  obtain ⟨T,a,rfl⟩:=he.some_shape
  replace he:=Hd he
  go_wp2
  go_ret2
  exact ⟨_,_,rfl,b1,⟨by rw [hck.out]; exact he.out,⟨fun q=>(by rw [hck.out] at q; cases q),fun _=>rfl⟩⟩⟩
 | none =>
  rw [hck] at hC
  obtain ⟨hn,harr,hok⟩:=checkG_none hck
  replace hck:=Hd hck
  replace h:=Hd h
  replace hg:=Hd hg
  replace hsz:=Hd hsz
  replace hok:=Hd hok
  go_enter Tryz.func132,Tryz.ntmps132
  go_wp2_with fail
  refine hC.mono ?_
  rintro e w1 ⟨y,rfl,b1,he⟩
  obtain rfl:=he.none_eq
  clear he hC
  go_upto_region 5 with fail
  go_cut [6] from 14 (fun s6 wx=>∃ d f lv fv pv,s6=.pointer (some ⟨d,0,none⟩)∧Below w1.heap.size w1 wx∧Rows w1.heap.size wx f∧SN f d (.slice na G.length nc) lv fv pv (.slice none 0 0) (.slice none 0 0) G.length initS)
  case first =>
   obtain ⟨W0,hW0⟩:∃ W0:World,W0=w1.drew:=⟨_,rfl⟩
   have b0:Below w1.heap.size w1 W0:=by rw [hW0]; exact (Below.refl _ _).drew
   have R0:=rows0 w1.heap.size W0
   have hB0:=b0.size
   refine wp_region_noPanic ?_
   refine wp_region_any (by kernel_rfl) ?_
   change wpAny _ _ _ _ _ _ _ (World.drew _)
   rw [← hW0]
   clear hW0
   refine pqA 0 21 ?_
   refine pqA 1 22 ?_
   refine pqA 3 24 ?_
   refine pqA 6 27 ?_
   refine wpAny_ready (rs:=[2,4,5]) (by kernel_rfl) (by simp) (AllReady.cons rfl (fun KK hK=>?_) (AllReady.cons rfl (fun KK hK=>?_) (AllReady.cons rfl (fun KK hK=>?_) (AllReady.nil))))
   ·obtain ⟨lv,W1,mk,ho,hb⟩:=run_makeI (G.length:Int) G.length W0 rfl (by omega)
    obtain ⟨lva,lvn,lvc,rfl⟩:=ho.at.shape
    go_simp
    refine hK _ _ ?_
    clear hK KK mk
    have R1:=R0.add (i:=(1,0)) (r':=rowI (.slice lva lvn lvc) (List.replicate G.length 0)) hb (ho.mono hB0) (fun k hk=>(ho.lt k hk).1)
    have b1:=b0.trans (hb.mono hB0)
    have hB1:=Nat.le_trans hB0 hb.size
    clear ho hb R0
    refine wpAny_ready (rs:=[4,5]) (by kernel_rfl) (by simp) (AllReady.cons rfl (fun KK hK=>?_) (AllReady.cons rfl (fun KK hK=>?_) (AllReady.nil)))
    ·obtain ⟨fv,W2,mk,ho,hb⟩:=run_makeI (G.length:Int) G.length W1 rfl (by omega)
     obtain ⟨fva,fvn,fvc,rfl⟩:=ho.at.shape
     go_simp
     refine hK _ _ ?_
     clear hK KK mk
     have R2:=R1.add (i:=(2,0)) (r':=rowI (.slice fva fvn fvc) (List.replicate G.length 0)) hb (ho.mono hB1) (fun k hk=>(ho.lt k hk).1)
     have b2:=b1.trans (hb.mono hB1)
     have hB2:=Nat.le_trans hB1 hb.size
     clear ho hb R1
     refine wpAny_ready (rs:=[5]) (by kernel_rfl) (by simp) (AllReady.cons rfl (fun KK hK=>?_) (AllReady.nil))
     ·go_simp
      refine hK _ _ ?_
      clear hK KK
      have hb:=belowAlloc W2 (.cells #[.int .i64 (-1)] 3)
      have hI3:=(OwnI.lit W2.heap.size W2 (Nat.le_refl _) [-1] (by simp [maxLen]) #[.int .i64 (-1)] rfl 1 rfl).at
      obtain ⟨W3,hW3⟩:∃ W3:World,W3=W2.alloc (.cells #[.int .i64 (-1)] 3):=⟨_,rfl⟩
      rw [← hW3]
      rw [← hW3] at hb hI3
      clear hW3
      have R3:=R2.below hb
      have b3:=b2.trans (hb.mono hB2)
      have hB3:=Nat.le_trans hB2 hb.size
      clear hb R2
      refine wpAny_ready (rs:=[7]) (by kernel_rfl) (by simp) (AllReady.cons rfl (fun KK hK=>?_) (AllReady.nil))
      ·go_simp
       refine (repeat_any _ (-1) G.length _ hI3 (by omega)).mono ?_
       rintro e W4 ⟨pv,rfl,hb,ho⟩
       obtain ⟨pva,pvn,pvc,rfl⟩:=ho.at.shape
       refine hK _ _ ?_
       clear hK KK
       have R4:=R3.add (i:=(4,0)) (r':=rowI (.slice pva pvn pvc) (List.replicate G.length (-1))) hb (ho.mono hB3) (fun k hk=>(ho.lt k hk).1)
       have b4:=b3.trans (hb.mono hB3)
       have hB4:=Nat.le_trans hB3 hb.size
       have hI4:=hI3.below hb
       clear ho hb R3 hI3
       refine pqA 8 29 ?_
       have Rb:=search_box (na:=na) (gl:=G.length) (nc:=nc) (n:=G.length) (lv:=.slice lva lvn lvc) (fv:=.slice fva fvn fvc) (pv:=.slice pva pvn pvc) R4 hB4 (by simp [upd]) (by simp [upd]) (by simp [upd]) (by simp [upd,names0]) (by simp [upd,names0])
       replace Rb:=Hd Rb
       replace R4:=Hd R4
       have bb:=b4.trans ((belowAlloc W4 (.cells #[.slice na G.length nc,.slice lva lvn lvc,.slice fva fvn fvc,.slice none 0 0,.slice pva pvn pvc,.slice none 0 0,.int .i64 0] 244)).mono hB4)
       refine wpAny_ready (rs:=[9]) (by kernel_rfl) (by simp) (AllReady.cons rfl (fun KK hK=>?_) AllReady.nil)
       go_simp
       refine hK _ _ ?_
       clear hK KK
       refine pqA 10 6 ?_
       refine wpAny_done (by kernel_rfl) ?_ _
       refine NoPanic.normal ?_
       go_wp2
       go_meet
       case rel=>exact ⟨_,_,_,_,_,rfl,bb,Rb.out.1,Rb.out.2⟩
    ·go_simp
     refine hK _ _ ?_
     clear hK KK
     have hb:=belowAlloc W1 (.cells #[.int .i64 (-1)] 3)
     have hI5:=(OwnI.lit W1.heap.size W1 (Nat.le_refl _) [-1] (by simp [maxLen]) #[.int .i64 (-1)] rfl 1 rfl).at
     obtain ⟨W5,hW5⟩:∃ W5:World,W5=W1.alloc (.cells #[.int .i64 (-1)] 3):=⟨_,rfl⟩
     rw [← hW5]
     rw [← hW5] at hb hI5
     clear hW5
     have R5:=R1.below hb
     have b5:=b1.trans (hb.mono hB1)
     have hB5:=Nat.le_trans hB1 hb.size
     clear hb R1
     refine wpAny_ready (rs:=[4,7]) (by kernel_rfl) (by simp) (AllReady.cons rfl (fun KK hK=>?_) (AllReady.cons rfl (fun KK hK=>?_) (AllReady.nil)))
     ·obtain ⟨fv,W6,mk,ho,hb⟩:=run_makeI (G.length:Int) G.length W5 rfl (by omega)
      obtain ⟨fva,fvn,fvc,rfl⟩:=ho.at.shape
      go_simp
      refine hK _ _ ?_
      clear hK KK mk
      have R6:=R5.add (i:=(2,0)) (r':=rowI (.slice fva fvn fvc) (List.replicate G.length 0)) hb (ho.mono hB5) (fun k hk=>(ho.lt k hk).1)
      have b6:=b5.trans (hb.mono hB5)
      have hB6:=Nat.le_trans hB5 hb.size
      have hI6:=hI5.below hb
      clear hI5
      clear ho hb R5
      refine wpAny_ready (rs:=[7]) (by kernel_rfl) (by simp) (AllReady.cons rfl (fun KK hK=>?_) (AllReady.nil))
      ·go_simp
       refine (repeat_any _ (-1) G.length _ hI6 (by omega)).mono ?_
       rintro e W7 ⟨pv,rfl,hb,ho⟩
       obtain ⟨pva,pvn,pvc,rfl⟩:=ho.at.shape
       refine hK _ _ ?_
       clear hK KK
       have R7:=R6.add (i:=(4,0)) (r':=rowI (.slice pva pvn pvc) (List.replicate G.length (-1))) hb (ho.mono hB6) (fun k hk=>(ho.lt k hk).1)
       have b7:=b6.trans (hb.mono hB6)
       have hB7:=Nat.le_trans hB6 hb.size
       have hI7:=hI6.below hb
       clear ho hb R6 hI6
       refine pqA 8 29 ?_
       have Rb:=search_box (na:=na) (gl:=G.length) (nc:=nc) (n:=G.length) (lv:=.slice lva lvn lvc) (fv:=.slice fva fvn fvc) (pv:=.slice pva pvn pvc) R7 hB7 (by simp [upd]) (by simp [upd]) (by simp [upd]) (by simp [upd,names0]) (by simp [upd,names0])
       replace Rb:=Hd Rb
       replace R7:=Hd R7
       have bb:=b7.trans ((belowAlloc W7 (.cells #[.slice na G.length nc,.slice lva lvn lvc,.slice fva fvn fvc,.slice none 0 0,.slice pva pvn pvc,.slice none 0 0,.int .i64 0] 244)).mono hB7)
       refine wpAny_ready (rs:=[9]) (by kernel_rfl) (by simp) (AllReady.cons rfl (fun KK hK=>?_) AllReady.nil)
       go_simp
       refine hK _ _ ?_
       clear hK KK
       refine pqA 10 6 ?_
       refine wpAny_done (by kernel_rfl) ?_ _
       refine NoPanic.normal ?_
       go_wp2
       go_meet
       case rel=>exact ⟨_,_,_,_,_,rfl,bb,Rb.out.1,Rb.out.2⟩
     ·go_simp
      refine (repeat_any _ (-1) G.length _ hI5 (by omega)).mono ?_
      rintro e W8 ⟨pv,rfl,hb,ho⟩
      obtain ⟨pva,pvn,pvc,rfl⟩:=ho.at.shape
      refine hK _ _ ?_
      clear hK KK
      have R8:=R5.add (i:=(4,0)) (r':=rowI (.slice pva pvn pvc) (List.replicate G.length (-1))) hb (ho.mono hB5) (fun k hk=>(ho.lt k hk).1)
      have b8:=b5.trans (hb.mono hB5)
      have hB8:=Nat.le_trans hB5 hb.size
      have hI8:=hI5.below hb
      clear ho hb R5 hI5
      refine wpAny_ready (rs:=[4]) (by kernel_rfl) (by simp) (AllReady.cons rfl (fun KK hK=>?_) (AllReady.nil))
      ·obtain ⟨fv,W9,mk,ho,hb⟩:=run_makeI (G.length:Int) G.length W8 rfl (by omega)
       obtain ⟨fva,fvn,fvc,rfl⟩:=ho.at.shape
       go_simp
       refine hK _ _ ?_
       clear hK KK mk
       have R9:=R8.add (i:=(2,0)) (r':=rowI (.slice fva fvn fvc) (List.replicate G.length 0)) hb (ho.mono hB8) (fun k hk=>(ho.lt k hk).1)
       have b9:=b8.trans (hb.mono hB8)
       have hB9:=Nat.le_trans hB8 hb.size
       have hI9:=hI8.below hb
       clear hI8
       clear ho hb R8
       refine pqA 8 29 ?_
       have Rb:=search_box (na:=na) (gl:=G.length) (nc:=nc) (n:=G.length) (lv:=.slice lva lvn lvc) (fv:=.slice fva fvn fvc) (pv:=.slice pva pvn pvc) R9 hB9 (by simp [upd]) (by simp [upd]) (by simp [upd]) (by simp [upd,names0]) (by simp [upd,names0])
       replace Rb:=Hd Rb
       replace R9:=Hd R9
       have bb:=b9.trans ((belowAlloc W9 (.cells #[.slice na G.length nc,.slice lva lvn lvc,.slice fva fvn fvc,.slice none 0 0,.slice pva pvn pvc,.slice none 0 0,.int .i64 0] 244)).mono hB9)
       refine wpAny_ready (rs:=[9]) (by kernel_rfl) (by simp) (AllReady.cons rfl (fun KK hK=>?_) AllReady.nil)
       go_simp
       refine hK _ _ ?_
       clear hK KK
       refine pqA 10 6 ?_
       refine wpAny_done (by kernel_rfl) ?_ _
       refine NoPanic.normal ?_
       go_wp2
       go_meet
       case rel=>exact ⟨_,_,_,_,_,rfl,bb,Rb.out.1,Rb.out.2⟩
   ·obtain ⟨fv,W10,mk,ho,hb⟩:=run_makeI (G.length:Int) G.length W0 rfl (by omega)
    obtain ⟨fva,fvn,fvc,rfl⟩:=ho.at.shape
    go_simp
    refine hK _ _ ?_
    clear hK KK mk
    have R10:=R0.add (i:=(2,0)) (r':=rowI (.slice fva fvn fvc) (List.replicate G.length 0)) hb (ho.mono hB0) (fun k hk=>(ho.lt k hk).1)
    have b10:=b0.trans (hb.mono hB0)
    have hB10:=Nat.le_trans hB0 hb.size
    clear ho hb R0
    refine wpAny_ready (rs:=[2,5]) (by kernel_rfl) (by simp) (AllReady.cons rfl (fun KK hK=>?_) (AllReady.cons rfl (fun KK hK=>?_) (AllReady.nil)))
    ·obtain ⟨lv,W11,mk,ho,hb⟩:=run_makeI (G.length:Int) G.length W10 rfl (by omega)
     obtain ⟨lva,lvn,lvc,rfl⟩:=ho.at.shape
     go_simp
     refine hK _ _ ?_
     clear hK KK mk
     have R11:=R10.add (i:=(1,0)) (r':=rowI (.slice lva lvn lvc) (List.replicate G.length 0)) hb (ho.mono hB10) (fun k hk=>(ho.lt k hk).1)
     have b11:=b10.trans (hb.mono hB10)
     have hB11:=Nat.le_trans hB10 hb.size
     clear ho hb R10
     refine wpAny_ready (rs:=[5]) (by kernel_rfl) (by simp) (AllReady.cons rfl (fun KK hK=>?_) (AllReady.nil))
     ·go_simp
      refine hK _ _ ?_
      clear hK KK
      have hb:=belowAlloc W11 (.cells #[.int .i64 (-1)] 3)
      have hI12:=(OwnI.lit W11.heap.size W11 (Nat.le_refl _) [-1] (by simp [maxLen]) #[.int .i64 (-1)] rfl 1 rfl).at
      obtain ⟨W12,hW12⟩:∃ W12:World,W12=W11.alloc (.cells #[.int .i64 (-1)] 3):=⟨_,rfl⟩
      rw [← hW12]
      rw [← hW12] at hb hI12
      clear hW12
      have R12:=R11.below hb
      have b12:=b11.trans (hb.mono hB11)
      have hB12:=Nat.le_trans hB11 hb.size
      clear hb R11
      refine wpAny_ready (rs:=[7]) (by kernel_rfl) (by simp) (AllReady.cons rfl (fun KK hK=>?_) (AllReady.nil))
      ·go_simp
       refine (repeat_any _ (-1) G.length _ hI12 (by omega)).mono ?_
       rintro e W13 ⟨pv,rfl,hb,ho⟩
       obtain ⟨pva,pvn,pvc,rfl⟩:=ho.at.shape
       refine hK _ _ ?_
       clear hK KK
       have R13:=R12.add (i:=(4,0)) (r':=rowI (.slice pva pvn pvc) (List.replicate G.length (-1))) hb (ho.mono hB12) (fun k hk=>(ho.lt k hk).1)
       have b13:=b12.trans (hb.mono hB12)
       have hB13:=Nat.le_trans hB12 hb.size
       have hI13:=hI12.below hb
       clear ho hb R12 hI12
       refine pqA 8 29 ?_
       have Rb:=search_box (na:=na) (gl:=G.length) (nc:=nc) (n:=G.length) (lv:=.slice lva lvn lvc) (fv:=.slice fva fvn fvc) (pv:=.slice pva pvn pvc) R13 hB13 (by simp [upd]) (by simp [upd]) (by simp [upd]) (by simp [upd,names0]) (by simp [upd,names0])
       replace Rb:=Hd Rb
       replace R13:=Hd R13
       have bb:=b13.trans ((belowAlloc W13 (.cells #[.slice na G.length nc,.slice lva lvn lvc,.slice fva fvn fvc,.slice none 0 0,.slice pva pvn pvc,.slice none 0 0,.int .i64 0] 244)).mono hB13)
       refine wpAny_ready (rs:=[9]) (by kernel_rfl) (by simp) (AllReady.cons rfl (fun KK hK=>?_) AllReady.nil)
       go_simp
       refine hK _ _ ?_
       clear hK KK
       refine pqA 10 6 ?_
       refine wpAny_done (by kernel_rfl) ?_ _
       refine NoPanic.normal ?_
       go_wp2
       go_meet
       case rel=>exact ⟨_,_,_,_,_,rfl,bb,Rb.out.1,Rb.out.2⟩
    ·go_simp
     refine hK _ _ ?_
     clear hK KK
     have hb:=belowAlloc W10 (.cells #[.int .i64 (-1)] 3)
     have hI14:=(OwnI.lit W10.heap.size W10 (Nat.le_refl _) [-1] (by simp [maxLen]) #[.int .i64 (-1)] rfl 1 rfl).at
     obtain ⟨W14,hW14⟩:∃ W14:World,W14=W10.alloc (.cells #[.int .i64 (-1)] 3):=⟨_,rfl⟩
     rw [← hW14]
     rw [← hW14] at hb hI14
     clear hW14
     have R14:=R10.below hb
     have b14:=b10.trans (hb.mono hB10)
     have hB14:=Nat.le_trans hB10 hb.size
     clear hb R10
     refine wpAny_ready (rs:=[2,7]) (by kernel_rfl) (by simp) (AllReady.cons rfl (fun KK hK=>?_) (AllReady.cons rfl (fun KK hK=>?_) (AllReady.nil)))
     ·obtain ⟨lv,W15,mk,ho,hb⟩:=run_makeI (G.length:Int) G.length W14 rfl (by omega)
      obtain ⟨lva,lvn,lvc,rfl⟩:=ho.at.shape
      go_simp
      refine hK _ _ ?_
      clear hK KK mk
      have R15:=R14.add (i:=(1,0)) (r':=rowI (.slice lva lvn lvc) (List.replicate G.length 0)) hb (ho.mono hB14) (fun k hk=>(ho.lt k hk).1)
      have b15:=b14.trans (hb.mono hB14)
      have hB15:=Nat.le_trans hB14 hb.size
      have hI15:=hI14.below hb
      clear hI14
      clear ho hb R14
      refine wpAny_ready (rs:=[7]) (by kernel_rfl) (by simp) (AllReady.cons rfl (fun KK hK=>?_) (AllReady.nil))
      ·go_simp
       refine (repeat_any _ (-1) G.length _ hI15 (by omega)).mono ?_
       rintro e W16 ⟨pv,rfl,hb,ho⟩
       obtain ⟨pva,pvn,pvc,rfl⟩:=ho.at.shape
       refine hK _ _ ?_
       clear hK KK
       have R16:=R15.add (i:=(4,0)) (r':=rowI (.slice pva pvn pvc) (List.replicate G.length (-1))) hb (ho.mono hB15) (fun k hk=>(ho.lt k hk).1)
       have b16:=b15.trans (hb.mono hB15)
       have hB16:=Nat.le_trans hB15 hb.size
       have hI16:=hI15.below hb
       clear ho hb R15 hI15
       refine pqA 8 29 ?_
       have Rb:=search_box (na:=na) (gl:=G.length) (nc:=nc) (n:=G.length) (lv:=.slice lva lvn lvc) (fv:=.slice fva fvn fvc) (pv:=.slice pva pvn pvc) R16 hB16 (by simp [upd]) (by simp [upd]) (by simp [upd]) (by simp [upd,names0]) (by simp [upd,names0])
       replace Rb:=Hd Rb
       replace R16:=Hd R16
       have bb:=b16.trans ((belowAlloc W16 (.cells #[.slice na G.length nc,.slice lva lvn lvc,.slice fva fvn fvc,.slice none 0 0,.slice pva pvn pvc,.slice none 0 0,.int .i64 0] 244)).mono hB16)
       refine wpAny_ready (rs:=[9]) (by kernel_rfl) (by simp) (AllReady.cons rfl (fun KK hK=>?_) AllReady.nil)
       go_simp
       refine hK _ _ ?_
       clear hK KK
       refine pqA 10 6 ?_
       refine wpAny_done (by kernel_rfl) ?_ _
       refine NoPanic.normal ?_
       go_wp2
       go_meet
       case rel=>exact ⟨_,_,_,_,_,rfl,bb,Rb.out.1,Rb.out.2⟩
     ·go_simp
      refine (repeat_any _ (-1) G.length _ hI14 (by omega)).mono ?_
      rintro e W17 ⟨pv,rfl,hb,ho⟩
      obtain ⟨pva,pvn,pvc,rfl⟩:=ho.at.shape
      refine hK _ _ ?_
      clear hK KK
      have R17:=R14.add (i:=(4,0)) (r':=rowI (.slice pva pvn pvc) (List.replicate G.length (-1))) hb (ho.mono hB14) (fun k hk=>(ho.lt k hk).1)
      have b17:=b14.trans (hb.mono hB14)
      have hB17:=Nat.le_trans hB14 hb.size
      have hI17:=hI14.below hb
      clear ho hb R14 hI14
      refine wpAny_ready (rs:=[2]) (by kernel_rfl) (by simp) (AllReady.cons rfl (fun KK hK=>?_) (AllReady.nil))
      ·obtain ⟨lv,W18,mk,ho,hb⟩:=run_makeI (G.length:Int) G.length W17 rfl (by omega)
       obtain ⟨lva,lvn,lvc,rfl⟩:=ho.at.shape
       go_simp
       refine hK _ _ ?_
       clear hK KK mk
       have R18:=R17.add (i:=(1,0)) (r':=rowI (.slice lva lvn lvc) (List.replicate G.length 0)) hb (ho.mono hB17) (fun k hk=>(ho.lt k hk).1)
       have b18:=b17.trans (hb.mono hB17)
       have hB18:=Nat.le_trans hB17 hb.size
       have hI18:=hI17.below hb
       clear hI17
       clear ho hb R17
       refine pqA 8 29 ?_
       have Rb:=search_box (na:=na) (gl:=G.length) (nc:=nc) (n:=G.length) (lv:=.slice lva lvn lvc) (fv:=.slice fva fvn fvc) (pv:=.slice pva pvn pvc) R18 hB18 (by simp [upd]) (by simp [upd]) (by simp [upd]) (by simp [upd,names0]) (by simp [upd,names0])
       replace Rb:=Hd Rb
       replace R18:=Hd R18
       have bb:=b18.trans ((belowAlloc W18 (.cells #[.slice na G.length nc,.slice lva lvn lvc,.slice fva fvn fvc,.slice none 0 0,.slice pva pvn pvc,.slice none 0 0,.int .i64 0] 244)).mono hB18)
       refine wpAny_ready (rs:=[9]) (by kernel_rfl) (by simp) (AllReady.cons rfl (fun KK hK=>?_) AllReady.nil)
       go_simp
       refine hK _ _ ?_
       clear hK KK
       refine pqA 10 6 ?_
       refine wpAny_done (by kernel_rfl) ?_ _
       refine NoPanic.normal ?_
       go_wp2
       go_meet
       case rel=>exact ⟨_,_,_,_,_,rfl,bb,Rb.out.1,Rb.out.2⟩
   ·go_simp
    refine hK _ _ ?_
    clear hK KK
    have hb:=belowAlloc W0 (.cells #[.int .i64 (-1)] 3)
    have hI19:=(OwnI.lit W0.heap.size W0 (Nat.le_refl _) [-1] (by simp [maxLen]) #[.int .i64 (-1)] rfl 1 rfl).at
    obtain ⟨W19,hW19⟩:∃ W19:World,W19=W0.alloc (.cells #[.int .i64 (-1)] 3):=⟨_,rfl⟩
    rw [← hW19]
    rw [← hW19] at hb hI19
    clear hW19
    have R19:=R0.below hb
    have b19:=b0.trans (hb.mono hB0)
    have hB19:=Nat.le_trans hB0 hb.size
    clear hb R0
    refine wpAny_ready (rs:=[2,4,7]) (by kernel_rfl) (by simp) (AllReady.cons rfl (fun KK hK=>?_) (AllReady.cons rfl (fun KK hK=>?_) (AllReady.cons rfl (fun KK hK=>?_) (AllReady.nil))))
    ·obtain ⟨lv,W20,mk,ho,hb⟩:=run_makeI (G.length:Int) G.length W19 rfl (by omega)
     obtain ⟨lva,lvn,lvc,rfl⟩:=ho.at.shape
     go_simp
     refine hK _ _ ?_
     clear hK KK mk
     have R20:=R19.add (i:=(1,0)) (r':=rowI (.slice lva lvn lvc) (List.replicate G.length 0)) hb (ho.mono hB19) (fun k hk=>(ho.lt k hk).1)
     have b20:=b19.trans (hb.mono hB19)
     have hB20:=Nat.le_trans hB19 hb.size
     have hI20:=hI19.below hb
     clear hI19
     clear ho hb R19
     refine wpAny_ready (rs:=[4,7]) (by kernel_rfl) (by simp) (AllReady.cons rfl (fun KK hK=>?_) (AllReady.cons rfl (fun KK hK=>?_) (AllReady.nil)))
     ·obtain ⟨fv,W21,mk,ho,hb⟩:=run_makeI (G.length:Int) G.length W20 rfl (by omega)
      obtain ⟨fva,fvn,fvc,rfl⟩:=ho.at.shape
      go_simp
      refine hK _ _ ?_
      clear hK KK mk
      have R21:=R20.add (i:=(2,0)) (r':=rowI (.slice fva fvn fvc) (List.replicate G.length 0)) hb (ho.mono hB20) (fun k hk=>(ho.lt k hk).1)
      have b21:=b20.trans (hb.mono hB20)
      have hB21:=Nat.le_trans hB20 hb.size
      have hI21:=hI20.below hb
      clear hI20
      clear ho hb R20
      refine wpAny_ready (rs:=[7]) (by kernel_rfl) (by simp) (AllReady.cons rfl (fun KK hK=>?_) (AllReady.nil))
      ·go_simp
       refine (repeat_any _ (-1) G.length _ hI21 (by omega)).mono ?_
       rintro e W22 ⟨pv,rfl,hb,ho⟩
       obtain ⟨pva,pvn,pvc,rfl⟩:=ho.at.shape
       refine hK _ _ ?_
       clear hK KK
       have R22:=R21.add (i:=(4,0)) (r':=rowI (.slice pva pvn pvc) (List.replicate G.length (-1))) hb (ho.mono hB21) (fun k hk=>(ho.lt k hk).1)
       have b22:=b21.trans (hb.mono hB21)
       have hB22:=Nat.le_trans hB21 hb.size
       have hI22:=hI21.below hb
       clear ho hb R21 hI21
       refine pqA 8 29 ?_
       have Rb:=search_box (na:=na) (gl:=G.length) (nc:=nc) (n:=G.length) (lv:=.slice lva lvn lvc) (fv:=.slice fva fvn fvc) (pv:=.slice pva pvn pvc) R22 hB22 (by simp [upd]) (by simp [upd]) (by simp [upd]) (by simp [upd,names0]) (by simp [upd,names0])
       replace Rb:=Hd Rb
       replace R22:=Hd R22
       have bb:=b22.trans ((belowAlloc W22 (.cells #[.slice na G.length nc,.slice lva lvn lvc,.slice fva fvn fvc,.slice none 0 0,.slice pva pvn pvc,.slice none 0 0,.int .i64 0] 244)).mono hB22)
       refine wpAny_ready (rs:=[9]) (by kernel_rfl) (by simp) (AllReady.cons rfl (fun KK hK=>?_) AllReady.nil)
       go_simp
       refine hK _ _ ?_
       clear hK KK
       refine pqA 10 6 ?_
       refine wpAny_done (by kernel_rfl) ?_ _
       refine NoPanic.normal ?_
       go_wp2
       go_meet
       case rel=>exact ⟨_,_,_,_,_,rfl,bb,Rb.out.1,Rb.out.2⟩
     ·go_simp
      refine (repeat_any _ (-1) G.length _ hI20 (by omega)).mono ?_
      rintro e W23 ⟨pv,rfl,hb,ho⟩
      obtain ⟨pva,pvn,pvc,rfl⟩:=ho.at.shape
      refine hK _ _ ?_
      clear hK KK
      have R23:=R20.add (i:=(4,0)) (r':=rowI (.slice pva pvn pvc) (List.replicate G.length (-1))) hb (ho.mono hB20) (fun k hk=>(ho.lt k hk).1)
      have b23:=b20.trans (hb.mono hB20)
      have hB23:=Nat.le_trans hB20 hb.size
      have hI23:=hI20.below hb
      clear ho hb R20 hI20
      refine wpAny_ready (rs:=[4]) (by kernel_rfl) (by simp) (AllReady.cons rfl (fun KK hK=>?_) (AllReady.nil))
      ·obtain ⟨fv,W24,mk,ho,hb⟩:=run_makeI (G.length:Int) G.length W23 rfl (by omega)
       obtain ⟨fva,fvn,fvc,rfl⟩:=ho.at.shape
       go_simp
       refine hK _ _ ?_
       clear hK KK mk
       have R24:=R23.add (i:=(2,0)) (r':=rowI (.slice fva fvn fvc) (List.replicate G.length 0)) hb (ho.mono hB23) (fun k hk=>(ho.lt k hk).1)
       have b24:=b23.trans (hb.mono hB23)
       have hB24:=Nat.le_trans hB23 hb.size
       have hI24:=hI23.below hb
       clear hI23
       clear ho hb R23
       refine pqA 8 29 ?_
       have Rb:=search_box (na:=na) (gl:=G.length) (nc:=nc) (n:=G.length) (lv:=.slice lva lvn lvc) (fv:=.slice fva fvn fvc) (pv:=.slice pva pvn pvc) R24 hB24 (by simp [upd]) (by simp [upd]) (by simp [upd]) (by simp [upd,names0]) (by simp [upd,names0])
       replace Rb:=Hd Rb
       replace R24:=Hd R24
       have bb:=b24.trans ((belowAlloc W24 (.cells #[.slice na G.length nc,.slice lva lvn lvc,.slice fva fvn fvc,.slice none 0 0,.slice pva pvn pvc,.slice none 0 0,.int .i64 0] 244)).mono hB24)
       refine wpAny_ready (rs:=[9]) (by kernel_rfl) (by simp) (AllReady.cons rfl (fun KK hK=>?_) AllReady.nil)
       go_simp
       refine hK _ _ ?_
       clear hK KK
       refine pqA 10 6 ?_
       refine wpAny_done (by kernel_rfl) ?_ _
       refine NoPanic.normal ?_
       go_wp2
       go_meet
       case rel=>exact ⟨_,_,_,_,_,rfl,bb,Rb.out.1,Rb.out.2⟩
    ·obtain ⟨fv,W25,mk,ho,hb⟩:=run_makeI (G.length:Int) G.length W19 rfl (by omega)
     obtain ⟨fva,fvn,fvc,rfl⟩:=ho.at.shape
     go_simp
     refine hK _ _ ?_
     clear hK KK mk
     have R25:=R19.add (i:=(2,0)) (r':=rowI (.slice fva fvn fvc) (List.replicate G.length 0)) hb (ho.mono hB19) (fun k hk=>(ho.lt k hk).1)
     have b25:=b19.trans (hb.mono hB19)
     have hB25:=Nat.le_trans hB19 hb.size
     have hI25:=hI19.below hb
     clear hI19
     clear ho hb R19
     refine wpAny_ready (rs:=[2,7]) (by kernel_rfl) (by simp) (AllReady.cons rfl (fun KK hK=>?_) (AllReady.cons rfl (fun KK hK=>?_) (AllReady.nil)))
     ·obtain ⟨lv,W26,mk,ho,hb⟩:=run_makeI (G.length:Int) G.length W25 rfl (by omega)
      obtain ⟨lva,lvn,lvc,rfl⟩:=ho.at.shape
      go_simp
      refine hK _ _ ?_
      clear hK KK mk
      have R26:=R25.add (i:=(1,0)) (r':=rowI (.slice lva lvn lvc) (List.replicate G.length 0)) hb (ho.mono hB25) (fun k hk=>(ho.lt k hk).1)
      have b26:=b25.trans (hb.mono hB25)
      have hB26:=Nat.le_trans hB25 hb.size
      have hI26:=hI25.below hb
      clear hI25
      clear ho hb R25
      refine wpAny_ready (rs:=[7]) (by kernel_rfl) (by simp) (AllReady.cons rfl (fun KK hK=>?_) (AllReady.nil))
      ·go_simp
       refine (repeat_any _ (-1) G.length _ hI26 (by omega)).mono ?_
       rintro e W27 ⟨pv,rfl,hb,ho⟩
       obtain ⟨pva,pvn,pvc,rfl⟩:=ho.at.shape
       refine hK _ _ ?_
       clear hK KK
       have R27:=R26.add (i:=(4,0)) (r':=rowI (.slice pva pvn pvc) (List.replicate G.length (-1))) hb (ho.mono hB26) (fun k hk=>(ho.lt k hk).1)
       have b27:=b26.trans (hb.mono hB26)
       have hB27:=Nat.le_trans hB26 hb.size
       have hI27:=hI26.below hb
       clear ho hb R26 hI26
       refine pqA 8 29 ?_
       have Rb:=search_box (na:=na) (gl:=G.length) (nc:=nc) (n:=G.length) (lv:=.slice lva lvn lvc) (fv:=.slice fva fvn fvc) (pv:=.slice pva pvn pvc) R27 hB27 (by simp [upd]) (by simp [upd]) (by simp [upd]) (by simp [upd,names0]) (by simp [upd,names0])
       replace Rb:=Hd Rb
       replace R27:=Hd R27
       have bb:=b27.trans ((belowAlloc W27 (.cells #[.slice na G.length nc,.slice lva lvn lvc,.slice fva fvn fvc,.slice none 0 0,.slice pva pvn pvc,.slice none 0 0,.int .i64 0] 244)).mono hB27)
       refine wpAny_ready (rs:=[9]) (by kernel_rfl) (by simp) (AllReady.cons rfl (fun KK hK=>?_) AllReady.nil)
       go_simp
       refine hK _ _ ?_
       clear hK KK
       refine pqA 10 6 ?_
       refine wpAny_done (by kernel_rfl) ?_ _
       refine NoPanic.normal ?_
       go_wp2
       go_meet
       case rel=>exact ⟨_,_,_,_,_,rfl,bb,Rb.out.1,Rb.out.2⟩
     ·go_simp
      refine (repeat_any _ (-1) G.length _ hI25 (by omega)).mono ?_
      rintro e W28 ⟨pv,rfl,hb,ho⟩
      obtain ⟨pva,pvn,pvc,rfl⟩:=ho.at.shape
      refine hK _ _ ?_
      clear hK KK
      have R28:=R25.add (i:=(4,0)) (r':=rowI (.slice pva pvn pvc) (List.replicate G.length (-1))) hb (ho.mono hB25) (fun k hk=>(ho.lt k hk).1)
      have b28:=b25.trans (hb.mono hB25)
      have hB28:=Nat.le_trans hB25 hb.size
      have hI28:=hI25.below hb
      clear ho hb R25 hI25
      refine wpAny_ready (rs:=[2]) (by kernel_rfl) (by simp) (AllReady.cons rfl (fun KK hK=>?_) (AllReady.nil))
      ·obtain ⟨lv,W29,mk,ho,hb⟩:=run_makeI (G.length:Int) G.length W28 rfl (by omega)
       obtain ⟨lva,lvn,lvc,rfl⟩:=ho.at.shape
       go_simp
       refine hK _ _ ?_
       clear hK KK mk
       have R29:=R28.add (i:=(1,0)) (r':=rowI (.slice lva lvn lvc) (List.replicate G.length 0)) hb (ho.mono hB28) (fun k hk=>(ho.lt k hk).1)
       have b29:=b28.trans (hb.mono hB28)
       have hB29:=Nat.le_trans hB28 hb.size
       have hI29:=hI28.below hb
       clear hI28
       clear ho hb R28
       refine pqA 8 29 ?_
       have Rb:=search_box (na:=na) (gl:=G.length) (nc:=nc) (n:=G.length) (lv:=.slice lva lvn lvc) (fv:=.slice fva fvn fvc) (pv:=.slice pva pvn pvc) R29 hB29 (by simp [upd]) (by simp [upd]) (by simp [upd]) (by simp [upd,names0]) (by simp [upd,names0])
       replace Rb:=Hd Rb
       replace R29:=Hd R29
       have bb:=b29.trans ((belowAlloc W29 (.cells #[.slice na G.length nc,.slice lva lvn lvc,.slice fva fvn fvc,.slice none 0 0,.slice pva pvn pvc,.slice none 0 0,.int .i64 0] 244)).mono hB29)
       refine wpAny_ready (rs:=[9]) (by kernel_rfl) (by simp) (AllReady.cons rfl (fun KK hK=>?_) AllReady.nil)
       go_simp
       refine hK _ _ ?_
       clear hK KK
       refine pqA 10 6 ?_
       refine wpAny_done (by kernel_rfl) ?_ _
       refine NoPanic.normal ?_
       go_wp2
       go_meet
       case rel=>exact ⟨_,_,_,_,_,rfl,bb,Rb.out.1,Rb.out.2⟩
    ·go_simp
     refine (repeat_any _ (-1) G.length _ hI19 (by omega)).mono ?_
     rintro e W30 ⟨pv,rfl,hb,ho⟩
     obtain ⟨pva,pvn,pvc,rfl⟩:=ho.at.shape
     refine hK _ _ ?_
     clear hK KK
     have R30:=R19.add (i:=(4,0)) (r':=rowI (.slice pva pvn pvc) (List.replicate G.length (-1))) hb (ho.mono hB19) (fun k hk=>(ho.lt k hk).1)
     have b30:=b19.trans (hb.mono hB19)
     have hB30:=Nat.le_trans hB19 hb.size
     have hI30:=hI19.below hb
     clear ho hb R19 hI19
     refine wpAny_ready (rs:=[2,4]) (by kernel_rfl) (by simp) (AllReady.cons rfl (fun KK hK=>?_) (AllReady.cons rfl (fun KK hK=>?_) (AllReady.nil)))
     ·obtain ⟨lv,W31,mk,ho,hb⟩:=run_makeI (G.length:Int) G.length W30 rfl (by omega)
      obtain ⟨lva,lvn,lvc,rfl⟩:=ho.at.shape
      go_simp
      refine hK _ _ ?_
      clear hK KK mk
      have R31:=R30.add (i:=(1,0)) (r':=rowI (.slice lva lvn lvc) (List.replicate G.length 0)) hb (ho.mono hB30) (fun k hk=>(ho.lt k hk).1)
      have b31:=b30.trans (hb.mono hB30)
      have hB31:=Nat.le_trans hB30 hb.size
      have hI31:=hI30.below hb
      clear hI30
      clear ho hb R30
      refine wpAny_ready (rs:=[4]) (by kernel_rfl) (by simp) (AllReady.cons rfl (fun KK hK=>?_) (AllReady.nil))
      ·obtain ⟨fv,W32,mk,ho,hb⟩:=run_makeI (G.length:Int) G.length W31 rfl (by omega)
       obtain ⟨fva,fvn,fvc,rfl⟩:=ho.at.shape
       go_simp
       refine hK _ _ ?_
       clear hK KK mk
       have R32:=R31.add (i:=(2,0)) (r':=rowI (.slice fva fvn fvc) (List.replicate G.length 0)) hb (ho.mono hB31) (fun k hk=>(ho.lt k hk).1)
       have b32:=b31.trans (hb.mono hB31)
       have hB32:=Nat.le_trans hB31 hb.size
       have hI32:=hI31.below hb
       clear hI31
       clear ho hb R31
       refine pqA 8 29 ?_
       have Rb:=search_box (na:=na) (gl:=G.length) (nc:=nc) (n:=G.length) (lv:=.slice lva lvn lvc) (fv:=.slice fva fvn fvc) (pv:=.slice pva pvn pvc) R32 hB32 (by simp [upd]) (by simp [upd]) (by simp [upd]) (by simp [upd,names0]) (by simp [upd,names0])
       replace Rb:=Hd Rb
       replace R32:=Hd R32
       have bb:=b32.trans ((belowAlloc W32 (.cells #[.slice na G.length nc,.slice lva lvn lvc,.slice fva fvn fvc,.slice none 0 0,.slice pva pvn pvc,.slice none 0 0,.int .i64 0] 244)).mono hB32)
       refine wpAny_ready (rs:=[9]) (by kernel_rfl) (by simp) (AllReady.cons rfl (fun KK hK=>?_) AllReady.nil)
       go_simp
       refine hK _ _ ?_
       clear hK KK
       refine pqA 10 6 ?_
       refine wpAny_done (by kernel_rfl) ?_ _
       refine NoPanic.normal ?_
       go_wp2
       go_meet
       case rel=>exact ⟨_,_,_,_,_,rfl,bb,Rb.out.1,Rb.out.2⟩
     ·obtain ⟨fv,W33,mk,ho,hb⟩:=run_makeI (G.length:Int) G.length W30 rfl (by omega)
      obtain ⟨fva,fvn,fvc,rfl⟩:=ho.at.shape
      go_simp
      refine hK _ _ ?_
      clear hK KK mk
      have R33:=R30.add (i:=(2,0)) (r':=rowI (.slice fva fvn fvc) (List.replicate G.length 0)) hb (ho.mono hB30) (fun k hk=>(ho.lt k hk).1)
      have b33:=b30.trans (hb.mono hB30)
      have hB33:=Nat.le_trans hB30 hb.size
      have hI33:=hI30.below hb
      clear hI30
      clear ho hb R30
      refine wpAny_ready (rs:=[2]) (by kernel_rfl) (by simp) (AllReady.cons rfl (fun KK hK=>?_) (AllReady.nil))
      ·obtain ⟨lv,W34,mk,ho,hb⟩:=run_makeI (G.length:Int) G.length W33 rfl (by omega)
       obtain ⟨lva,lvn,lvc,rfl⟩:=ho.at.shape
       go_simp
       refine hK _ _ ?_
       clear hK KK mk
       have R34:=R33.add (i:=(1,0)) (r':=rowI (.slice lva lvn lvc) (List.replicate G.length 0)) hb (ho.mono hB33) (fun k hk=>(ho.lt k hk).1)
       have b34:=b33.trans (hb.mono hB33)
       have hB34:=Nat.le_trans hB33 hb.size
       have hI34:=hI33.below hb
       clear hI33
       clear ho hb R33
       refine pqA 8 29 ?_
       have Rb:=search_box (na:=na) (gl:=G.length) (nc:=nc) (n:=G.length) (lv:=.slice lva lvn lvc) (fv:=.slice fva fvn fvc) (pv:=.slice pva pvn pvc) R34 hB34 (by simp [upd]) (by simp [upd]) (by simp [upd]) (by simp [upd,names0]) (by simp [upd,names0])
       replace Rb:=Hd Rb
       replace R34:=Hd R34
       have bb:=b34.trans ((belowAlloc W34 (.cells #[.slice na G.length nc,.slice lva lvn lvc,.slice fva fvn fvc,.slice none 0 0,.slice pva pvn pvc,.slice none 0 0,.int .i64 0] 244)).mono hB34)
       refine wpAny_ready (rs:=[9]) (by kernel_rfl) (by simp) (AllReady.cons rfl (fun KK hK=>?_) AllReady.nil)
       go_simp
       refine hK _ _ ?_
       clear hK KK
       refine pqA 10 6 ?_
       refine wpAny_done (by kernel_rfl) ?_ _
       refine NoPanic.normal ?_
       go_wp2
       go_meet
       case rel=>exact ⟨_,_,_,_,_,rfl,bb,Rb.out.1,Rb.out.2⟩
  case rest =>
   obtain ⟨d,f,lv,fv,pv,rfl,b2,hr2,h2⟩:=hcut
   have hG1:=Hd (h.out.below b1)
   have hI0:=TInv.init G.length (adjOf G) hok.out.lt
   replace hr2:=Hd hr2
   replace hI0:=Hd hI0
   go_wp2_with fail
   go_loopw [33] (fun iv wr=>∃ (k:Nat) (f':Names) (ov cv:Value) (S:TS),k≤G.length∧iv=.int .i64 k∧Rows w1.heap.size wr f'∧Below w1.heap.size w1 wr∧SN f' d (.slice na G.length nc) lv fv pv ov cv G.length S∧TInv G.length (adjOf G) S∧S.calls=[]∧∀ x,x<k→S.found x≠0) (fun iv _=>G.length-(intOf iv).toNat)
   case atStart=>exact ⟨0,f,_,_,initS,by omega,rfl,hr2.out,b2,h2,hI0.out,rfl,fun x hx=>by omega⟩
   case round =>
    obtain ⟨k,f',ov,cv,S,hk,rfl,hr3,b3,h3,hI3,hc3,hall⟩:=hrel
    obtain ⟨wo,rfl⟩:∃ wo:World,wo=wr:=⟨_,rfl⟩
    by_cases hlt:k<G.length
    ·have x2:=h3.cell hr3 2 (by decide)
     simp only [List.getElem?_cons_succ,List.getElem?_cons_zero] at x2
     have oF:=(hr3.ownI h3.fnd).at
     have iF:=fun w'=>oF.idx k (by rw [tab_len]; exact hlt) w'
     have cF:=oF.cellD k (by rw [tab_len]; exact hlt)
     rw [tab_get _ _ _ hlt] at cF
     clear oF
     generalize valAt fv k=fa at *
     by_cases hfk:S.found k=0
     ·have hF:=from_any w1 wo f' d na nc lv fv pv ov cv G S k hG1.out hok.out hn b3 hr3 h3 hI3 hc3 hlt hfk
      rw [hfk] at cF
      replace hF:=Hd hF
      replace hr3:=Hd hr3
      replace hI3:=Hd hI3
      replace hall:=Hd hall
      replace hfk:=Hd hfk
      replace hc3:=Hd hc3
      go_wp2_with fail
      clear x2 iF cF
      refine hF.out.mono ?_
      rintro e w4 ⟨rfl,b4,f4,ov4,cv4,T,hr4,h4,hI4,hc4,hk4⟩
      replace hr4:=Hd hr4
      replace hI4:=Hd hI4
      replace hk4:=Hd hk4
      replace hc4:=Hd hc4
      go_wp2
      go_roundw
      case measure=>simp [intOf]; omega
      case rel =>
       refine ⟨k+1,f4,ov4,cv4,T,by omega,by go_num,hr4.out,b3.trans b4,h4,hI4.out,hc4.out,fun x hx=>hk4.out x ?_⟩
       by_cases e:x=k
       ·exact .inr e
       ·exact .inl (hall.out x (by omega))
     ·have hne:((S.found k:Int)==0)=false:=by rw [beq_eq_false_iff_ne]; omega
      replace hr3:=Hd hr3
      replace hI3:=Hd hI3
      replace hall:=Hd hall
      replace hfk:=Hd hfk
      replace hc3:=Hd hc3
      go_wp2
      go_roundw
      case measure=>simp [intOf]; omega
      case rel =>
       refine ⟨k+1,f',ov,cv,S,by omega,by go_num,hr3.out,b3,h3,hI3.out,hc3.out,fun x hx=>?_⟩
       by_cases e:x=k
       ·subst e; exact hfk.out
       ·exact hall.out x (by omega)
    ·obtain rfl:k=G.length:=by omega
     have hD:=hI3.done hc3 hall
     have x4:=h3.cell hr3 4 (by decide)
     simp only [List.getElem?_cons_succ,List.getElem?_cons_zero] at x4
     have oP:=hr3.ownI h3.part
     have hpb:∀ x,x<G.length→(Lit.int .i64 (S.part x)).wf=true:=fun x hx=>by
      obtain ⟨q,hq,hq2,_⟩:=hI3.P1 x (hD.1 x hx)
      have:=hI3.seenLt q (hI3.partSeen q hq2)
      exact WalkArith.wf_i64 (by omega)
     have hparts:PartsOf G.length (adjOf G) ((List.range G.length).map (numO S.part)):=⟨S.part,hD.2,rfl⟩
     have hpv:=oP.at
     generalize S.part=p at *
     have hM:=NumMap.made wo
     have hbM:=belowAlloc wo (.map #[] 0)
     obtain ⟨W5,hW5⟩:∃ W5:World,W5=wo.alloc (.map #[] 0):=⟨_,rfl⟩
     have hs5:W5.heap.size=wo.heap.size+1:=by rw [hW5]; simp
     rw [← hW5] at hM hbM
     obtain ⟨out,w6,mk6,ho6,hb6⟩:=run_makeI (G.length:Int) G.length W5 rfl (by omega)
     rw [hs5] at ho6 hb6
     have hb56:Below wo.heap.size wo w6:=hbM.trans (hb6.mono (by omega))
     have hM6:=hM.kept (World.grownBy.mk hb6.os hb6.tape hb6.output hb6.size (fun j hj _=>hb6.block j (by omega)):W5.grownBy w6 none) (by simp)
     have lP:=hpv.len
     rw [tabI_len] at lP
     have x45:=(hbM.cell (World.block_lt_of_cell? _ _ x4)).trans x4
     have x46:=(hb56.cell (World.block_lt_of_cell? _ _ x4)).trans x4
     obtain ⟨outa,outn,outc,rfl⟩:=ho6.at.shape
     have hz:tabI G.length (fun v=>if v<0 then numO p v else 0)=List.replicate G.length 0:=by
      unfold tabI; apply List.ext_getElem<;>simp
     replace hparts:=Hd hparts
     replace hpb:=Hd hpb
     replace hpv:=Hd hpv
     replace hD:=Hd hD
     replace hI3:=Hd hI3
     replace hr3:=Hd hr3
     replace hall:=Hd hall
     replace hM6:=Hd hM6
     replace ho6:=Hd ho6
     replace hz:=Hd hz
     clear hM hbM oP x45
     have mkm:(Instr.makeMap 218 none).run Tryz.prog wo=.ok (.map (some wo.heap.size)) W5:=by rw [hW5]; rfl
     replace hW5:=Hd hW5
     go_wp2_with fail
     clear mk6 mkm x46 lP
     go_loopw [56] (fun iv wr=>∃ k nn:Nat,k≤G.length∧nn≤k∧iv=.int .i64 k∧NumMap wr wo.heap.size nn (numM p k).1 (numM p k).2∧OwnI (wo.heap.size+1) wr (.slice outa outn outc) (tabI G.length (fun v=>if v<k then numO p v else 0))∧Below wo.heap.size wo wr) (fun iv _=>G.length-(intOf iv).toNat)
     case atStart=>exact ⟨0,0,by omega,by omega,rfl,hM6.out,by rw [hz.out]; exact ho6.out,hb56⟩
     case round =>
      obtain ⟨k,nn,hk,hnn,rfl,hM,hO,hB⟩:=hrel
      obtain ⟨W,rfl⟩:∃ W:World,W=wr:=⟨_,rfl⟩
      by_cases hlt:k<G.length
      ·have hpk:=hpb.out k hlt
       have hPt:=hpv.out.below (hB.mono (by omega):Below wo.heap.size wo W)
       have iP:=fun w'=>hPt.idx k (by rw [tabI_len]; exact hlt) w'
       have cP:=hPt.cellD k (by rw [tabI_len]; exact hlt)
       rw [tabI_get _ _ _ hlt] at cP
       have hown:=numM_own p k
       have hsz2:=numM_size p k
       have hwn:(Lit.int .i64 (((numM p k).2:Nat):Int)).wf=true:=WalkArith.wf_i64 (by omega)
       have hnext:tabI G.length (updN (fun v=>if v<k then numO p v else 0) k (numO p k))=tabI G.length (fun v=>if v<k+1 then numO p v else 0):=by
        congr 1
        funext v
        by_cases e:v=k
        ·subst e; rw [updN_same,if_pos (by omega)]
        ·rw [updN_other _ _ _ e]
         by_cases e2:v<k
         ·rw [if_pos e2,if_pos (by omega)]
         ·rw [if_neg e2,if_neg (by omega)]
       obtain ⟨pc,hpc⟩:∃ pc,p k=pc:=⟨_,rfl⟩
       obtain ⟨px,hpx⟩:∃ px,numO p k=px:=⟨_,rfl⟩
       rw [hpc] at cP hpk hown
       rw [hpx] at hown hnext
       generalize valAt pv k=pa at *
       have hfin:∀ W':World,OwnI (wo.heap.size+1) W' (.slice outa outn outc) (tabI G.length (fun v=>if v<k then numO p v else 0))→Below wo.heap.size wo W'→∀ nn',NumMap W' wo.heap.size nn' (numM p (k+1)).1 (numM p (k+1)).2 →
        NumMap (W'.setCell (valAt (.slice outa outn outc) k) (.int .i64 px)) wo.heap.size nn' (numM p (k+1)).1 (numM p (k+1)).2∧OwnI (wo.heap.size+1) (W'.setCell (valAt (.slice outa outn outc) k) (.int .i64 px)) (.slice outa outn outc) (tabI G.length (fun v=>if v<k+1 then numO p v else 0))∧Below wo.heap.size wo (W'.setCell (valAt (.slice outa outn outc) k) (.int .i64 px)):=by
        intro W' hO' hB' nn' hM'
        have hs:=hO'.set k (by rw [tabI_len]; exact hlt) px
        rw [tabI_upd,hnext] at hs
        have hg:=hO'.toV.setGrown k (by rw [List.length_map,tabI_len]; exact hlt) (.int .i64 px)
        have hbk:=hO'.toV.blkB k (by rw [List.length_map,tabI_len]; exact hlt)
        refine ⟨hM'.kept hg (fun e=>?_),hs,hB'.setCell (by have:=hbk.2; omega) _⟩
        have:=(hO'.toV.lt wo.heap.size e.symm).1
        omega
       replace hfin:=Hd hfin
       replace hnext:=Hd hnext
       replace hparts:=Hd hparts.out
       have iO:∀ w',(Instr.indexAt 22 (.slice outa outn outc) (.int .i64 k)).run Tryz.prog w'=.ok (.pointer (some (valAt (.slice outa outn outc) k))) w':=fun w'=>hO.at.idx k (by rw [tabI_len]; exact hlt) w'
       by_cases hs:((numM p k).1 pc).isSome
       ·have hMk:numM p (k+1)=numM p k:=by
         show (if _ then _ else _)=_
         rw [hpc,if_pos hs]
        rw [hMk] at hown
        obtain ⟨c,hl1⟩:=hM.lookOk pc hpk
        rw [hs] at hl1
        have hl2:=hM.look pc px hpk hown
        have cO:=hO.at.cellD k (by rw [tabI_len]; exact hlt)
        have fO:=hO.frz k (by rw [tabI_len]; exact hlt)
        have hF:=hfin.out W hO hB nn (by rw [hMk]; exact hM)
        replace hF:=Hd hF
        replace hO:=Hd hO
        replace hM:=Hd hM
        replace hMk:=Hd hMk
        replace hown:=Hd hown
        generalize valAt (.slice outa outn outc) k=oa at *
        generalize (tabI G.length fun v=>if v<k then numO p v else 0).getD k 0=oc at cO
        go_wp2
        go_roundw
        case measure=>simp [intOf]; omega
        case rel=>exact ⟨k+1,nn,by omega,by omega,by go_num,hF.out.1,hF.out.2.1,hF.out.2.2⟩
       ·have hsn:(numM p k).1 pc=none:=by simpa using hs
        have hMk:numM p (k+1)=(updM (numM p k).1 pc ((numM p k).2:Int),(numM p k).2+1):=by
         show (if _ then _ else _)=_
         rw [hpc,if_neg hs]
        obtain ⟨c,hl1⟩:=hM.lookOk pc hpk
        rw [hsn,Option.isSome_none] at hl1
        have lM:=hM.len 3
        obtain ⟨W',hst,hM',hg'⟩:=hM.store pc _ hpk hwn hsn (by omega)
        have hMn:NumMap W' wo.heap.size (nn+1) (numM p (k+1)).1 (numM p (k+1)).2:=by rw [hMk]; exact hM'
        have hO':=ownI_map hO hM.blk.choose_spec.choose_spec hg'
        have hB':Below wo.heap.size wo W':=hB.grown hg' hB.size (fun j hj=>by cases hj; exact Nat.le_refl _)
        have hl2:=hMn.look pc px hpk hown
        have cO:=hO'.at.cellD k (by rw [tabI_len]; exact hlt)
        have fO:=hO'.frz k (by rw [tabI_len]; exact hlt)
        have hF:=hfin.out W' hO' hB' (nn+1) hMn
        replace hF:=Hd hF
        replace hO:=Hd hO
        replace hO':=Hd hO'
        replace hM:=Hd hM
        replace hM':=Hd hM'
        replace hMn:=Hd hMn
        replace hMk:=Hd hMk
        replace hown:=Hd hown
        replace hsn:=Hd hsn
        clear hs
        generalize valAt (.slice outa outn outc) k=oa at *
        generalize (tabI G.length fun v=>if v<k then numO p v else 0).getD k 0=oc at cO
        generalize (numM p k).2=ms at *
        go_wp2
        go_roundw
        case measure=>simp [intOf]; omega
        case rel=>exact ⟨k+1,nn+1,by omega,by omega,by go_num,hF.out.1,hF.out.2.1,hF.out.2.2⟩
      ·obtain rfl:k=G.length:=by omega
       have hres:tabI G.length (fun v=>if v<G.length then numO p v else 0)=(List.range G.length).map (numO p):=by
        unfold tabI
        exact List.map_congr_left fun v hv=>if_pos (List.mem_range.1 hv)
       rw [hres] at hO
       replace hO:=Hd hO
       replace hM:=Hd hM
       replace hres:=Hd hres
       go_wp2
       go_ret2
       refine ⟨_,_,rfl,b1.trans ((b3.mono b1.size).trans (hB.mono (Nat.le_trans b1.size b3.size))),⟨by rw [hck.out]; rfl,⟨fun _=>⟨_,hparts.out,hO.out.mono (Nat.le_trans (Nat.le_trans b1.size b3.size) (Nat.le_succ _))⟩,fun q=>absurd hck.out q⟩⟩⟩
end Go.Proofs.YtkaoebokbfcmhaaGreatDoor
namespace Go.Proofs.YtkaoebokbfcmhaaGreatDoor
open Go.RowKit
set_option maxRecDepth 100000
def rowsOf (n:Nat) (F:Nat→List Int):List (List Int):=(List.range n).map F
theorem rowsOf_len (n:Nat) (F:Nat→List Int):(rowsOf n F).length=n:=by simp [rowsOf]
theorem rowsOf_get (n:Nat) (F:Nat→List Int) (u:Nat) (hu:u<n):(rowsOf n F).getD u []=F u:=by simp [rowsOf,List.getD,hu]
theorem vAt_set_same {l:List Value} {k:Nat} {g:Value} (h:k<l.length):vAt (l.set k g) k=g:=by simp [vAt,List.getD,h]
theorem vAt_set_ne {l:List Value} {k t:Nat} {g:Value} (h:t≠k):vAt (l.set k g) t=vAt l t:=by
 simp [vAt,List.getD,Ne.symm h]
structure WN (f:Names) (ov:Value) (vals:List Value) (n:Nat) (F:Nat→List Int):Prop where
 outer:f (1,0)=some (rowV 22 ov vals)
 len:vals.length=n
 rows:∀ u,u<n→f (2,u)=some (rowI (vAt vals u) (F u))
section
variable {B:Nat} {w:World} {f:Names} {ov:Value} {vals:List Value} {n:Nat} {F:Nat→List Int}
theorem WN.lists (h:WN f ov vals n F) (hr:Rows B w f):ListsAt w ov (rowsOf n F) :=
 ⟨vals,(hr.ownV h.outer).at,by rw [h.len,rowsOf_len],fun i hi=>by
   rw [rowsOf_len] at hi
   rw [rowsOf_get n F i hi]
   exact (hr.ownI (h.rows i hi)).at⟩
theorem WN.put (h:WN f ov vals n F) {w1:World} {u:Nat} (hu:u<n) {v':Value} {xs:List Int} (hr1:Rows B w1 (upd f (2,u) (some (rowI v' xs)))) :
 w1.cell? (valAt ov u)=some (vAt vals u)∧w1.frozen? (valAt ov u)=false∧B≤(valAt ov u).block ∧
 ∃ f',Rows B (w1.setCell (valAt ov u) v') f'∧WN f' ov (vals.set u v') n (updN F u xs)∧∀ i,i≠(1,0)→i≠(2,u)→f' i=f i:=by
 have ho:upd f (2,u) (some (rowI v' xs)) (1,0)=some (rowV 22 ov vals):=by rw [upd_ne _ _ (by simp)]; exact h.outer
 have hl:u<vals.length:=by rw [h.len]; exact hu
 have hO:=hr1.ownV ho
 refine ⟨hO.at.cellV u hl,hO.frz u hl,(hO.blkB u hl).2,_,hr1.setV ho u hl v',⟨upd_same _ _ _,by simpa using h.len,fun t ht=>?_⟩,fun i h1 h2=>by rw [upd_ne _ _ h1,upd_ne _ _ h2]⟩
 rw [upd_ne _ _ (by simp)]
 by_cases e:t=u
 ·subst e
  rw [upd_same,vAt_set_same hl,updN_same]
 ·rw [upd_ne _ _ (by simpa using e),vAt_set_ne e,updN_other _ _ _ e]
  exact h.rows t ht
theorem WN.new (_h:WN f ov vals n F) (hr:Rows B w f) {w1:World} (u:Nat) {v':Value} {xs:List Int} (hb:Below w.heap.size w w1) (hB:B≤w.heap.size) (ho:OwnI w.heap.size w1 v' xs):Rows B w1 (upd f (2,u) (some (rowI v' xs))) :=
 hr.add hb (ho.mono hB) (fun k hk=>(ho.lt k hk).1)
theorem WN.app (h:WN f ov vals n F) (hr:Rows B w f) {w1:World} {u:Nat} (hu:u<n) {v':Value} (x:Int) (ho:OwnI B w1 v' (F u++[x]))
 (hal:(roomOf v'=roomOf (vAt vals u)∧w.grownBy w1 (vAt vals u).ownBlock)∨(∃ k,v'.ownBlock=some k∧w.heap.size≤k∧w.grownBy w1 none)):Rows B w1 (upd f (2,u) (some (rowI v' (F u++[x])))):=by
 have hO:=hr.ownI (h.rows u hu)
 refine hr.grown (r':=rowI v' (F u++[x])) (h.rows u hu) (grown_via (hal.imp (·.2) (fun ⟨_,_,_,q⟩=>q))) ho ?_
 rcases hal with ⟨q,_⟩ | ⟨k,h1,h2,_⟩
 ·obtain ⟨a1,n1,c1,e1⟩:=hO.at.shape
  obtain ⟨a2,n2,c2,e2⟩:=ho.at.shape
  exact .inl (ownBlock_of_room e1 e2 q)
 ·exact .inr ⟨k,h1,h2⟩
theorem WN.elem (h:WN f ov vals n F) (hr:Rows B w f) (u:Nat) (hu:u<n) (i:Nat) (hi:i<(F u).length) (x:Int) :
 ∃ f',Rows B (w.setCell (valAt (vAt vals u) i) (.int .i64 x)) f'∧WN f' ov vals n (updN F u ((F u).set i x)):=by
 refine ⟨_,hr.setI (h.rows u hu) i hi x,⟨by rw [upd_ne _ _ (by simp)]; exact h.outer,h.len,fun t ht=>?_⟩⟩
 by_cases e:t=u
 ·subst e; rw [upd_same,updN_same]
 ·rw [upd_ne _ _ (by simpa using e),updN_other _ _ _ e]; exact h.rows t ht
end
theorem run_makeW {T E:TypeId} {z:Value} {b:Nat} (oc:OneCell T E z b) (C:Int) (n:Nat) (w:World) (hC:C=n) (hn:n≤4398046511104) :
 ∃ v w',(Instr.makeSlice T (.int .i64 C) (.int .i64 C)).run Tryz.prog w=.ok v w'∧OwnV E w.heap.size w' v (List.replicate n z)∧Below w.heap.size w w':=by
 subst hC
 obtain ⟨i,hi,hz0,hz1,hz2⟩:=info_parts oc.hi
 have hb:=oc.hb
 obtain ⟨w',hrun,r1,r2⟩:=run_make_full (P:=Tryz.prog) w w.heap.size T E i z 1 oc.ht hi hz0 hz1 .i64 .i64 n (by
  rw [hz2]
  calc b*n≤32*4398046511104:=Nat.mul_le_mul hb (by omega)
   _≤_:=by decide) (by unfold maxLen; omega) (Nat.le_refl _)
 refine ⟨_,w',hrun,?_,(Below.refl _ _).grown r2 (Nat.le_refl _) (by intro k hk; cases hk)⟩
 rw [oc.hz,toList_madeCells_one] at r1
 simpa [OwnV] using r1
def nils (n:Nat):Names:=fun i=>if i.1=2∧i.2<n then some (rowI (.slice none 0 0) []) else none
theorem rows_nils (B:Nat) (w:World) (n:Nat):Rows B w (nils n):=by
 refine ⟨fun i r hi=>?_,fun i j r s hi _ _=>?_⟩
 ·unfold nils at hi
  split at hi
  ·injection hi with hi; subst hi; exact OwnI.nil B w
  ·cases hi
 ·left
  unfold nils at hi
  split at hi
  ·injection hi with hi; subst hi; rfl
  ·cases hi
theorem WN.made {B:Nat} {w w1:World} {ov:Value} (n:Nat) (hb:Below w.heap.size w w1) (hB:B≤w.heap.size) (ho:OwnV 22 w.heap.size w1 ov (List.replicate n (.slice none 0 0))) :
 ∃ f,Rows B w1 f∧WN f ov (List.replicate n (.slice none 0 0)) n (fun _=>[]):=by
 refine ⟨_,(rows_nils B w n).add (i:=(1,0)) (r':=rowV 22 ov (List.replicate n (.slice none 0 0))) hb (ho.mono hB) (fun k hk=>(ho.lt k hk).1),⟨upd_same _ _ _,by simp,fun u hu=>?_⟩⟩
 rw [upd_ne _ _ (by simp)]
 show nils n (2,u)=_
 unfold nils
 rw [if_pos ⟨rfl,hu⟩]
 simp [vAt,List.getD,hu]
set_option maxHeartbeats 8000000
theorem oneBoolG:OneCell 91 4 (.bool false) 1:=⟨by kernel_rfl,by kernel_rfl,rfl,by decide,fun _=>by kernel_rfl⟩
def tabB (n:Nat) (m:Nat→Bool):List Value:=(List.range n).map fun v=>Value.bool (m v)
theorem tabB_len (n:Nat) (m:Nat→Bool):(tabB n m).length=n:=by simp [tabB]
theorem tabB_get (n:Nat) (m:Nat→Bool) (v:Nat) (hv:v<n):vAt (tabB n m) v=.bool (m v):=by simp [tabB,vAt,List.getD,hv]
theorem tabB_upd (n:Nat) (m:Nat→Bool) (v:Nat) (b:Bool):(tabB n m).set v (.bool b)=tabB n (updN m v b):=by
 apply List.ext_getElem
 ·simp [tabB]
 ·intro i h1 h2
  simp only [tabB,List.getElem_set,List.getElem_map,List.getElem_range,updN]
  by_cases e:v=i
  ·rw [if_pos e,if_pos e.symm]
  ·rw [if_neg e,if_neg (fun q=>e q.symm)]
theorem tabB_one (n:Nat) (m:Nat→Bool):∀ v∈tabB n m,v.oneCell'=true:=by
 intro v hv
 obtain ⟨x,_,rfl⟩:=List.mem_map.1 hv
 rfl
theorem clone_bools (v:Value) (n:Nat) (m:Nat→Bool) (w:World) (h:ValsAt w v (tabB n m)) (hl:n≤10000) :
 Calls Tryz.prog 169 #[v] w (Ret1 (fun x w'=>OwnV 4 w.heap.size w' x (tabB n m)) w):=by
 obtain ⟨ao,cap,rfl,h1,h2,h3,h4⟩:=h
 cases ao with
 | none =>
  obtain rfl:=h3 rfl
  rw [tabB_len] at h1
  obtain rfl:n=0:=by omega
  have hn:=fun w'=>Lib.run_eql_slice_nil (P:=Tryz.prog) w' _ _ none 0 0 0 0 oneBoolG.ht
  rw [show (tabB 0 m).length=0 from rfl]
  clear h4
  go_enter Tryz.func169,Tryz.ntmps169
  go_wp2
  go_ret
  exact ⟨_,rfl,Below.refl _ _,OwnV.nil _ _ _⟩
 | some p =>
  have hn:=fun w'=>Lib.run_eql_slice_nil (P:=Tryz.prog) w' _ _ (some p) (tabB n m).length cap 0 0 oneBoolG.ht
  have b0:Below w.heap.size w (w.alloc (.cells #[] 4)):=(Below.refl _ _).alloc (Nat.le_refl _) _
  have ho0:OwnV 4 w.heap.size (w.alloc (.cells #[] 4)) (.slice (some ⟨w.heap.size,0,none⟩) 0 0) []:=World.ownsRow_made w #[] 0 (Nat.le_refl _) (by unfold maxLen; omega) rfl
  obtain ⟨i,hi,hz0,hz1,hz2⟩:=info_parts oneBoolG.hi
  have hcells:∀ (j:Nat) (u:Value),(tabB n m)[j]?=some u→(w.alloc (.cells #[] 4)).cell? (p.add j)=some u:=by
   intro j u hj
   have hjl:=(List.getElem?_eq_some_iff.1 hj).1
   have:=h4 j hjl
   simp only [valAt] at this
   rw [b0.cell (World.block_lt_of_cell? _ _ this),this,← hj,List.getElem?_eq_getElem hjl]
  have hone:=tabB_one n m
  have htl:=tabB_len n m
  generalize tabB n m=bs at *
  have hbl:bs.length≤10000:=by omega
  replace htl:=Hd htl
  replace hcells:=Hd hcells
  replace hone:=Hd hone
  replace ho0:=Hd ho0
  clear h4
  go_enter Tryz.func169,Tryz.ntmps169
  go_wp2_with (at_builtin; refine wpList_append_own_at _ rfl _ _ 91 rfl w.heap.size 4 i (.bool false) 1 1 oneBoolG.ht hi hz0 hz1 hz2 rfl (by decide) _ 0 [] rfl ho0.out p bs.length cap bs rfl (by simp) hcells.out hone.out (by unfold maxLen; omega) (by omega) (by simp) ?_)
  intro v' w' ho' hgr _ hat
  have hb2:Below w.heap.size w w':=b0.trans ((Below.refl _ _).grown hgr (by simp) (fun k hk=>(ho0.out.lt k hk).1))
  have ho2:OwnV 4 w.heap.size w' v' bs:=by simpa [OwnV] using ho'
  replace ho2:=Hd ho2
  clear ho' hat hgr
  go_wp2
  go_ret
  exact ⟨_,rfl,hb2,ho2.out⟩
def unm (n:Nat) (m:Nat→Bool):Nat:=wsum (fun _=>1) (fun x=>if m x then 1 else 0) n
theorem unm_upd (n:Nat) (m:Nat→Bool) (t:Nat) (ht:t<n) (hm:m t=false):unm n (updN m t true)+1=unm n m:=by
 have h:=wsum_upd (fun _=>1) (fun x=>if m x then 1 else 0) t 1 (by decide) (by simp [hm]) n
 rw [if_pos ht] at h
 have e:(fun x=>if updN m t true x then 1 else 0)=updN (fun x=>if m x then 1 else 0) t 1:=by
  funext x
  by_cases q:x=t
  ·subst q; simp [updN_same]
  ·rw [updN_other _ _ _ q,updN_other _ _ _ q]
 unfold unm
 rw [e]; exact h
theorem wsum_le (f:Nat→Nat):∀ n,wsum (fun _=>1) f n≤n
 | 0=>Nat.le_refl _
 | n+1=>by
  have:=wsum_le f n
  simp only [wsum]; split<;>omega
theorem unm_le (n:Nat) (m:Nat→Bool):unm n m≤n:=wsum_le _ n
structure RInv (n:Nat) (adj:Nat→List Nat) (ms m:Nat→Bool) (qs:List Nat) (busy:Nat→Prop):Prop where
 start:∀ x,x<n→ms x=true→m x=true
 sound:∀ x,x<n→m x=true→∃ u,u<n∧ms u=true∧Goes adj u x
 queue:∀ x∈qs,x<n∧m x=true
 closed:∀ x,x<n→m x=true→x∉qs→¬ busy x→∀ t∈adj x,m t=true
theorem RInv.pop {n:Nat} {adj:Nat→List Nat} {ms m:Nat→Bool} {v:Nat} {qs:List Nat} (h:RInv n adj ms m (v::qs) (fun _=>False)):RInv n adj ms m qs (fun x=>x=v) :=
 ⟨h.start,h.sound,fun x hx=>h.queue x (List.mem_cons_of_mem _ hx),fun x hx hm hq hb=>h.closed x hx hm (fun hc=>(List.mem_cons.1 hc).elim hb hq) id⟩
theorem RInv.finish {n:Nat} {adj:Nat→List Nat} {ms m:Nat→Bool} {v:Nat} {qs:List Nat} (h:RInv n adj ms m qs (fun x=>x=v)) (hv:∀ t∈adj v,m t=true):RInv n adj ms m qs (fun _=>False) :=
 ⟨h.start,h.sound,h.queue,fun x hx hm hq _=>by
   by_cases e:x=v
   ·subst e; exact hv
   ·exact h.closed x hx hm hq e⟩
theorem RInv.mark {n:Nat} {adj:Nat→List Nat} {ms m:Nat→Bool} {v t:Nat} {qs:List Nat} (h:RInv n adj ms m qs (fun x=>x=v)) (hv:v<n) (hmv:m v=true) (ht:t∈adj v) (htn:t<n):RInv n adj ms (updN m t true) (t::qs) (fun x=>x=v):=by
 have up:∀ x,m x=true→updN m t true x=true:=fun x hx=>by
  by_cases e:x=t
  ·subst e; exact updN_same _ _ _
  ·rw [updN_other _ _ _ e]; exact hx
 refine ⟨fun x hx hs=>up x (h.start x hx hs),fun x hx hm=>?_,fun x hx=>?_,fun x hx hm hq hb t' ht'=>?_⟩
 ·by_cases e:x=t
  ·subst e
   obtain ⟨u,h1,h2,h3⟩:=h.sound v hv hmv
   exact ⟨u,h1,h2,h3.step ht⟩
  ·rw [updN_other _ _ _ e] at hm; exact h.sound x hx hm
 ·rcases List.mem_cons.1 hx with e | e
  ·subst e; exact ⟨htn,updN_same _ _ _⟩
  ·exact ⟨(h.queue x e).1,up x (h.queue x e).2⟩
 ·have e:x≠t:=fun e=>hq (by rw [e]; exact List.mem_cons_self)
  rw [updN_other _ _ _ e] at hm
  exact up t' (h.closed x hx hm (fun hc=>hq (List.mem_cons_of_mem _ hc)) hb t' ht')
theorem RInv.all {n:Nat} {adj:Nat→List Nat} {ms m:Nat→Bool} (h:RInv n adj ms m [] (fun _=>False)) (ha:∀ v,v<n→∀ t∈adj v,t<n):∀ x,x<n→(m x=true↔∃ u,u<n∧ms u=true∧Goes adj u x):=by
 intro x hx
 refine ⟨h.sound x hx,fun ⟨u,hu,hs,hg⟩=>?_⟩
 exact (Goes.closed (P:=fun y=>y<n∧m y=true) (fun y hy t ht=>⟨ha y hy.1 t ht,h.closed y hy.1 hy.2 (by simp) id t ht⟩) hg ⟨hu,h.start u hu hs⟩).2
structure RN (f:Names) (ov qv:Value) (n:Nat) (m:Nat→Bool) (qs:List Nat):Prop where
 outs:f (1,0)=some (rowV 4 ov (tabB n m))
 queue:f (2,0)=some (rowI qv (upI qs))
section
variable {B:Nat} {w:World} {f:Names} {ov qv:Value} {n:Nat} {m:Nat→Bool} {qs:List Nat}
theorem RN.mark (h:RN f ov qv n m qs) (hr:Rows B w f) (t:Nat) (ht:t<n):∃ f',Rows B (w.setCell (valAt ov t) (.bool true)) f'∧RN f' ov qv n (updN m t true) qs:=by
 have hs:=hr.setV h.outs t (by rw [tabB_len]; exact ht) (.bool true)
 rw [tabB_upd] at hs
 exact ⟨_,hs,⟨upd_same _ _ _,by rw [upd_ne _ _ (by simp)]; exact h.queue⟩⟩
theorem RN.push (h:RN f ov qv n m qs) (hr:Rows B w f) {w1:World} {qv':Value} (t:Nat) (ho:OwnI B w1 qv' (upI qs++[(t:Int)]))
 (hal:(roomOf qv'=roomOf qv∧w.grownBy w1 qv.ownBlock)∨(∃ k,qv'.ownBlock=some k∧w.heap.size≤k∧w.grownBy w1 none)):∃ f',Rows B w1 f'∧RN f' ov qv' n m (t::qs):=by
 have hO:=hr.ownI h.queue
 have hg:w.grownBy w1 qv.ownBlock:=grown_via (hal.imp (·.2) (fun ⟨_,_,_,q⟩=>q))
 have hob:qv'.ownBlock=qv.ownBlock∨∃ k,qv'.ownBlock=some k∧w.heap.size≤k:=by
  rcases hal with ⟨q,_⟩ | ⟨k,h1,h2,_⟩
  ·obtain ⟨a1,n1,c1,e1⟩:=hO.at.shape
   obtain ⟨a2,n2,c2,e2⟩:=ho.at.shape
   exact .inl (ownBlock_of_room e1 e2 q)
  ·exact .inr ⟨k,h1,h2⟩
 exact ⟨_,hr.grown (r':=rowI qv' (upI qs++[(t:Int)])) h.queue hg ho hob,⟨by rw [upd_ne _ _ (by simp)]; exact h.outs,by rw [upd_same,upI_cons]⟩⟩
theorem RN.pop {v g c:Nat} {r:List Nat} (h:RN f ov (.slice (some ⟨g,0,none⟩) (r.length+1) c) n m (v::r)) (hr:Rows B w f):∃ f',Rows B w f'∧RN f' ov (.slice (some ⟨g,0,none⟩) r.length c) n m r:=by
 have ho:f (2,0)=some ⟨3,1,.slice (some ⟨g,0,none⟩) (r.length+1) c,r.length+1,(upI (v::r)).map (Value.int .i64)⟩:=by
  rw [h.queue]; simp [rowI,upI_len]
 have h1:=hr.shrink ho
 have hx:((upI (v::r)).map (Value.int .i64)).take (r.length*1)=(upI r).map (Value.int .i64):=by
  rw [upI_cons,List.map_append,Nat.mul_one]; exact List.take_left' (by simp [upI_len])
 rw [hx] at h1
 exact ⟨_,h1,⟨by rw [upd_ne _ _ (by simp)]; exact h.outs,by rw [upd_same]; simp [upI_len]⟩⟩
theorem RN.shape {v:Nat} {r:List Nat} (h:RN f ov qv n m (v::r)) (hr:Rows B w f):∃ g c,qv=.slice (some ⟨g,0,none⟩) (r.length+1) c∧r.length+1≤c:=by
 obtain ⟨g,c,e,e2⟩:=row_shape (hr.1 _ _ h.queue) (by show 0<(upI (v::r)).length; rw [upI_len]; simp)
 have e:qv=.slice (some ⟨g,0,none⟩) (upI (v::r)).length c:=e
 have e2:(upI (v::r)).length≤c:=e2
 rw [upI_len,List.length_cons] at e e2
 exact ⟨g,c,e,e2⟩
end
theorem upI_topR (t:Nat) (o:List Nat):(upI (t::o)).getD o.length 0=(t:Int):=by
 rw [upI_cons,List.getD_eq_getElem?_getD,List.getElem?_append_right (by rw [upI_len]; exact Nat.le_refl _),upI_len,Nat.sub_self]; rfl
theorem reach_any (na:Option Addr) (nc:Nat) (G:List (List Int)) (mv:Value) (ms:Nat→Bool) (w:World) (h:ListsAt w (.slice na G.length nc) G) (hok:GraphOk G) (hn:G.length≤8200) (hm:ValsAt w mv (tabB G.length ms)) :
 Calls Tryz.prog 133 #[.slice na G.length nc,mv] w (Ret1 (fun x w'=>∃ out:Nat→Bool,OwnV 4 w.heap.size w' x (tabB G.length out)∧∀ x,x<G.length→(out x=true↔∃ u,u<G.length∧ms u=true∧Goes (adjOf G) u x)) w):=by
 have hC:=clone_bools mv G.length ms w hm (by omega)
 replace h:=Hd h
 replace hok:=Hd hok
 replace hm:=Hd hm
 go_enter Tryz.func133,Tryz.ntmps133
 go_wp2_with fail
 refine hC.mono ?_
 rintro e w1 ⟨ov,rfl,b1,ho⟩
 clear hC
 have R1:=((rows_nils w.heap.size w 0).add (i:=(1,0)) (r':=rowV 4 ov (tabB G.length ms)) b1 ho (fun k hk=>(ho.lt k hk).1)).fresh (i:=(2,0)) (r':=rowI (.slice none 0 0) []) (World.grownBy.refl _ _) (OwnI.nil _ _) (fun k hk=>(by cases hk))
 have h1:RN (upd (upd (nils 0) (1,0) (some (rowV 4 ov (tabB G.length ms)))) (2,0) (some (rowI (.slice none 0 0) []))) ov (.slice none 0 0) G.length ms []:=⟨by rw [upd_ne _ _ (by simp),upd_same],by rw [upd_same]; rfl⟩
 generalize upd (upd (nils 0) (1,0) (some (rowV 4 ov (tabB G.length ms)))) (2,0) (some (rowI (.slice none 0 0) []))=f1 at *
 have lO:=fun w'=>ho.at.len oneBoolG 3 w'
 rw [tabB_len] at lO
 replace R1:=Hd R1
 replace ho:=Hd ho
 go_wp2_with fail
 clear lO
 go_loopw [6,16] (fun qv kv wr=>∃ (k:Nat) (qs:List Nat) (f:Names) (qw:Value),qw=qv∧kv=.int .i64 k∧k≤G.length∧qs.length≤k∧Rows w.heap.size wr f∧Below w.heap.size w wr∧RN f ov qw G.length ms qs∧∀ x,x∈qs↔(x<k∧ms x=true)) (fun _ kv _=>G.length-(intOf kv).toNat)
 case atStart=>exact ⟨0,[],f1,_,rfl,rfl,by omega,by simp,R1.out,b1,h1,fun x=>⟨fun h=>(by cases h),fun h=>by omega⟩⟩
 case round =>
  clear h1 R1 ho
  obtain ⟨k,qs,f2,qv,rfl,rfl,hk,hql,hr2,b2,h2,hqs⟩:=hrel
  obtain ⟨wo,rfl⟩:∃ wo:World,wo=wr:=⟨_,rfl⟩
  by_cases hlt:k<G.length
  ·have hOV:=(hr2.ownV h2.outs).at
   have iK:=fun w'=>hOV.idx oneBoolG k (by rw [tabB_len]; exact hlt) w'
   have cK:=hOV.cellV k (by rw [tabB_len]; exact hlt)
   rw [tabB_get _ _ _ hlt] at cK
   generalize valAt ov k=ka at *
   obtain ⟨bk,hbk⟩:∃ bk,ms k=bk:=⟨_,rfl⟩
   rw [hbk] at cK
   replace hOV:=Hd hOV
   cases bk with
   | true =>
    have hOQ:=hr2.ownI h2.queue
    have hB2:w.heap.size≤wo.heap.size:=b2.size
    have hqs2:∀ x,x∈k::qs↔(x<k+1∧ms x=true):=fun x=>by
     rw [List.mem_cons,hqs x]
     constructor
     ·rintro (rfl | ⟨a,b⟩)
      ·exact ⟨by omega,hbk⟩
      ·exact ⟨by omega,b⟩
     ·rintro ⟨a,b⟩
      by_cases e:x=k
      ·exact .inl e
      ·exact .inr ⟨by omega,b⟩
    replace hqs2:=Hd hqs2
    replace hqs:=Hd hqs
    replace hbk:=Hd hbk
    replace hr2:=Hd hr2
    go_wp2_with (at_builtin; refine wpl_app1 rfl _ _ rfl w.heap.size qv (upI qs) k hOQ rfl rfl (by rw [upI_len]; omega) hB2 ?_)
    intro qv' w7 ho7 b7 hal7
    obtain ⟨f7,hr7,h7⟩:=h2.push hr2.out k ho7 hal7
    replace hr7:=Hd hr7
    replace ho7:=Hd ho7
    clear hal7
    go_wp2
    go_roundw
    case measure=>simp [intOf]; omega
    case rel=>exact ⟨k+1,k::qs,f7,qv',rfl,by go_num,by omega,by simp only [List.length_cons]; omega,hr7.out,b2.trans b7,h7,hqs2.out⟩
   | false =>
    have hqs2:∀ x,x∈qs↔(x<k+1∧ms x=true):=fun x=>by
     rw [hqs x]
     constructor
     ·rintro ⟨a,b⟩; exact ⟨by omega,b⟩
     ·rintro ⟨a,b⟩
      by_cases e:x=k
      ·subst e; rw [hbk] at b; cases b
      ·exact ⟨by omega,b⟩
    replace hqs2:=Hd hqs2
    replace hqs:=Hd hqs
    replace hbk:=Hd hbk
    replace hr2:=Hd hr2
    go_wp2
    go_roundw
    case measure=>simp [intOf]; omega
    case rel=>exact ⟨k+1,qs,f2,qv,rfl,by go_num,by omega,by omega,hr2.out,b2,h2,hqs2.out⟩
  ·obtain rfl:k=G.length:=by omega
   have hinv:RInv G.length (adjOf G) ms ms qs (fun _=>False):=⟨fun _ _ q=>q,fun x hx q=>⟨x,hx,q,.refl x⟩,fun x hx=>⟨((hqs x).1 hx).1,((hqs x).1 hx).2⟩,fun x hx hmx hq _=>absurd ((hqs x).2 ⟨hx,hmx⟩) hq⟩
   replace hinv:=Hd hinv
   replace hqs:=Hd hqs
   replace hr2:=Hd hr2
   go_wp2_with fail
   go_loopg [6] (2*unm G.length ms+qs.length) (fun k qv wr=>∃ (m:Nat→Bool) (qs:List Nat) (f:Names) (qw:Value),qw=qv∧k=2*unm G.length m+qs.length∧k≤3*G.length∧Rows w.heap.size wr f∧Below w.heap.size w wr∧RN f ov qw G.length m qs∧RInv G.length (adjOf G) ms m qs (fun _=>False))
   case atStart=>exact ⟨ms,qs,f2,qv,rfl,rfl,by have:=unm_le G.length ms; omega,hr2.out,b2,h2,hinv.out⟩
   case round =>
    clear hinv hqs hr2 h2 b2 hql
    obtain ⟨m,qs,f3,qv,rfl,rfl,hk3,hr3,b3,h3,hI⟩:=hrel
    obtain ⟨wo,rfl⟩:∃ wo:World,wo=wr:=⟨_,rfl⟩
    cases qs with
    | nil =>
     have hOQ:=hr3.ownI h3.queue
     have lQ:=hOQ.at.len
     rw [upI_len,List.length_nil] at lQ
     have hall:=hI.all hok.out.lt
     have hres:=hr3.ownV h3.outs
     replace hall:=Hd hall
     replace hres:=Hd hres
     replace hI:=Hd hI
     replace hr3:=Hd hr3
     go_wp2
     go_ret
     exact ⟨_,rfl,b3,m,hres.out,hall.out⟩
    | cons v r =>
     obtain ⟨g,c,rfl,hcap⟩:=h3.shape hr3
     have hun:=unm_le G.length m
     obtain ⟨hvn,hmv⟩:=hI.queue v List.mem_cons_self
     have hOQ:=(hr3.ownI h3.queue).at
     have iV:=fun w'=>hOQ.idx r.length (by rw [upI_len]; simp) w'
     have cV:=hOQ.cellD r.length (by rw [upI_len]; simp)
     rw [upI_topR] at cV
     obtain ⟨f4,hr4,h4⟩:=h3.pop hr3
     have hpop:=hI.pop
     obtain ⟨xv,iR,cR0,hM0⟩:=h.out.row v hvn
     have cR:=(b3.cell (World.block_lt_of_cell? _ _ cR0)).trans cR0
     have hM:=hM0.below b3
     have hgp:=hok.out v hvn
     have hadj:adjOf G v=(G.getD v []).map Int.toNat:=rfl
     generalize G.getD v []=gx at *
     have lM:=hM.len
     have hglen:=hM.len_le
     generalize valAt (.slice na G.length nc) v=ra at *
     generalize valAt (.slice (some ⟨g,0,none⟩) (r.length+1) c) r.length=qa at *
     simp only [List.length_cons] at hk3
     have hwr:IntKind.i64.wrap (r.length:Int)=r.length:=wrapK (by omega) (by omega)
     have hsl:(0≤(r.length:Int)∧(r.length:Int)≤(c:Int)):=⟨by omega,by omega⟩
     replace hOQ:=Hd hOQ
     replace hM:=Hd hM
     replace hM0:=Hd hM0
     replace hgp:=Hd hgp
     replace hadj:=Hd hadj
     replace hr3:=Hd hr3
     replace hr4:=Hd hr4
     replace hI:=Hd hI
     replace hpop:=Hd hpop
     replace hmv:=Hd hmv
     go_wp2_with fail
     clear iV cV iR cR lM
     go_loopw [6,46] (fun qv jv wr=>∃ (j:Nat) (m':Nat→Bool) (qs:List Nat) (f:Names) (qw:Value),qw=qv∧jv=.int .i64 j∧j≤gx.length∧2*unm G.length m'+qs.length≤2*unm G.length m+r.length∧Rows w.heap.size wr f∧Below w.heap.size w wr∧RN f ov qw G.length m' qs∧RInv G.length (adjOf G) ms m' qs (fun x=>x=v)∧m' v=true∧∀ i,i<j→m' (gx.getD i 0).toNat=true) (fun _ jv _=>gx.length-(intOf jv).toNat)
     case atStart=>exact ⟨0,m,r,f4,_,rfl,rfl,by omega,Nat.le_refl _,hr4.out,b3,h4,hpop.out,hmv.out,fun i hi=>by omega⟩
     case round =>
      clear hOQ hM hr3 hr4 h4 h3 b3 hpop hI hmv hwr hsl hcap
      obtain ⟨j,m',qs,f5,qv,rfl,rfl,hj,hle,hr5,b5,h5,hI,hmv,hdone⟩:=hrel
      obtain ⟨wo,rfl⟩:∃ wo:World,wo=wr:=⟨_,rfl⟩
      by_cases hjl:j<gx.length
      ·have hMj:=hM0.out.below b5
       have hgj:=hgp.out gx[j] (List.getElem_mem hjl)
       obtain ⟨t,hu⟩:∃ t:Nat,gx[j]=t:=Int.eq_ofNat_of_zero_le hgj.1
       have htn:t<G.length:=by rw [hu] at hgj; omega
       have hgd:gx.getD j 0=(t:Int):=by rw [List.getD_eq_getElem?_getD,List.getElem?_eq_getElem hjl,hu]; rfl
       have hta:t∈adjOf G v:=by
        rw [hadj.out]
        exact List.mem_map.2 ⟨gx[j],List.getElem_mem hjl,by rw [hu]; rfl⟩
       have iJ:=fun w'=>hMj.idx j hjl w'
       have cJ:=hMj.cellD j hjl
       rw [hgd] at cJ
       have hOV:=(hr5.ownV h5.outs)
       have iT:=fun w'=>hOV.at.idx oneBoolG t (by rw [tabB_len]; exact htn) w'
       have cT:=hOV.at.cellV t (by rw [tabB_len]; exact htn)
       rw [tabB_get _ _ _ htn] at cT
       have fT:=hOV.frz t (by rw [tabB_len]; exact htn)
       have kT:=(hOV.blkB t (by rw [tabB_len]; exact htn)).2
       obtain ⟨f6,hr6,h6⟩:=h5.mark hr5 t htn
       have b6:Below w.heap.size w (wo.setCell (valAt ov t) (.bool true)):=b5.setCell kT _
       generalize valAt xv j=ja at *
       generalize valAt ov t=ta at *
       obtain ⟨bt,hbt⟩:∃ bt,m' t=bt:=⟨_,rfl⟩
       rw [hbt] at cT
       cases bt with
       | false =>
        have hunm:=unm_upd G.length m' t htn hbt
        have hmark:=hI.mark hvn hmv hta htn
        have hmv2:updN m' t true v=true:=by
         by_cases e:v=t
         ·subst e; exact updN_same _ _ _
         ·rw [updN_other _ _ _ e]; exact hmv
        have hdone2:∀ i,i<j+1→updN m' t true (gx.getD i 0).toNat=true:=fun i hi=>by
         by_cases e:(gx.getD i 0).toNat=t
         ·rw [e]; exact updN_same _ _ _
         ·rw [updN_other _ _ _ e]
          by_cases q:i=j
          ·subst q; rw [hgd] at e; exact absurd rfl e
          ·exact hdone i (by omega)
        replace hmark:=Hd hmark
        replace hmv2:=Hd hmv2
        replace hdone2:=Hd hdone2
        replace hdone:=Hd hdone
        replace hmv:=Hd hmv
        replace hI:=Hd hI
        replace hbt:=Hd hbt
        replace hr5:=Hd hr5
        replace hr6:=Hd hr6
        replace hOV:=Hd hOV
        replace hMj:=Hd hMj
        replace hgd:=Hd hgd
        replace hgj:=Hd hgj
        replace hu:=Hd hu
        replace hta:=Hd hta
        go_upto_region 17 with fail
        obtain ⟨W6,hW6⟩:∃ W6:World,W6=wo.setCell ta (.bool true):=⟨_,rfl⟩
        rw [← hW6]
        rw [← hW6] at hr6 b6
        clear hW6 iJ cJ iT cT fT
        have hOQ:=hr6.out.ownI h6.queue
        have hB6:w.heap.size≤W6.heap.size:=b6.size
        go_wp2_with (at_builtin; refine wpl_app1 rfl _ _ rfl w.heap.size qv (upI qs) t hOQ rfl rfl (by rw [upI_len]; omega) hB6 ?_)
        intro qv' w7 ho7 b7 hal7
        obtain ⟨f7,hr7,h7⟩:=h6.push hr6.out t ho7 hal7
        replace hr7:=Hd hr7
        replace ho7:=Hd ho7
        clear hal7
        go_wp2
        go_roundw
        case measure=>simp [intOf]; omega
        case rel=>exact ⟨j+1,updN m' t true,t::qs,f7,qv',rfl,by go_num,by omega,by simp only [List.length_cons]; omega,hr7.out,b6.trans b7,h7,hmark.out,hmv2.out,hdone2.out⟩
       | true =>
        have hdone2:∀ i,i<j+1→m' (gx.getD i 0).toNat=true:=fun i hi=>by
         by_cases q:i=j
         ·subst q; rw [hgd]; exact hbt
         ·exact hdone i (by omega)
        replace hdone2:=Hd hdone2
        replace hdone:=Hd hdone
        replace hmv:=Hd hmv
        replace hI:=Hd hI
        replace hbt:=Hd hbt
        replace hr5:=Hd hr5
        replace hr6:=Hd hr6
        replace hOV:=Hd hOV
        replace hMj:=Hd hMj
        replace hgd:=Hd hgd
        replace hgj:=Hd hgj
        replace hu:=Hd hu
        replace hta:=Hd hta
        go_wp2
        go_roundw
        case measure=>simp [intOf]; omega
        case rel=>exact ⟨j+1,m',qs,f5,qv,rfl,by go_num,by omega,by omega,hr5.out,b5,h5,hI.out,hmv.out,hdone2.out⟩
      ·obtain rfl:j=gx.length:=by omega
       have hfin:=hI.finish (fun t ht=>by
        rw [hadj.out] at ht
        obtain ⟨x,hx,rfl⟩:=List.mem_map.1 ht
        obtain ⟨i,hi,rfl⟩:=List.mem_iff_getElem.1 hx
        have:=hdone i hi
        rw [List.getD_eq_getElem?_getD,List.getElem?_eq_getElem hi] at this
        exact this)
       replace hfin:=Hd hfin
       replace hdone:=Hd hdone
       replace hmv:=Hd hmv
       replace hI:=Hd hI
       replace hr5:=Hd hr5
       go_wp2
       go_roundg (2*unm G.length m'+qs.length)
       case measure=>simp only [List.length_cons]; omega
       case rel=>exact ⟨m',qs,f5,qv,rfl,rfl,by omega,hr5.out,b5,h5,hfin.out⟩
def BackTo (G:List (List Int)) (k j:Nat) (F:Nat→List Int):Prop :=
 ∀ t,t<G.length→((F t).length≤arrowsTo G k+j∧∀ y:Int,y∈F t↔∃ v:Nat,y=v∧(v<k∧(t:Int)∈G.getD v []∨v=k∧(t:Int)∈(G.getD k []).take j))
theorem BackTo.zero (G:List (List Int)):BackTo G 0 0 (fun _=>[]):=by
 intro t _
 refine ⟨Nat.zero_le _,fun y=>⟨fun h=>(by cases h),fun ⟨v,_,h⟩=>?_⟩⟩
 rcases h with ⟨h,_⟩ | ⟨_,h⟩
 ·omega
 ·simp at h
theorem BackTo.next {G:List (List Int)} {k:Nat} {F:Nat→List Int} (h:BackTo G k (G.getD k []).length F):BackTo G (k+1) 0 F:=by
 intro t ht
 obtain ⟨h1,h2⟩:=h t ht
 refine ⟨by simpa [arrowsTo] using h1,fun y=>?_⟩
 rw [h2 y]
 constructor
 ·rintro ⟨v,hv,h⟩
  refine ⟨v,hv,.inl ?_⟩
  rcases h with ⟨a,b⟩ | ⟨rfl,b⟩
  ·exact ⟨by omega,b⟩
  ·rw [List.take_length] at b; exact ⟨by omega,b⟩
 ·rintro ⟨v,hv,h⟩
  rcases h with ⟨a,b⟩ | ⟨_,b⟩
  ·refine ⟨v,hv,?_⟩
   by_cases e:v=k
   ·subst e; exact .inr ⟨rfl,by rw [List.take_length]; exact b⟩
   ·exact .inl ⟨by omega,b⟩
  ·simp at b
theorem BackTo.add {G:List (List Int)} {k j u:Nat} {F:Nat→List Int} (h:BackTo G k j F) (hj:(G.getD k [])[j]?=some (u:Int)):BackTo G k (j+1) (updN F u (F u++[(k:Int)])):=by
 have hjl:j<(G.getD k []).length:=by
  by_cases q:j<(G.getD k []).length
  ·exact q
  ·rw [List.getElem?_eq_none (by omega)] at hj; cases hj
 have htk:(G.getD k []).take (j+1)=(G.getD k []).take j++[(u:Int)]:=by
  rw [List.take_add_one,hj]; rfl
 intro t ht
 obtain ⟨h1,h2⟩:=h t ht
 by_cases e:t=u
 ·subst e
  rw [updN_same]
  refine ⟨by rw [List.length_append]; simp only [List.length_cons,List.length_nil]; omega,fun y=>?_⟩
  rw [List.mem_append,h2 y,htk]
  simp only [List.mem_singleton,List.mem_append]
  constructor
  ·rintro (⟨v,hv,h⟩ | rfl)
   ·refine ⟨v,hv,?_⟩
    rcases h with h | ⟨a,b⟩
    ·exact .inl h
    ·exact .inr ⟨a,.inl b⟩
   ·exact ⟨k,rfl,.inr ⟨rfl,.inr (by simp)⟩⟩
  ·rintro ⟨v,hv,h⟩
   rcases h with h | ⟨a,b | b⟩
   ·exact .inl ⟨v,hv,.inl h⟩
   ·exact .inl ⟨v,hv,.inr ⟨a,b⟩⟩
   ·right; rw [hv,a]
 ·rw [updN_other _ _ _ e]
  refine ⟨by omega,fun y=>?_⟩
  rw [h2 y,htk]
  simp only [List.mem_append,List.mem_singleton]
  constructor
  ·rintro ⟨v,hv,h⟩
   refine ⟨v,hv,?_⟩
   rcases h with h | ⟨a,b⟩
   ·exact .inl h
   ·exact .inr ⟨a,.inl b⟩
  ·rintro ⟨v,hv,h⟩
   refine ⟨v,hv,?_⟩
   rcases h with h | ⟨a,b | b⟩
   ·exact .inl h
   ·exact .inr ⟨a,b⟩
   ·exact absurd (by omega) e
def TurnedOf (G H:List (List Int)):Prop:=H.length=G.length∧(∀ t,t<G.length→(H.getD t []).length≤arrowsTo G G.length)∧∀ t,t<G.length→∀ y:Int,y∈H.getD t []↔∃ v:Nat,y=v∧v<G.length∧(t:Int)∈G.getD v []
theorem BackTo.turned {G:List (List Int)} {F:Nat→List Int} (h:BackTo G G.length 0 F):TurnedOf G (rowsOf G.length F):=by
 refine ⟨rowsOf_len _ _,fun t ht=>?_,fun t ht y=>?_⟩
 ·rw [rowsOf_get _ _ _ ht]; simpa using (h t ht).1
 ·rw [rowsOf_get _ _ _ ht,(h t ht).2 y]
  constructor
  ·rintro ⟨v,hv,h⟩
   rcases h with h | ⟨_,h⟩
   ·exact ⟨v,hv,h.1,h.2⟩
   ·simp at h
  ·rintro ⟨v,hv,h⟩
   exact ⟨v,hv,.inl h⟩
theorem graph_back (na:Option Addr) (nc:Nat) (G:List (List Int)) (w:World) (h:ListsAt w (.slice na G.length nc) G) (hok:GraphOk G) (hn:G.length≤8200) (harr:arrowsTo G G.length≤262144) :
 Calls Tryz.prog 134 #[.slice na G.length nc] w (Ret1 (fun x w'=>∃ H,TurnedOf G H∧ListsAt w' x H) w):=by
 obtain ⟨ov,w1,mk,ho,hb1⟩:=run_makeW oneLists (G.length:Int) G.length w rfl (by omega)
 obtain ⟨f1,hr1,h1⟩:=WN.made G.length hb1 (Nat.le_refl _) ho
 obtain ⟨oa,on,oc,rfl⟩:=ho.shape
 have hlen:∀ k,k<G.length→(G.getD k []).length≤262144:=fun k hk=>by
  have:=arrowsTo_mono G (show k+1≤G.length by omega)
  simp only [arrowsTo] at this; omega
 replace h:=Hd h
 replace hok:=Hd hok
 replace hr1:=Hd hr1
 replace ho:=Hd ho
 replace hlen:=Hd hlen
 go_enter Tryz.func134,Tryz.ntmps134
 go_wp2_with fail
 clear mk
 go_loopw [13] (fun kv wr=>∃ (k:Nat) (F:Nat→List Int) (f:Names) (vals:List Value),k≤G.length∧kv=.int .i64 k∧Rows w.heap.size wr f∧Below w.heap.size w wr∧WN f (.slice oa on oc) vals G.length F∧BackTo G k 0 F) (fun kv _=>G.length-(intOf kv).toNat)
 case atStart=>exact ⟨0,_,f1,_,by omega,rfl,hr1.out,hb1,h1,BackTo.zero G⟩
 case round =>
  clear h1 ho hr1
  obtain ⟨k,F,f2,vals,hk,rfl,hr2,b2,h2,hB⟩:=hrel
  obtain ⟨wo,rfl⟩:∃ wo:World,wo=wr:=⟨_,rfl⟩
  by_cases hlt:k<G.length
  ·obtain ⟨mv,iR,cR0,hM0⟩:=h.out.row k hlt
   have cR:=(b2.cell (World.block_lt_of_cell? _ _ cR0)).trans cR0
   clear cR0
   have hM:=hM0.below b2
   have hgl:=hlen.out k hlt
   have hgp:=hok.out k hlt
   have hBadd:=fun (j u:Nat) (F:Nat→List Int) (h:BackTo G k j F)=>h.add (u:=u)
   have hBnext:=fun (F:Nat→List Int) (h:BackTo G k (G.getD k []).length F)=>h.next
   have hBlen:=fun (j t:Nat) (F:Nat→List Int) (h:BackTo G k j F) (ht:t<G.length)=>(h t ht).1
   have harrk:=arrowsTo_mono G hk
   generalize G.getD k []=gk at *
   have lM:=hM.len
   generalize valAt (.slice na G.length nc) k=ra at *
   replace hB:=Hd hB
   replace hBadd:=Hd hBadd
   replace hBnext:=Hd hBnext
   replace hBlen:=Hd hBlen
   replace hgp:=Hd hgp
   replace hr2:=Hd hr2
   replace hM:=Hd hM
   replace hM0:=Hd hM0
   go_wp2_with fail
   clear iR cR lM
   go_loopw [20] (fun jv wr=>∃ (j:Nat) (F:Nat→List Int) (f:Names) (vals:List Value),j≤gk.length∧jv=.int .i64 j∧Rows w.heap.size wr f∧Below w.heap.size w wr∧WN f (.slice oa on oc) vals G.length F∧BackTo G k j F) (fun jv _=>gk.length-(intOf jv).toNat)
   case atStart=>exact ⟨0,F,f2,vals,by omega,rfl,hr2.out,b2,h2,hB.out⟩
   case round =>
    clear hB hr2 h2 b2 hM
    obtain ⟨j,F,f3,vals,hj,rfl,hr3,b3,h3,hB⟩:=hrel
    obtain ⟨wo,rfl⟩:∃ wo:World,wo=wr:=⟨_,rfl⟩
    by_cases hjl:j<gk.length
    ·have hMj:=hM0.out.below b3
     have hgj:=hgp.out gk[j] (List.getElem_mem hjl)
     obtain ⟨u,hu⟩:∃ u:Nat,gk[j]=u:=Int.eq_ofNat_of_zero_le hgj.1
     have hun:u<G.length:=by rw [hu] at hgj; omega
     have hgu:gk[j]?=some (u:Int):=by rw [List.getElem?_eq_getElem hjl,hu]
     have hgd:gk.getD j 0=(u:Int):=by rw [List.getD_eq_getElem?_getD,hgu]; rfl
     have iJ:=fun w'=>hMj.idx j hjl w'
     have cJ:=hMj.cellD j hjl
     rw [hgd] at cJ
     have hadd:=hBadd.out j u F hB hgu
     have hfl:=hBlen.out j u F hB hun
     have hOV:=(hr3.ownV h3.outer).at
     have iO:=fun w'=>hOV.idx oneLists u (by rw [h3.len]; exact hun) w'
     have cO:=hOV.cellV u (by rw [h3.len]; exact hun)
     have hT:=hr3.ownI (h3.rows u hun)
     have happ:=fun (w1:World) (v':Value)=>h3.app hr3 hun (w1:=w1) (v':=v') (k:Int)
     have hput:=fun (w1:World) (v':Value) (xs:List Int)=>h3.put (B:=w.heap.size) (w1:=w1) hun (v':=v') (xs:=xs)
     have hB3:w.heap.size≤wo.heap.size:=b3.size
     generalize valAt mv j=ja at *
     generalize vAt vals u=tv at *
     generalize valAt (.slice oa on oc) u=ua at *
     replace hadd:=Hd hadd
     replace happ:=Hd happ
     replace hput:=Hd hput
     replace hB:=Hd hB
     replace hr3:=Hd hr3
     replace hOV:=Hd hOV
     replace hgu:=Hd hgu
     replace hgd:=Hd hgd
     replace hu:=Hd hu
     replace hgj:=Hd hgj
     go_wp2_with (at_builtin; refine wpl_app1 rfl _ _ rfl w.heap.size tv (F u) k hT rfl rfl (by omega) hB3 ?_)
     intro v' w7 ho7 b7 hal7
     have hR7:=happ.out w7 v' ho7 hal7
     obtain ⟨y1,y2,y3,f8,hr8,h8,_⟩:=hput.out w7 v' _ hR7
     obtain ⟨va,vn,vc,rfl⟩:=ho7.at.shape
     replace hr8:=Hd hr8
     replace ho7:=Hd ho7
     replace hR7:=Hd hR7
     clear hal7 hT iJ cJ cO
     go_wp2
     go_roundw
     case measure=>simp [intOf]; omega
     case rel=>exact ⟨j+1,_,f8,_,by omega,by go_num,hr8.out,(b3.trans b7).setCell y3 _,h8,hadd.out⟩
    ·obtain rfl:j=gk.length:=by omega
     have hnext:=hBnext.out F hB
     replace hnext:=Hd hnext
     replace hB:=Hd hB
     replace hr3:=Hd hr3
     go_wp2
     go_roundw
     case measure=>simp [intOf]; omega
     case rel=>exact ⟨k+1,F,f3,vals,by omega,by go_num,hr3.out,b3,h3,hnext.out⟩
  ·obtain rfl:k=G.length:=by omega
   have hT:=hB.turned
   have hL:=h2.lists hr2
   replace hB:=Hd hB
   replace hT:=Hd hT
   replace hL:=Hd hL
   replace hr2:=Hd hr2
   go_wp2
   go_ret
   exact ⟨_,rfl,b2,_,hT.out,hL.out⟩
end Go.Proofs.YtkaoebokbfcmhaaGreatDoor
namespace Go.Proofs.YtkaoebokbfcmhaaGreatDoor
open Go.RowKit Go.Shelf
attribute [local go_sem] Oper.semAt_some
set_option maxRecDepth 100000
set_option maxHeartbeats 8000000
theorem vals1_in (F:Fence) (n:Nat) (hF:F.fn 189) (hro:F.round=none) (hn:1≤n) (l Bs n0:Nat) (v:Value) (zs:List Int) (J Jx:List Int→World→Prop)
 (hY:∀ pre x W,J pre W→pre.length<zs.length→YieldAt F (n-1) Tryz.prog l #[.int .i64 x] W fun e W' =>
   (e=.returned (.bool true)∧J (pre++[x]) W'∧Below n0 W W')∨(e=.returned (.bool false)∧Jx (pre++[x]) W'))
 (W:World) (hBs:W.cell? ⟨Bs,0,none⟩=some v) (hv:IntsAt W v zs) (hb:∀ i,i<zs.length→(valAt v i).block<n0) (h0:J [] W) :
 CallsIn F n Tryz.prog 189 #[.func (.yield l) #[] #[],.pointer (some ⟨Bs,0,none⟩)] W fun e W'=>(∃ u,e=.returned u) ∧
  ((∃ ys,ys=zs∧J ys W')∨(∃ pre,pre <+: zs∧Jx pre W')):=by
 have hlen:=hv.len
 have hmax:=hv.len_le
 replace hv:=Hd hv
 refine callsIn_of_wp Tryz.func189 rfl hF ?_ hro
 simp only [Tryz.ntmps189,List.size_toArray,List.length_cons,List.length_nil,Nat.reduceAdd,Nat.reduceSub,Array.replicate_succ,Array.replicate_zero,List.push_toArray,List.append_toArray,List.nil_append,List.cons_append]
 gi_wp2
 gi_loopw [7] (fun i wr=>∃ k:Nat,k≤zs.length∧i=.int .i64 k∧J (zs.take k) wr∧Below n0 W wr)
  (fun i _=>zs.length-(intOf i).toNat)
 case atStart=>exact ⟨0,Nat.zero_le _,rfl,h0,Below.refl _ _⟩
 case round =>
  obtain ⟨k,hk,rfl,hJs,hnx⟩:=hrel
  by_cases hlt:k<zs.length
  ·have i1:=hv.out.idx k hlt
   have c1:=(hnx.cell (hb k hlt)).trans (hv.out.cell k hlt)
   have ht:=Hd (take_snoc zs k hlt)
   obtain ⟨x,hx⟩:∃ x,x=zs[k]:=⟨_,rfl⟩
   rw [← hx] at c1 ht
   clear hx
   obtain ⟨fn,tmps,assign,body,hy,hR⟩:=hY _ x wr hJs (by simp; omega)
   replace hJs:=Hd hJs
   gi_wp2
   refine hR.mono ?_
   rintro e W3 (⟨rfl,hJ3,hk3⟩ | ⟨rfl,hJx3⟩)
   ·replace hJ3:=Hd hJ3
    gi_wp2
    go_roundw
    case rel=>exact ⟨k+1,by omega,by go_num,by rw [ht.out]; exact hJ3.out,hnx.trans hk3⟩
    case measure=>simp [intOf]; omega
   ·replace hJx3:=Hd hJx3
    gi_wp2
    refine bodyPost_ret (results_none rfl _ _ _) rfl ?_
    exact ⟨⟨_,rfl⟩,.inr ⟨_,by rw [← ht.out]; exact List.take_prefix _ _,hJx3.out⟩⟩
  ·obtain rfl:k=zs.length:=by omega
   rw [List.take_length] at hJs
   replace hJs:=Hd hJs
   gi_wp2
   go_end0
   exact ⟨⟨_,rfl⟩,.inl ⟨_,rfl,hJs.out⟩⟩
theorem vals_any (a:Option Addr) (n c:Nat) (w:World) :
 Calls Tryz.prog 172 #[.slice a n c] w fun e w'=>e=.returned (.func (.func 189) #[] #[.pointer (some ⟨w.heap.size,0,none⟩)])∧w.alloc (.cells #[.slice a n c] 22)=w':=by
 go_enter Tryz.func172,Tryz.ntmps172
 go_wp2
 go_ret
 exact ⟨rfl,rfl⟩
theorem vals_stops (F:Fence) (n:Nat) (hF:F.fn 189) (hro:F.round=none) (hn:1≤n) (Bs n0:Nat) (v:Value) (zs:List Int) (w:World) (hBs:Bs<w.heap.size)
 (hc:w.cell? ⟨Bs,0,none⟩=some v) (hv:IntsAt w v zs) (hb:∀ i,i<zs.length→(valAt v i).block<n0) :
 SeqStopsK F n Tryz.prog 189 #[.pointer (some ⟨Bs,0,none⟩)] (fun x:Int=>#[Value.int .i64 x]) (Below n0) (fun ys=>ys=zs) (fun pre=>pre <+: zs) zs.length w:=fun l J Jx W hW _ _ hY h0 =>
 vals1_in F n hF hro hn l Bs n0 v zs J Jx hY W ((hW.cell (p:=⟨Bs,0,none⟩) hBs).trans hc) (hv.below hW) hb h0
theorem appendSeq_in (F:Fence) (n:Nat) (hA:F.fn 194) (hV:F.fn 189) (hro:F.round=none) (hn:3≤n) (Bs:Nat) (v:Value) (zs:List Int) (hlen:zs.length≤17592186044416) (w:World)
 (hBs:Bs<w.heap.size) (hc:w.cell? ⟨Bs,0,none⟩=some v) (hv:IntsAt w v zs) :
 CallsIn F n Tryz.prog 194 #[.slice none 0 0,.func (.func 189) #[] #[.pointer (some ⟨Bs,0,none⟩)]] w fun e w'=>∃ x,e=.returned x∧OwnI w.heap.size w' x zs∧Below w.heap.size w w':=by
 have h1:1≤n:=by omega
 obtain ⟨i0,hi,hz0,hz1,hz2⟩:=info_parts iInt
 refine callsIn_of_wp_marks Tryz.func194 rfl hA ?_ hro
 simp only [Tryz.ntmps194,List.size_toArray,List.length_cons,List.length_nil,Nat.reduceAdd,Nat.reduceSub,Array.replicate_succ,Array.replicate_zero,List.push_toArray,List.append_toArray,List.nil_append,List.cons_append]
 replace hv:=Hd hv
 gi_wp2
 have bO:=Boxed.new w 22 (.slice none 0 0)
 have hB0:Below w.heap.size w (w.alloc (.cells #[.slice none 0 0] 22)):=(Below.refl _ w).alloc (Nat.le_refl _) _
 refine wpIn_rangeFunc_ownG hro h1 (gf:=189) (lb:=#[.pointer (some ⟨Bs,0,none⟩)]) rfl hV (enters_of Tryz.func189 (by kernel_rfl) rfl)
  (vals_stops F (n-1) hV hro (by omega) Bs w.heap.size v zs _ (by simp; omega) ((hB0.cell (p:=⟨Bs,0,none⟩) hBs).trans hc) (hv.out.below hB0) (fun i hi=>hv.out.blk i hi)) belowK_t (belowK_b (by simp)) (Below.refl _ _) (fun _=>rfl)
  (fun pre W=>(∃ v,Boxed W w.heap.size 22 v∧W.ownsRow w.heap.size 3 1 v pre.length (pre.map (Value.int .i64))∧(v=.slice none 0 0↔pre=[]))∧Below w.heap.size w W)
  (fun _ _ _=>False)
  (OwnFrom.and (Own.from (holdsRow_own w.heap.size w.heap.size 22 3 1 (fun pre=>pre.length) (fun pre=>pre.map (Value.int .i64)) (fun pre v=>v=.slice none 0 0↔pre=[])) _) (ownFrom_below (Nat.le_refl _) (by simp)))
  (fun _ _ _ _ _ hs _ _=>hs)
  ⟨⟨_,bO,World.ownsRow_nil _ _ _ _,by simp⟩,hB0⟩
  (fun x=>{ tmps:=#[.slice none 0 0,.func (.func 189) #[] #[.pointer (some ⟨Bs,0,none⟩)],.pointer (some ⟨w.heap.size,0,none⟩),undef,.slice none 0 0,.int .i64 x,.func (.func 189) #[] #[.pointer (some ⟨Bs,0,none⟩)],.int .i64 x,undef,undef,undef,undef,undef],defers:=[] }) ?assign ?body ?done ?stop
 case assign =>
  intro l x W K hK
  gi_wp2
  exact hK
 case body =>
  rintro l pre x W ⟨⟨v,hv,hrow,hnil⟩,hB⟩ hlt
  have hc:=hv.cell
  gi_wp2_with (gi_at_builtin; refine wpListIn_append_own _ rfl _ _ 22 rfl w.heap.size 3 i0 (.int .i64 0) 1 8 uInts hi hz0 hz1 hz2 rfl (by decide) _ _ _ rfl (hrow.alloc _) ⟨W.heap.size,0,none⟩ 1 1 [.int .i64 x] rfl rfl (cell_one_new _ _ _) (by simp [Value.oneCell']) (by unfold maxLen; omega) (by omega) (by have:=hB.size; simp; omega) ?_; intro v' w1 hown' hgrow _; obtain ⟨g',cap',rfl⟩:=ownsRow_succ hown'; obtain ⟨hv1,hv2,hr2,hk2,hb2⟩:=hv.appended (by decide) hrow hB.size (Nat.le_refl _) hown' hgrow; have hc1:=hv1.cell; have hf1:=hv1.frozen)
  exact ⟨hk2.from _,hb2,⟨_,hv2,by simpa using hr2,by simp⟩,hB.trans hb2⟩
 case done =>
  rintro D ys W hD rfl ⟨⟨v,hv,hrow,hnil⟩,hB⟩ hK
  have hc:=hv.cell
  gi_wp2
  refine ⟨by simp,.inl ⟨_,_,rfl,run_takeDeferred hK,?_⟩⟩
  exact ⟨_,results_tmp rfl _ _ _,v,rfl,ownsRow_putObj hrow _ hK rfl,hB.trans (belowK_b (w:=w) (Nat.le_refl _) W D _ _ (by simp at hD; omega) hK rfl rfl)⟩
 case stop =>
  rintro D c pre W _ _ h _
  exact h.elim
theorem collect_any (Bs:Nat) (v:Value) (zs:List Int) (hlen:zs.length≤17592186044416) (w:World) (hBs:Bs<w.heap.size) (hc:w.cell? ⟨Bs,0,none⟩=some v) (hv:IntsAt w v zs) :
 Calls Tryz.prog 188 #[.func (.func 189) #[] #[.pointer (some ⟨Bs,0,none⟩)]] w (Ret1 (fun x w'=>OwnI w.heap.size w' x zs) w):=by
 have hA:=(callsIn_wide (n:=6)).1 (appendSeq_in Fence.wide 6 trivial trivial rfl (by omega) Bs v zs hlen w hBs hc hv)
 go_enter Tryz.func188,Tryz.ntmps188
 go_wp2_with fail
 refine hA.mono ?_
 clear hA
 rintro e w1 ⟨x,rfl,ho,hb⟩
 replace ho:=Hd ho
 go_wp2
 go_ret
 exact ⟨_,rfl,hb,ho.out⟩
end Go.Proofs.YtkaoebokbfcmhaaGreatDoor
namespace Go.Proofs.YtkaoebokbfcmhaaGreatDoor
open Go.RowKit Go.Shelf Go.Sort
set_option maxRecDepth 100000
def Tryz.laysSort_ren:Go.Shelf.Ren:=⟨fun | 5=>98 | 8=>131 | 7=>130 | 19=>166 | 20=>167 | 10=>157 | 11=>158 | 12=>159 | 13=>160 | 14=>161 | 15=>162 | 16=>163 | 17=>164 | 18=>165 | 30=>181 | 31=>182 | 32=>183 | 33=>184 | 34=>185 | 35=>114 | 40=>193 | n=>n,fun | 23=>22 | 25=>3 | 3=>3 | 32=>108 | 22=>22 | 0=>0 | 44=>82 | 46=>50 | 4=>4 | 36=>235 | 35=>234 | 41=>219 | 5=>5 | 9=>9 | 53=>262 | 57=>266 | 63=>274 | 64=>275 | n=>n,fun | n=>n⟩
theorem Tryz.laysSort:Go.Proofs.SlLaysM.n5 Tryz.prog Tryz.laysSort_ren:={
 mixed:=by kernel_rfl
 f5:=⟨Tryz.f98.name,by decide,Tryz.func98.trans (congrArg some (by kernel_rfl))⟩
 f7:=⟨Tryz.f130.name,by decide,Tryz.func130.trans (congrArg some (by kernel_rfl))⟩
 f8:=Tryz.func131.trans (congrArg some (by kernel_rfl))
 f10:=⟨Tryz.f157.name,by decide,Tryz.func157.trans (congrArg some (by kernel_rfl))⟩
 f11:=⟨Tryz.f158.name,by decide,Tryz.func158.trans (congrArg some (by kernel_rfl))⟩
 f12:=⟨Tryz.f159.name,by decide,Tryz.func159.trans (congrArg some (by kernel_rfl))⟩
 f13:=⟨Tryz.f160.name,by decide,Tryz.func160.trans (congrArg some (by kernel_rfl))⟩
 f14:=⟨Tryz.f161.name,by decide,Tryz.func161.trans (congrArg some (by kernel_rfl))⟩
 f15:=⟨Tryz.f162.name,by decide,Tryz.func162.trans (congrArg some (by kernel_rfl))⟩
 f16:=⟨Tryz.f163.name,by decide,Tryz.func163.trans (congrArg some (by kernel_rfl))⟩
 f17:=⟨Tryz.f164.name,by decide,Tryz.func164.trans (congrArg some (by kernel_rfl))⟩
 f18:=⟨Tryz.f165.name,by decide,Tryz.func165.trans (congrArg some (by kernel_rfl))⟩
 f19:=Tryz.func166.trans (congrArg some (by kernel_rfl))
 f20:=Tryz.func167.trans (congrArg some (by kernel_rfl))
 f30:=⟨Tryz.f181.name,by decide,Tryz.func181.trans (congrArg some (by kernel_rfl))⟩
 f31:=Tryz.func182.trans (congrArg some (by kernel_rfl))
 f32:=Tryz.func183.trans (congrArg some (by kernel_rfl))
 f33:=⟨Tryz.f184.name,by decide,Tryz.func184.trans (congrArg some (by kernel_rfl))⟩
 f34:=⟨Tryz.f185.name,by decide,Tryz.func185.trans (congrArg some (by kernel_rfl))⟩
 f35:=⟨Tryz.f114.name,by decide,Tryz.func114.trans (congrArg some (by kernel_rfl))⟩
 f40:=⟨Tryz.f193.name,by decide,Tryz.func193.trans (congrArg some (by kernel_rfl))⟩
 t0:=Tryz.underlying0
 a0:=Tryz.isAgg0
 z0:=Tryz.sizeOf0
 v0:=Tryz.zeroValue0
 t3:=Tryz.underlying3
 a3:=Tryz.isAgg3
 z3:=Tryz.sizeOf3
 v3:=Tryz.zeroValue3
 t4:=Tryz.underlying4
 a4:=Tryz.isAgg4
 z4:=Tryz.sizeOf4
 v4:=Tryz.zeroValue4
 t5:=Tryz.underlying5
 a5:=Tryz.isAgg5
 z5:=Tryz.sizeOf5
 v5:=Tryz.zeroValue5
 t9:=Tryz.underlying9
 a9:=Tryz.isAgg9
 z9:=Tryz.sizeOf9
 v9:=Tryz.zeroValue9
 t22:=Tryz.underlying22
 a22:=Tryz.isAgg22
 z22:=Tryz.sizeOf22
 v22:=Tryz.zeroValue22
 t23:=Tryz.underlying22
 a23:=Tryz.isAgg22
 z23:=Tryz.sizeOf22
 v23:=Tryz.zeroValue22
 t25:=Tryz.underlying3
 a25:=Tryz.isAgg3
 z25:=Tryz.sizeOf3
 v25:=Tryz.zeroValue3
 t32:=Tryz.underlying108
 a32:=Tryz.isAgg108
 z32:=Tryz.sizeOf108
 v32:=Tryz.zeroValue108
 t35:=Tryz.underlying234
 a35:=Tryz.isAgg234
 z35:=Tryz.sizeOf234
 v35:=Tryz.zeroValue234
 t36:=Tryz.underlying235
 a36:=Tryz.isAgg235
 z36:=Tryz.sizeOf235
 v36:=Tryz.zeroValue235
 t41:=Tryz.underlying219
 a41:=Tryz.isAgg219
 z41:=Tryz.sizeOf219
 v41:=Tryz.zeroValue219
 t44:=Tryz.underlying82
 a44:=Tryz.isAgg82
 z44:=Tryz.sizeOf82
 v44:=Tryz.zeroValue82
 t46:=Tryz.underlying50
 a46:=Tryz.isAgg50
 z46:=Tryz.sizeOf50
 v46:=Tryz.zeroValue50
 t53:=Tryz.underlying262
 a53:=Tryz.isAgg262
 z53:=Tryz.sizeOf262
 v53:=Tryz.zeroValue262
 t57:=Tryz.underlying266
 a57:=Tryz.isAgg266
 z57:=Tryz.sizeOf266
 v57:=Tryz.zeroValue266
 t63:=Tryz.underlying274
 a63:=Tryz.isAgg274
 z63:=Tryz.sizeOf274
 v63:=Tryz.zeroValue274
 t64:=Tryz.underlying275
 a64:=Tryz.isAgg275
 z64:=Tryz.sizeOf275
 v64:=Tryz.zeroValue275 }
def srt (xs:List Int):List Int:=xs.mergeSort fun x y=>decide (x≤y)
theorem srt_length (xs:List Int):(srt xs).length=xs.length:=by simp [srt]
theorem sort_own (B:Nat) (v:Value) (xs:List Int) (w:World) (h:OwnI B w v xs) (hl:xs.length≤17592186044416) (hB:B≤w.heap.size) :
 Calls Tryz.prog 98 #[v] w fun e w'=>e=.returned (.tuple #[])∧OwnI B w' v (srt xs)∧Below B w w':=by
 rcases h.2 with ⟨rfl,hn⟩ | ⟨g,cap,cur,rfl,hb,hg,hn,hcm,hs,ht⟩
 ·obtain rfl:=List.length_eq_zero_iff.1 hn
  refine Calls.mono (AnyM.slices_Sort_int_none Tryz.laysSort none 0 w) ?_
  rintro e w' ⟨rfl,rfl⟩
  exact ⟨rfl,by simpa [srt] using h,Below.refl _ _⟩
 ·have hlen:xs.length<4611686018427387904:=by omega
  refine Calls.mono (AnyM.slices_Sort_int Tryz.laysSort g 0 cap xs w (holds_of_block_i hg (by simpa using ht)) (Array.getElem?_eq_some_iff.1 hg).1 hlen) ?_
  rintro e w' ⟨rfl,n,os,rfl⟩
  refine ⟨rfl,?_,(Below.refl _ _).grown (grownBy_sorted_i _) hB (fun j hj=>by cases hj; exact hb)⟩
  have:=ownsRow_sorted_i (n:=n) (os:=os) (ts:=srt xs) (srt_length xs) hb hg hn hcm hs
  unfold OwnI
  rw [srt_length]
  exact this
theorem sorted_any (Bs:Nat) (v:Value) (zs:List Int) (hlen:zs.length≤17592186044416) (w:World) (hBs:Bs<w.heap.size) (hc:w.cell? ⟨Bs,0,none⟩=some v) (hv:IntsAt w v zs) :
 Calls Tryz.prog 171 #[.func (.func 189) #[] #[.pointer (some ⟨Bs,0,none⟩)]] w (Ret1 (fun x w'=>OwnI w.heap.size w' x (srt zs)) w):=by
 have hA:=collect_any Bs v zs hlen w hBs hc hv
 go_enter Tryz.func171,Tryz.ntmps171
 go_wp2_with fail
 refine hA.mono ?_
 clear hA
 rintro e w1 ⟨x,rfl,hb,ho⟩
 have hs:=hb.size
 go_wp2_with fail
 refine (sort_own w.heap.size x zs _ ho hlen hs).mono ?_
 rintro e w2 ⟨rfl,ho2,hb2⟩
 replace ho2:=Hd ho2
 go_wp2
 go_ret
 exact ⟨_,rfl,hb.trans hb2,ho2.out⟩
end Go.Proofs.YtkaoebokbfcmhaaGreatDoor
namespace Go.Proofs.YtkaoebokbfcmhaaGreatDoor
open Go.RowKit Go.Shelf
set_option maxRecDepth 100000
def Tryz.laysRev_ren:Go.Shelf.Ren:=⟨fun | 112=>150 | n=>n,fun | 28=>22 | 3=>3 | 4=>4 | 0=>0 | n=>n,fun | n=>n⟩
theorem Tryz.laysRev:Go.Proofs.Lays.n112 Tryz.prog Tryz.laysRev_ren:={
 mixed:=by kernel_rfl
 f112:=Tryz.func150.trans (congrArg some (by kernel_rfl))
 t0:=Tryz.underlying0
 a0:=Tryz.isAgg0
 z0:=Tryz.sizeOf0
 v0:=Tryz.zeroValue0
 t3:=Tryz.underlying3
 a3:=Tryz.isAgg3
 z3:=Tryz.sizeOf3
 v3:=Tryz.zeroValue3
 t4:=Tryz.underlying4
 a4:=Tryz.isAgg4
 z4:=Tryz.sizeOf4
 v4:=Tryz.zeroValue4
 t28:=Tryz.underlying22
 a28:=Tryz.isAgg22
 z28:=Tryz.sizeOf22
 v28:=Tryz.zeroValue22 }
theorem setCells_own {B g n cap:Nat} {w0:World}:∀ (zs:List Int) (o:Nat) (xs:List Int) (w:World),xs.length=n→o+zs.length≤n→OwnI B w (.slice (some ⟨g,0,none⟩) n cap) xs→Below B w0 w →
 OwnI B (w.setCells g o (zs.map (Value.int .i64))) (.slice (some ⟨g,0,none⟩) n cap) (xs.take o++zs++xs.drop (o+zs.length))∧Below B w0 (w.setCells g o (zs.map (Value.int .i64)))
 | [],o,xs,w,_,_,h,hb=>⟨by simpa [World.setCells] using h,hb⟩
 | z::r,o,xs,w,hn,ho,h,hb=>by
  have hol:o<xs.length:=by simp at ho; omega
  have h1:=h.set o hol z
  have h2:=h.setBelow hb o hol (.int .i64 z)
  rw [valAt_row] at h1 h2
  have ih:=setCells_own r (o+1) (xs.set o z) _ (by simpa using hn) (by simp at ho; omega) h1 h2
  have e:(xs.set o z).take (o+1)++r++(xs.set o z).drop (o+1+r.length)=xs.take o++(z::r)++xs.drop (o+(z::r).length):=by
   rw [List.take_set,List.drop_set_of_lt (by omega)]
   rw [show (xs.take (o+1)).set o z=xs.take o++[z] by rw [take_snoc xs o hol,List.set_append_right _ _ (by simp; omega)]; simp [show o-min o xs.length=0 by omega]]
   simp [show o+1+r.length=o+(r.length+1) by omega]
  rw [e] at ih
  exact ih
theorem reverse_own (B:Nat) (v:Value) (xs:List Int) (w:World) (h:OwnI B w v xs) (hl:xs.length≤9223372036854775807) :
 Calls Tryz.prog 150 #[v] w fun e w'=>e=.returned (.tuple #[])∧OwnI B w' v xs.reverse∧Below B w w':=by
 rcases h.2 with ⟨rfl,hn⟩ | ⟨g,cap,cur,rfl,hb,hg,hn,hm,hs,ht⟩
 ·obtain rfl:=List.length_eq_zero_iff.1 hn
  refine Calls.mono (Any.slices_Reverse_int_empty Tryz.laysRev none 0 w) ?_
  rintro e w' ⟨rfl,rfl⟩
  exact ⟨rfl,h,Below.refl _ _⟩
 ·refine Calls.mono (Any.slices_Reverse_int_cells Tryz.laysRev g 0 xs.length cap xs w (Nat.le_refl _) hl (fun j hj=>?_) (fun j hj=>?_)) ?_
  ·have:=h.at.cellD j hj
   rw [valAt_row] at this
   simpa using this
  ·have:=h.frz j hj
   rw [valAt_row] at this
   simpa using this
  ·rintro e w' ⟨rfl,q,rfl⟩
   rw [List.take_length]
   have:=setCells_own (w0:=w) xs.reverse 0 xs (w.drewN q) rfl (by simp) (h.drewN q) (below_drewN (Below.refl _ _) q)
   simp at this
   simpa using ⟨this.1,this.2⟩
end Go.Proofs.YtkaoebokbfcmhaaGreatDoor
namespace Go.Proofs.YtkaoebokbfcmhaaGreatDoor
open Go.RowKit
set_option maxRecDepth 100000
set_option maxHeartbeats 8000000
def castI (l:List Nat):List Int:=l.map fun (x:Nat)=>(x:Int)
theorem castI_len (l:List Nat):(castI l).length=l.length:=by simp [castI]
theorem castI_snoc (l:List Nat) (x:Nat):castI (l++[x])=castI l++[(x:Int)]:=by simp [castI]
theorem castI_get {l:List Nat} {i x:Nat} (h:l[i]?=some x):(castI l).getD i 0=(x:Int):=by simp [castI,List.getD,h]
theorem castI_reverse (l:List Nat):castI l.reverse=(castI l).reverse:=by simp [castI]
theorem nodup_len:∀ (n:Nat) (l:List Nat),l.Nodup→(∀ x∈l,x<n)→l.length≤n
 | 0,l,_,h=>by
  cases l with
  | nil=>exact Nat.le_refl _
  | cons a l=>have:=h a List.mem_cons_self; omega
 | n+1,l,hn,h=>by
  have hsub:=nodup_len n (l.erase n) (hn.erase n) (fun x hx=>by
   have h1:=h x (List.mem_of_mem_erase hx)
   have h2:x≠n:=fun e=>by subst e; exact (List.Nodup.not_mem_erase hn) hx
   omega)
  have:l.length≤(l.erase n).length+1:=by
   by_cases hm:n∈l
   ·have:=List.length_erase_of_mem hm; omega
   ·rw [List.erase_of_not_mem hm]; omega
  omega
def srtN (l:List Int):List Nat:=(srt l).map Int.toNat
theorem srt_mem (l:List Int) (x:Int):x∈srt l↔x∈l:=by unfold srt; exact (List.mergeSort_perm l _).mem_iff
theorem srt_sorted (l:List Int):(srt l).Pairwise (·≤·):=by
 have:=List.pairwise_mergeSort (le:=fun (x y:Int)=>decide (x≤y)) (fun a b c h1 h2=>by simp at *; omega) (fun a b=>by simp; omega) l
 unfold srt
 exact this.imp (fun h=>by simpa using h)
theorem srtN_sorted (l:List Int) (hp:∀ x∈l,0≤x):(srtN l).Pairwise (·≤·):=by
 unfold srtN
 rw [List.pairwise_map]
 refine (srt_sorted l).imp_of_mem fun {a b} ha hb h=>?_
 have:=hp a ((srt_mem l a).1 ha)
 omega
theorem srtN_mem (l:List Int) (t:Nat):t∈srtN l↔t∈l.map Int.toNat:=by
 unfold srtN
 simp only [List.mem_map,srt_mem]
theorem srtN_len (l:List Int):(srtN l).length=l.length:=by simp [srtN,srt_length]
theorem srtN_get (l:List Int) (hp:∀ x∈l,0≤x) (j:Nat) (hj:j<l.length):(srt l).getD j 0=((srtN l).getD j 0:Int):=by
 have hj':j<(srt l).length:=by rw [srt_length]; exact hj
 have h0:=hp _ ((srt_mem l _).1 (List.getElem_mem hj'))
 simp only [srtN,List.getD_eq_getElem?_getD,List.getElem?_map,List.getElem?_eq_getElem hj',Option.map_some,Option.getD_some]
 omega
theorem tabI_neg1 (n:Nat):tabI n (fun _=>-1)=List.replicate n (-1):=by
 unfold tabI; apply List.ext_getElem<;>simp
theorem rowsE (B:Nat) (w:World):Rows B w (fun _=>none):=⟨fun _ _ h=>(by cases h),fun _ _ _ _ h=>(by cases h)⟩
def FirstPost (w:World) (adj:Nat→List Nat) (a b:Nat) (x:Value) (w':World):Prop :=
 (∃ u,IsFirst adj a b u∧OwnI w.heap.size w' x (castI u))∨(¬ Goes adj a b∧x=.slice none 0 0)
structure FN (f:Names) (cv qv:Value) (n:Nat) (came:Nat→Int) (q:List Nat):Prop where
 came:f (1,0)=some (rowI cv (tabI n came))
 queue:f (2,0)=some (rowI qv (castI q))
section
variable {B:Nat} {w:World} {f:Names} {cv qv:Value} {n:Nat} {came:Nat→Int} {q:List Nat}
theorem FN.congr {f':Names} (h:FN f cv qv n came q) (e1:f' (1,0)=f (1,0)) (e2:f' (2,0)=f (2,0)):FN f' cv qv n came q:=⟨e1.trans h.came,e2.trans h.queue⟩
theorem FN.set (h:FN f cv qv n came q) (hr:Rows B w f) (t:Nat) (ht:t<n) (v:Int):∃ f',Rows B (w.setCell (valAt cv t) (.int .i64 v)) f'∧FN f' cv qv n (updN came t v) q∧∀ i,i≠(1,0)→f' i=f i:=by
 have hs:=hr.setI h.came t (by rw [tabI_len]; exact ht) v
 rw [tabI_upd] at hs
 exact ⟨_,hs,⟨upd_same _ _ _,by rw [upd_ne _ _ (by simp)]; exact h.queue⟩,fun i hi=>upd_ne _ _ hi⟩
theorem FN.push (h:FN f cv qv n came q) (hr:Rows B w f) {w1:World} {qv':Value} (t:Nat) (ho:OwnI B w1 qv' (castI q++[(t:Int)]))
 (hal:(roomOf qv'=roomOf qv∧w.grownBy w1 qv.ownBlock)∨(∃ k,qv'.ownBlock=some k∧w.heap.size≤k∧w.grownBy w1 none)):∃ f',Rows B w1 f'∧FN f' cv qv' n came (q++[t])∧∀ i,i≠(2,0)→f' i=f i:=by
 have hO:=hr.ownI h.queue
 have hg:w.grownBy w1 qv.ownBlock:=grown_via (hal.imp (·.2) (fun ⟨_,_,_,q⟩=>q))
 have hob:qv'.ownBlock=qv.ownBlock∨∃ k,qv'.ownBlock=some k∧w.heap.size≤k:=by
  rcases hal with ⟨q,_⟩ | ⟨k,h1,h2,_⟩
  ·obtain ⟨a1,n1,c1,e1⟩:=hO.at.shape
   obtain ⟨a2,n2,c2,e2⟩:=ho.at.shape
   exact .inl (ownBlock_of_room e1 e2 q)
  ·exact .inr ⟨k,h1,h2⟩
 exact ⟨_,hr.grown (r':=rowI qv' (castI q++[(t:Int)])) h.queue hg ho hob,⟨by rw [upd_ne _ _ (by simp)]; exact h.came,by rw [upd_same,castI_snoc]⟩,fun i hi=>upd_ne _ _ hi⟩
end
theorem first_any (na:Option Addr) (nc:Nat) (G:List (List Int)) (a b:Nat) (w:World) (h:ListsAt w (.slice na G.length nc) G) (hok:GraphOk G) (hn:G.length≤8200) (ha:a<G.length) (hb:b<G.length) (hsz:∀ k,k<G.length→(G.getD k []).length≤17592186044416) :
 Calls Tryz.prog 139 #[.slice na G.length nc,.int .i64 a,.int .i64 b] w (Ret1 (FirstPost w (adjOf G) a b) w):=by
 have b0:=belowAlloc w (.cells #[.int .i64 (-1)] 3)
 have hI:=(OwnI.lit w.heap.size w (Nat.le_refl _) [-1] (by simp [maxLen]) #[.int .i64 (-1)] rfl 1 rfl).at
 have hRep:=repeat_any _ (-1) G.length _ hI (by omega)
 have hinit:=BBase.init (adjOf G) a
 replace hI:=Hd hI
 replace h:=Hd h
 replace hok:=Hd hok
 replace hsz:=Hd hsz
 replace hinit:=Hd hinit
 replace hRep:=Hd hRep
 go_enter Tryz.func139,Tryz.ntmps139
 go_wp2_with fail
 refine hRep.out.mono ?_
 rintro e w1 ⟨cv,rfl,b1,hcv⟩
 obtain ⟨w0,hw0⟩:∃ w0:World,w0=w.alloc (.cells #[.int .i64 (-1)] 3):=⟨_,rfl⟩
 rw [← hw0] at b0 b1 hcv
 rw [← tabI_neg1] at hcv
 clear hRep hI hw0
 have b01:=Below.step b0 b1
 have R1:=(rowsE w.heap.size w0).add (i:=(1,0)) (r':=rowI cv (tabI G.length fun _=>-1)) b1 (hcv.mono b0.size) (fun k hk=>(hcv.lt k hk).1)
 have iA:=fun w'=>hcv.at.idx a (by rw [tabI_len]; exact ha) w'
 have cA:=hcv.at.cellD a (by rw [tabI_len]; exact ha)
 have fA:=hcv.frz a (by rw [tabI_len]; exact ha)
 have kA:=(hcv.toV.blkB a (by rw [List.length_map,tabI_len]; exact ha)).2
 have R2:=R1.setI (upd_same _ _ _) a (by rw [tabI_len]; exact ha) (a:Int)
 rw [tabI_upd] at R2
 have b2:Below w.heap.size w (w1.setCell (valAt cv a) (.int .i64 (a:Int))):=b01.setCell (Nat.le_trans b0.size kA) _
 generalize valAt cv a=ca at *
 generalize (tabI G.length fun _=>-1).getD a 0=oa at cA
 obtain ⟨W2,hW2⟩:∃ W2:World,W2=w1.setCell ca (.int .i64 (a:Int)):=⟨_,rfl⟩
 rw [← hW2] at R2 b2
 replace R2:=Hd R2
 replace R1:=Hd R1
 replace hcv:=Hd hcv
 go_upto_region 3 with fail
 rw [← hW2]
 clear hW2 iA cA fA
 have hB2:=b2.size
 have hal2:=belowAlloc W2 (.cells #[.int .i64 (a:Int)] 3)
 have hq2:=OwnI.lit W2.heap.size W2 (Nat.le_refl _) [(a:Int)] (by simp [maxLen]) #[.int .i64 (a:Int)] rfl 1 rfl
 have R3:=R2.out.add (i:=(2,0)) (r':=rowI (.slice (some ⟨W2.heap.size,0,none⟩) 1 1) [(a:Int)]) hal2 (hq2.mono hB2) (fun k hk=>(hq2.lt k hk).1)
 have b3:=b2.trans (hal2.mono hB2)
 obtain ⟨W3,hW3⟩:∃ W3:World,W3=W2.alloc (.cells #[.int .i64 (a:Int)] 3):=⟨_,rfl⟩
 rw [← hW3] at R3 b3
 obtain ⟨q2,hq2e⟩:∃ q2,q2=W2.heap.size:=⟨_,rfl⟩
 rw [← hq2e] at R3
 have hF0:FN (upd (upd (upd (fun _=>none) (1,0) (some (rowI cv (tabI G.length fun _=>-1)))) (1,0) (some (rowI cv (tabI G.length (updN (fun _=>(-1:Int)) a (a:Int)))))) (2,0) (some (rowI (.slice (some ⟨q2,0,none⟩) 1 1) [(a:Int)]))) cv (.slice (some ⟨q2,0,none⟩) 1 1) G.length (updN (fun _=>(-1:Int)) a (a:Int)) [a] :=
  ⟨by rw [upd_ne _ _ (by simp),upd_same],by rw [upd_same]; rfl⟩
 replace R3:=Hd R3
 replace hq2:=Hd hq2
 go_wp2_with fail
 rw [← hW3,← hq2e]
 clear hW3 hq2e R2 R1 hal2 hq2
 go_loopw [8,9] (fun qv iv wr=>∃ (i:Nat) (came:Nat→Int) (q:List Nat) (par dist:Nat→Nat) (f':Names) (qw:Value),qw=qv∧iv=.int .i64 i∧i≤q.length∧Rows w.heap.size wr f'∧Below w.heap.size w wr∧FN f' cv qw G.length came q∧BOut (adjOf G) a came q par dist i∧∀ x∈q,x<G.length) (fun _ iv _=>G.length+1-(intOf iv).toNat)
 case atStart=>exact ⟨0,_,[a],_,_,_,_,rfl,rfl,by omega,R3.out,b3,hF0,hinit.out,fun x hx=>by cases List.mem_singleton.1 hx; exact ha⟩
 case round =>
  obtain ⟨i,came,q,par,dist,f1,qv,rfl,rfl,hi,hr1,b1',h1,hO,hqn⟩:=hrel
  obtain ⟨wo,rfl⟩:∃ wo:World,wo=wr:=⟨_,rfl⟩
  have hql:=nodup_len G.length q hO.nodup hqn
  have hOQ:=hr1.ownI h1.queue
  have lQ:=hOQ.at.len
  rw [castI_len] at lQ
  have hOC:=hr1.ownI h1.came
  have iB:=fun w'=>hOC.at.idx b (by rw [tabI_len]; exact hb) w'
  have cB:=hOC.at.cellD b (by rw [tabI_len]; exact hb)
  rw [tabI_get _ _ _ hb] at cB
  generalize valAt cv b=pb at *
  obtain ⟨cb,hcb⟩:∃ cb,came b=cb:=⟨_,rfl⟩
  rw [hcb] at cB
  by_cases hil:i<q.length
  ·by_cases hneg:cb<0
   ·obtain ⟨v,hv⟩:∃ v,q[i]?=some v:=⟨_,List.getElem?_eq_getElem hil⟩
    have hvn:=hqn v (List.mem_of_getElem? hv)
    have iV:=fun w'=>hOQ.at.idx i (by rw [castI_len]; exact hil) w'
    have cV:=hOQ.at.cellD i (by rw [castI_len]; exact hil)
    rw [castI_get hv] at cV
    obtain ⟨mv,iR,cR,hM⟩:=(h.out.below (b1':Below w.heap.size w wo)).row v hvn
    have hgx:=hsz.out v hvn
    have hgp:∀ x∈G.getD v [],0≤x∧x<G.length:=hok.out v hvn
    have hadj:adjOf G v=(G.getD v []).map Int.toNat:=rfl
    generalize G.getD v []=gx at *
    obtain ⟨ma,mn,mc,rfl⟩:=hM.shape
    generalize valAt qv i=qa at *
    generalize valAt (.slice na G.length nc) v=ra at *
    replace hcb:=Hd hcb
    replace hr1:=Hd hr1
    replace hOQ:=Hd hOQ
    replace hOC:=Hd hOC
    replace hM:=Hd hM
    replace hO:=Hd hO
    replace hqn:=Hd hqn
    replace hgp:=Hd hgp
    replace hadj:=Hd hadj
    replace hv:=Hd hv
    go_wp2_with fail
    refine (vals_any ma mn mc _).mono ?_
    rintro e w2 ⟨rfl,rfl⟩
    have hbv:=belowAlloc wo (.cells #[.slice ma mn mc] 22)
    clear iB cB iV cV iR cR
    go_wp2_with fail
    refine (sorted_any wo.heap.size (.slice ma mn mc) gx hgx _ (by simp) (by simp) (hM.out.below hbv)).mono ?_
    rintro e w3 ⟨lv,rfl,b3',hL⟩
    have b4:Below wo.heap.size wo w3:=hbv.trans (b3'.mono hbv.size)
    have hBo:w.heap.size≤wo.heap.size:=b1'.size
    have R4:=hr1.out.add (i:=(3,0)) (r':=rowI lv (srt gx)) b4 (hL.mono (Nat.le_trans hBo hbv.size)) (fun k hk=>Nat.le_trans hbv.size (hL.lt k hk).1)
    have h4:FN (upd f1 (3,0) (some (rowI lv (srt gx)))) cv qv G.length came q:=h1.congr (upd_ne _ _ (by simp)) (upd_ne _ _ (by simp))
    have e4:upd f1 (3,0) (some (rowI lv (srt gx))) (3,0)=some (rowI lv (srt gx)):=upd_same _ _ _
    have b5:=b1'.trans (b4.mono hBo)
    have hIn:=hO.out.enter hv.out (l:=(srtN gx).drop 0) (fun t=>by rw [List.drop_zero,hadj.out]; exact srtN_mem gx t) (by rw [List.drop_zero]; exact srtN_sorted gx fun x hx=>(hgp.out x hx).1)
    have lL:=hL.at.len
    have hsl:(srt gx).length=gx.length:=srt_length gx
    generalize upd f1 (3,0) (some (rowI lv (srt gx)))=f4 at *
    replace R4:=Hd R4
    replace hIn:=Hd hIn
    replace hL:=Hd hL
    replace e4:=Hd e4
    go_wp2_with fail
    clear lL lQ
    go_loopw [8,49] (fun qv jv wr=>∃ (j:Nat) (came:Nat→Int) (q:List Nat) (par dist:Nat→Nat) (f':Names) (qw:Value),qw=qv∧jv=.int .i64 j∧j≤gx.length∧Rows w.heap.size wr f'∧Below w.heap.size w wr∧FN f' cv qw G.length came q∧f' (3,0)=some (rowI lv (srt gx))∧BIn (adjOf G) a came q par dist i v ((srtN gx).drop j)∧∀ x∈q,x<G.length) (fun _ jv _=>gx.length-(intOf jv).toNat)
    case atStart=>exact ⟨0,came,q,par,dist,f4,qv,rfl,rfl,by omega,R4.out,b5,h4,e4.out,hIn.out,hqn.out⟩
    case round =>
     clear hIn R4 e4 h4 b5 h1 hi hil hO hqn hv hOQ hOC hneg hcb
     obtain ⟨j,came,q,par,dist,f4,qv,rfl,rfl,hj,hr4,b5,h4,e4,hIn,hqn⟩:=hrel
     obtain ⟨wo,rfl⟩:∃ wo:World,wo=wr:=⟨_,rfl⟩
     have hOL:=hr4.ownI e4
     have lL:=hOL.at.len
     rw [hsl] at lL
     by_cases hjl:j<gx.length
     ·have hjs:j<(srtN gx).length:=by rw [srtN_len]; exact hjl
      obtain ⟨t,ht⟩:∃ t,(srtN gx)[j]?=some t:=⟨_,List.getElem?_eq_getElem hjs⟩
      have htd:(srtN gx).getD j 0=t:=by simp [List.getD,ht]
      have hdr:(srtN gx).drop j=t::(srtN gx).drop (j+1):=by
       rw [List.drop_eq_getElem_cons hjs]
       rw [List.getElem?_eq_getElem hjs] at ht
       injection ht with ht
       rw [ht]
      have htn:t<G.length:=by
       have hm:=(srtN_mem gx t).1 (List.mem_of_getElem? ht)
       obtain ⟨x,hx,rfl⟩:=List.mem_map.1 hm
       have:=hgp.out x hx
       omega
      have iT:=fun w'=>hOL.at.idx j (by rw [hsl]; exact hjl) w'
      have cT:=hOL.at.cellD j (by rw [hsl]; exact hjl)
      rw [srtN_get gx (fun x hx=>(hgp.out x hx).1) j hjl,htd] at cT
      rw [hdr] at hIn
      have hOC:=hr4.ownI h4.came
      have iC:=fun w'=>hOC.at.idx t (by rw [tabI_len]; exact htn) w'
      have cC:=hOC.at.cellD t (by rw [tabI_len]; exact htn)
      rw [tabI_get _ _ _ htn] at cC
      have fC:=hOC.frz t (by rw [tabI_len]; exact htn)
      have kC:=(hOC.toV.blkB t (by rw [List.length_map,tabI_len]; exact htn)).2
      obtain ⟨f5,hr5,h5,k5⟩:=h4.set hr4 t htn (v:Int)
      have e5:f5 (3,0)=some (rowI lv (srt gx)):=(k5 _ (by simp)).trans e4
      have b6:Below w.heap.size w (wo.setCell (valAt cv t) (.int .i64 (v:Int))):=b5.setCell kC _
      generalize valAt lv j=la at *
      generalize valAt cv t=ta at *
      obtain ⟨ct,hct⟩:∃ ct,came t=ct:=⟨_,rfl⟩
      rw [hct] at cC
      by_cases htc:ct<0
      ·have hadd:=hIn.add (by rw [hct]; exact htc)
       have hqn2:∀ x∈q++[t],x<G.length:=fun x hx=>by
        rcases List.mem_append.1 hx with hx | hx
        ·exact hqn x hx
        ·cases List.mem_singleton.1 hx; exact htn
       have hql2:=nodup_len G.length q hIn.base.nodup hqn
       replace hadd:=Hd hadd
       replace hqn2:=Hd hqn2
       replace hIn:=Hd hIn
       replace hqn:=Hd hqn
       replace hr4:=Hd hr4
       replace hr5:=Hd hr5
       replace hOC:=Hd hOC
       replace hOL:=Hd hOL
       replace hct:=Hd hct
       replace hdr:=Hd hdr
       replace htd:=Hd htd
       replace ht:=Hd ht
       replace k5:=Hd k5
       replace e4:=Hd e4
       replace e5:=Hd e5
       go_upto_region 13 with fail
       obtain ⟨W5,hW5⟩:∃ W5:World,W5=wo.setCell ta (.int .i64 (v:Int)):=⟨_,rfl⟩
       rw [← hW5]
       rw [← hW5] at hr5 b6
       clear hW5 iT cT iC cC fC lL
       have hOQ5:=hr5.out.ownI h5.queue
       have hB5:w.heap.size≤W5.heap.size:=b6.size
       go_wp2_with (at_builtin; refine wpl_app1 rfl _ _ rfl w.heap.size qv (castI q) t hOQ5 rfl rfl (by rw [castI_len]; omega) hB5 ?_)
       intro qv' w7 ho7 b7 hal7
       obtain ⟨f7,hr7,h7,k7⟩:=h5.push hr5.out t ho7 hal7
       replace hr7:=Hd hr7
       replace ho7:=Hd ho7
       replace k7:=Hd k7
       clear hal7
       go_wp2
       go_roundw
       case measure=>simp [intOf]; omega
       case rel=>exact ⟨j+1,_,_,_,_,f7,qv',rfl,by go_num,by omega,hr7.out,b6.trans b7,h7,(k7.out _ (by simp)).trans e5.out,hadd.out,hqn2.out⟩
      ·have hold:=hIn.old (by rw [hct]; omega)
       replace hold:=Hd hold
       replace hIn:=Hd hIn
       replace hqn:=Hd hqn
       replace hr4:=Hd hr4
       replace hr5:=Hd hr5
       replace hOC:=Hd hOC
       replace hOL:=Hd hOL
       replace hct:=Hd hct
       replace hdr:=Hd hdr
       replace htd:=Hd htd
       replace ht:=Hd ht
       replace k5:=Hd k5
       replace e4:=Hd e4
       replace e5:=Hd e5
       go_wp2
       go_roundw
       case measure=>simp [intOf]; omega
       case rel=>exact ⟨j+1,came,q,par,dist,f4,qv,rfl,by go_num,by omega,hr4.out,b5,h4,e4.out,hold.out,hqn.out⟩
     ·obtain rfl:j=gx.length:=by omega
      rw [List.drop_eq_nil_of_le (by rw [srtN_len]; exact Nat.le_refl _)] at hIn
      have hOut:=hIn.leave
      have hil:=get_of hIn.cur
      have hql2:=nodup_len G.length q hIn.base.nodup hqn
      replace hOut:=Hd hOut
      replace hIn:=Hd hIn
      replace hqn:=Hd hqn
      replace hr4:=Hd hr4
      replace hOL:=Hd hOL
      replace e4:=Hd e4
      go_wp2
      go_roundw
      case measure=>simp [intOf]; omega
      case rel=>exact ⟨i+1,came,q,par,dist,f4,qv,rfl,by go_num,by omega,hr4.out,b5,h4,hOut.out,hqn.out⟩
   ·have hcb0:¬ came b<0:=by rw [hcb]; exact hneg
    have hbq:=(hO.cameIff b).1 (by omega)
    obtain ⟨k0,hk0⟩:=List.mem_iff_getElem?.1 hbq
    have hlit:=OwnI.lit wo.heap.size wo (Nat.le_refl _) [(b:Int)] (by simp [maxLen]) #[.int .i64 (b:Int)] rfl 1 rfl
    have halw:=belowAlloc wo (.cells #[.int .i64 (b:Int)] 3)
    have hBo:w.heap.size≤wo.heap.size:=b1'.size
    have R8:=hr1.add (i:=(4,0)) (r':=rowI (.slice (some ⟨wo.heap.size,0,none⟩) 1 1) (castI [b].reverse)) halw (hlit.mono hBo) (fun k hk=>(hlit.lt k hk).1)
    have b8:=b1'.trans (halw.mono hBo)
    have hcame8:(upd f1 (4,0) (some (rowI (.slice (some ⟨wo.heap.size,0,none⟩) 1 1) (castI [b].reverse)))) (1,0)=some (rowI cv (tabI G.length came)):=(upd_ne _ _ (by simp)).trans h1.came
    have hway8:=upd_same f1 (4,0) (some (rowI (.slice (some ⟨wo.heap.size,0,none⟩) 1 1) (castI [b].reverse)))
    generalize upd f1 (4,0) (some (rowI (.slice (some ⟨wo.heap.size,0,none⟩) 1 1) (castI [b].reverse)))=f8 at *
    obtain ⟨W8,hW8⟩:∃ W8:World,W8=wo.alloc (.cells #[.int .i64 (b:Int)] 3):=⟨_,rfl⟩
    obtain ⟨s8,hs8⟩:∃ s8,s8=wo.heap.size:=⟨_,rfl⟩
    rw [← hW8] at R8 b8
    rw [← hs8] at hway8
    have htree:Tree came q (adjOf G) b b [b]:=.one b hbq
    replace hcb:=Hd hcb
    replace hr1:=Hd hr1
    replace hOQ:=Hd hOQ
    replace hOC:=Hd hOC
    replace hO:=Hd hO
    replace hqn:=Hd hqn
    replace hlit:=Hd hlit
    replace R8:=Hd R8
    replace hk0:=Hd hk0
    replace hcame8:=Hd hcame8
    replace hway8:=Hd hway8
    replace htree:=Hd htree
    clear halw
    go_wp2_with fail
    rw [← hW8,← hs8]
    clear hW8 hs8 iB cB lQ
    go_loopg [13,14] k0 (fun k wv vv wr=>∃ (x:Nat) (u:List Nat) (f':Names) (ww:Value),ww=wv∧vv=.int .i64 x∧q[k]?=some x∧Tree came q (adjOf G) x b u∧Rows w.heap.size wr f'∧Below w.heap.size w wr∧f' (1,0)=some (rowI cv (tabI G.length came))∧f' (4,0)=some (rowI ww (castI u.reverse))∧u.length≤G.length+1-k)
    case atStart=>exact ⟨b,[b],f8,_,rfl,rfl,hk0.out,htree.out,R8.out,b8,hcame8.out,hway8.out,by have:=get_of hk0.out; simp only [List.length_cons,List.length_nil]; omega⟩
    case round =>
     clear R8 b8 hcame8 hway8 htree hk0
     obtain ⟨x,u,f9,wv,rfl,rfl,hk,hT,hr9,b9,hc9,hw9,hul⟩:=hrel
     obtain ⟨wo,rfl⟩:∃ wo:World,wo=wr:=⟨_,rfl⟩
     obtain ⟨k,rfl⟩:∃ k:Nat,k=gk:=⟨_,rfl⟩
     have hxn:=hqn.out x (List.mem_of_getElem? hk)
     have hkl:=get_of hk
     by_cases hxa:x=a
     ·subst hxa
      have hfirst:=hO.out.first hT
      have hOW:=hr9.ownI hw9
      have hrev:=reverse_own w.heap.size wv (castI u.reverse) wo hOW (by rw [castI_len,List.length_reverse]; omega)
      have hrr:(castI u.reverse).reverse=castI u:=by rw [castI_reverse,List.reverse_reverse]
      rw [hrr] at hrev
      replace hrev:=Hd hrev
      replace hfirst:=Hd hfirst
      replace hT:=Hd hT
      replace hr9:=Hd hr9
      replace hOW:=Hd hOW
      replace hc9:=Hd hc9
      replace hw9:=Hd hw9
      replace hk:=Hd hk
      replace hrr:=Hd hrr
      go_wp2_with fail
      refine hrev.out.mono ?_
      rintro e w10 ⟨rfl,ho10,b10⟩
      replace ho10:=Hd ho10
      go_wp2
      go_ret
      exact ⟨_,rfl,b9.trans b10,.inl ⟨u,hfirst.out,ho10.out⟩⟩
     ·have hk1:0<k:=by
       by_cases e:0<k
       ·exact e
       ·obtain rfl:k=0:=by omega
        have:=hO.out.hd
        rw [hk] at this
        injection this with this
        exact absurd this hxa
      obtain ⟨p1,p2,p,p3,p4,p5,p6⟩:=hO.out.parLt k x hk1 hk
      have hT2:=Tree.cons _ _ p3 hk hk1 p4 hT
      have hpn:=hqn.out p (List.mem_of_getElem? p3)
      have hne:((x:Int) != (a:Int))=true:=by rw [bne_iff_ne]; omega
      have hOC9:=hr9.ownI hc9
      have iX:=fun w'=>hOC9.at.idx x (by rw [tabI_len]; exact hxn) w'
      have cX:=hOC9.at.cellD x (by rw [tabI_len]; exact hxn)
      rw [tabI_get _ _ _ hxn,p4] at cX
      have hOW:=hr9.ownI hw9
      have hB9:w.heap.size≤wo.heap.size:=b9.size
      have hlu:(castI u.reverse).length<4398046511104:=by rw [castI_len,List.length_reverse]; omega
      have hgrow:=fun (w':World) (wv':Value) (ho:OwnI w.heap.size w' wv' (castI u.reverse++[(p:Int)])) (hal:(roomOf wv'=roomOf wv∧wo.grownBy w' wv.ownBlock)∨(∃ k,wv'.ownBlock=some k∧wo.heap.size≤k∧wo.grownBy w' none))=>show ∃ f',Rows w.heap.size w' f'∧f' (1,0)=some (rowI cv (tabI G.length came))∧f' (4,0)=some (rowI wv' (castI (p::u).reverse)) from by
       have hg:wo.grownBy w' wv.ownBlock:=grown_via (hal.imp (·.2) (fun ⟨_,_,_,q⟩=>q))
       have hob:wv'.ownBlock=wv.ownBlock∨∃ k,wv'.ownBlock=some k∧wo.heap.size≤k:=by
        rcases hal with ⟨q,_⟩ | ⟨k,h1,h2,_⟩
        ·obtain ⟨a1,n1,c1,e1⟩:=hOW.at.shape
         obtain ⟨a2,n2,c2,e2⟩:=ho.at.shape
         exact .inl (ownBlock_of_room e1 e2 q)
        ·exact .inr ⟨k,h1,h2⟩
       exact ⟨_,hr9.grown (r':=rowI wv' (castI u.reverse++[(p:Int)])) hw9 hg ho hob,by rw [upd_ne _ _ (by simp)]; exact hc9,by rw [upd_same,List.reverse_cons,castI_snoc]⟩
      generalize valAt cv x=xa at *
      replace hgrow:=Hd hgrow
      replace hT:=Hd hT
      replace hT2:=Hd hT2
      replace hr9:=Hd hr9
      replace hOC9:=Hd hOC9
      replace hc9:=Hd hc9
      replace hw9:=Hd hw9
      replace hk:=Hd hk
      replace p3:=Hd p3
      replace p4:=Hd p4
      replace p6:=Hd p6
      go_wp2_with (at_builtin; refine wpl_app1 rfl _ _ rfl w.heap.size wv (castI u.reverse) p hOW rfl rfl hlu hB9 ?_)
      intro wv' w11 ho11 b11 hal11
      obtain ⟨f11,hr11,hc11,hw11⟩:=hgrow.out w11 wv' ho11 hal11
      replace ho11:=Hd ho11
      replace hr11:=Hd hr11
      replace hc11:=Hd hc11
      replace hw11:=Hd hw11
      clear hal11
      go_wp2
      go_roundg (par k)
      case measure=>exact p2
      case rel=>exact ⟨p,p::u,f11,wv',rfl,rfl,p3.out,hT2.out,hr11.out,b9.trans b11,hc11.out,hw11.out,by simp only [List.length_cons]; omega⟩
  ·by_cases hneg:cb<0
   ·have hnone:=hO.none (by omega) (by rw [hcb]; exact hneg)
    replace hnone:=Hd hnone
    replace hcb:=Hd hcb
    replace hr1:=Hd hr1
    replace hOQ:=Hd hOQ
    replace hOC:=Hd hOC
    replace hO:=Hd hO
    replace hqn:=Hd hqn
    go_wp2
    go_ret
    exact ⟨_,rfl,b1',.inr ⟨hnone.out,rfl⟩⟩
   ·have hcb0:¬ came b<0:=by rw [hcb]; exact hneg
    have hbq:=(hO.cameIff b).1 (by omega)
    obtain ⟨k0,hk0⟩:=List.mem_iff_getElem?.1 hbq
    have hlit:=OwnI.lit wo.heap.size wo (Nat.le_refl _) [(b:Int)] (by simp [maxLen]) #[.int .i64 (b:Int)] rfl 1 rfl
    have halw:=belowAlloc wo (.cells #[.int .i64 (b:Int)] 3)
    have hBo:w.heap.size≤wo.heap.size:=b1'.size
    have R8:=hr1.add (i:=(4,0)) (r':=rowI (.slice (some ⟨wo.heap.size,0,none⟩) 1 1) (castI [b].reverse)) halw (hlit.mono hBo) (fun k hk=>(hlit.lt k hk).1)
    have b8:=b1'.trans (halw.mono hBo)
    have hcame8:(upd f1 (4,0) (some (rowI (.slice (some ⟨wo.heap.size,0,none⟩) 1 1) (castI [b].reverse)))) (1,0)=some (rowI cv (tabI G.length came)):=(upd_ne _ _ (by simp)).trans h1.came
    have hway8:=upd_same f1 (4,0) (some (rowI (.slice (some ⟨wo.heap.size,0,none⟩) 1 1) (castI [b].reverse)))
    generalize upd f1 (4,0) (some (rowI (.slice (some ⟨wo.heap.size,0,none⟩) 1 1) (castI [b].reverse)))=f8 at *
    obtain ⟨W8,hW8⟩:∃ W8:World,W8=wo.alloc (.cells #[.int .i64 (b:Int)] 3):=⟨_,rfl⟩
    obtain ⟨s8,hs8⟩:∃ s8,s8=wo.heap.size:=⟨_,rfl⟩
    rw [← hW8] at R8 b8
    rw [← hs8] at hway8
    have htree:Tree came q (adjOf G) b b [b]:=.one b hbq
    replace hcb:=Hd hcb
    replace hr1:=Hd hr1
    replace hOQ:=Hd hOQ
    replace hOC:=Hd hOC
    replace hO:=Hd hO
    replace hqn:=Hd hqn
    replace hlit:=Hd hlit
    replace R8:=Hd R8
    replace hk0:=Hd hk0
    replace hcame8:=Hd hcame8
    replace hway8:=Hd hway8
    replace htree:=Hd htree
    clear halw
    go_wp2_with fail
    rw [← hW8,← hs8]
    clear hW8 hs8 iB cB lQ
    go_loopg [13,14] k0 (fun k wv vv wr=>∃ (x:Nat) (u:List Nat) (f':Names) (ww:Value),ww=wv∧vv=.int .i64 x∧q[k]?=some x∧Tree came q (adjOf G) x b u∧Rows w.heap.size wr f'∧Below w.heap.size w wr∧f' (1,0)=some (rowI cv (tabI G.length came))∧f' (4,0)=some (rowI ww (castI u.reverse))∧u.length≤G.length+1-k)
    case atStart=>exact ⟨b,[b],f8,_,rfl,rfl,hk0.out,htree.out,R8.out,b8,hcame8.out,hway8.out,by have:=get_of hk0.out; simp only [List.length_cons,List.length_nil]; omega⟩
    case round =>
     clear R8 b8 hcame8 hway8 htree hk0
     obtain ⟨x,u,f9,wv,rfl,rfl,hk,hT,hr9,b9,hc9,hw9,hul⟩:=hrel
     obtain ⟨wo,rfl⟩:∃ wo:World,wo=wr:=⟨_,rfl⟩
     obtain ⟨k,rfl⟩:∃ k:Nat,k=gk:=⟨_,rfl⟩
     have hxn:=hqn.out x (List.mem_of_getElem? hk)
     have hkl:=get_of hk
     by_cases hxa:x=a
     ·subst hxa
      have hfirst:=hO.out.first hT
      have hOW:=hr9.ownI hw9
      have hrev:=reverse_own w.heap.size wv (castI u.reverse) wo hOW (by rw [castI_len,List.length_reverse]; omega)
      have hrr:(castI u.reverse).reverse=castI u:=by rw [castI_reverse,List.reverse_reverse]
      rw [hrr] at hrev
      replace hrev:=Hd hrev
      replace hfirst:=Hd hfirst
      replace hT:=Hd hT
      replace hr9:=Hd hr9
      replace hOW:=Hd hOW
      replace hc9:=Hd hc9
      replace hw9:=Hd hw9
      replace hk:=Hd hk
      replace hrr:=Hd hrr
      go_wp2_with fail
      refine hrev.out.mono ?_
      rintro e w10 ⟨rfl,ho10,b10⟩
      replace ho10:=Hd ho10
      go_wp2
      go_ret
      exact ⟨_,rfl,b9.trans b10,.inl ⟨u,hfirst.out,ho10.out⟩⟩
     ·have hk1:0<k:=by
       by_cases e:0<k
       ·exact e
       ·obtain rfl:k=0:=by omega
        have:=hO.out.hd
        rw [hk] at this
        injection this with this
        exact absurd this hxa
      obtain ⟨p1,p2,p,p3,p4,p5,p6⟩:=hO.out.parLt k x hk1 hk
      have hT2:=Tree.cons _ _ p3 hk hk1 p4 hT
      have hpn:=hqn.out p (List.mem_of_getElem? p3)
      have hne:((x:Int) != (a:Int))=true:=by rw [bne_iff_ne]; omega
      have hOC9:=hr9.ownI hc9
      have iX:=fun w'=>hOC9.at.idx x (by rw [tabI_len]; exact hxn) w'
      have cX:=hOC9.at.cellD x (by rw [tabI_len]; exact hxn)
      rw [tabI_get _ _ _ hxn,p4] at cX
      have hOW:=hr9.ownI hw9
      have hB9:w.heap.size≤wo.heap.size:=b9.size
      have hlu:(castI u.reverse).length<4398046511104:=by rw [castI_len,List.length_reverse]; omega
      have hgrow:=fun (w':World) (wv':Value) (ho:OwnI w.heap.size w' wv' (castI u.reverse++[(p:Int)])) (hal:(roomOf wv'=roomOf wv∧wo.grownBy w' wv.ownBlock)∨(∃ k,wv'.ownBlock=some k∧wo.heap.size≤k∧wo.grownBy w' none))=>show ∃ f',Rows w.heap.size w' f'∧f' (1,0)=some (rowI cv (tabI G.length came))∧f' (4,0)=some (rowI wv' (castI (p::u).reverse)) from by
       have hg:wo.grownBy w' wv.ownBlock:=grown_via (hal.imp (·.2) (fun ⟨_,_,_,q⟩=>q))
       have hob:wv'.ownBlock=wv.ownBlock∨∃ k,wv'.ownBlock=some k∧wo.heap.size≤k:=by
        rcases hal with ⟨q,_⟩ | ⟨k,h1,h2,_⟩
        ·obtain ⟨a1,n1,c1,e1⟩:=hOW.at.shape
         obtain ⟨a2,n2,c2,e2⟩:=ho.at.shape
         exact .inl (ownBlock_of_room e1 e2 q)
        ·exact .inr ⟨k,h1,h2⟩
       exact ⟨_,hr9.grown (r':=rowI wv' (castI u.reverse++[(p:Int)])) hw9 hg ho hob,by rw [upd_ne _ _ (by simp)]; exact hc9,by rw [upd_same,List.reverse_cons,castI_snoc]⟩
      generalize valAt cv x=xa at *
      replace hgrow:=Hd hgrow
      replace hT:=Hd hT
      replace hT2:=Hd hT2
      replace hr9:=Hd hr9
      replace hOC9:=Hd hOC9
      replace hc9:=Hd hc9
      replace hw9:=Hd hw9
      replace hk:=Hd hk
      replace p3:=Hd p3
      replace p4:=Hd p4
      replace p6:=Hd p6
      go_wp2_with (at_builtin; refine wpl_app1 rfl _ _ rfl w.heap.size wv (castI u.reverse) p hOW rfl rfl hlu hB9 ?_)
      intro wv' w11 ho11 b11 hal11
      obtain ⟨f11,hr11,hc11,hw11⟩:=hgrow.out w11 wv' ho11 hal11
      replace ho11:=Hd ho11
      replace hr11:=Hd hr11
      replace hc11:=Hd hc11
      replace hw11:=Hd hw11
      clear hal11
      go_wp2
      go_roundg (par k)
      case measure=>exact p2
      case rel=>exact ⟨p,p::u,f11,wv',rfl,rfl,p3.out,hT2.out,hr11.out,b9.trans b11,hc11.out,hw11.out,by simp only [List.length_cons]; omega⟩
end Go.Proofs.YtkaoebokbfcmhaaGreatDoor
