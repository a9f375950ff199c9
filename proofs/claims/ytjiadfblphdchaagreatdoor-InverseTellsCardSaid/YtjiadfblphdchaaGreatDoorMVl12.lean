/-
  Proved: the law edenlaw20.InverseTells as its tied card: it returns true and never panics, for any rule. No conditions beyond the card's own.
  Walks: edenref20.Rule, Radius.
  Walk: edenlaw20.InverseTells returns true.
  Opening what a call is handed: []int, api.Rule, the package-level errors.
  From a card's list of laid variables that holds the handle of the type error: the package errors and errors.errorType.
  From a card's list of laid variables that holds two tables of unicode/utf8 beside the package errors and the handle of the type error.
-/
import Derived.Test.YtjiadfblphdchaaGreatDoorMVl11
import Derived.Test.YtjiadfblphdchaaGreatDoorRows
import Derived.ProofKit
import Derived.OpenShut
import Derived.ShutString
import Derived.ChangeOld
import Derived.LaidMore
import Derived.Stop.Joined
import Derived.Stop.LaidErr
import Derived.Lib.SmallJoins
import Derived.LaidHandle
import Derived.Lay
import Derived.Test.YtjiadfblphdchaaGreatDoorCards
import Derived.Test.YtjiadfblphdchaaGreatDoorTie
import Derived.SevenTiedAt
namespace Go.Proofs.YtjiadfblphdchaaGreatDoor
open Go.RowKit
set_option maxRecDepth 100000
theorem eat_shape20 {w : World} {t : PErr} {v : Value} (h : EAt w t v) : ∃ (n : Int) (sa : Option Addr) (sn sc : Nat) (ja : Option Addr) (jn jc : Nat),v = .agg #[.int .i64 n,.slice sa sn sc,.slice ja jn jc]:=by
 cases t with
 | none => exact ⟨0,none,0,0,none,0,0,h⟩
 | some q =>
  obtain ⟨n,l⟩:=q
  obtain ⟨a1,n1,c1,a2,n2,c2,rfl,_,_⟩:=h
  exact ⟨_,_,_,_,_,_,_,rfl⟩
theorem under20_fine {k R : Int} {T : List Int} {t : Int × List (ByteArray × Int)} (hc : smallP k R T = some t) : 1 ≤ t.1 ∧ 2 + t.2.length ≤ 1000:=by
 obtain ⟨a,b⟩:=t
 have h:=smallP_num hc
 exact ⟨h.1,by have:=h.2.2; simp only; omega⟩
set_option maxHeartbeats 2000000 in
theorem ref20_bad (k R : Int) (va : Option Addr) (vn vc : Nat) (T : List Int) (t : Int × List (ByteArray × Int)) (w : World) (h : IntsAt w (.slice va vn vc) T) (hc : smallP k R T = some t) :
 Calls Tryz.prog 15 #[.agg #[.int .i64 k,.int .i64 R,.slice va vn vc]] w (Ret2 (fun x y w' => EOwn w.heap.size w' (invE k R T) y ∧ x = zR) w):=by
 have bA:=Below.step (Below.step (belowAlloc w (.cells #[.int .i64 k,.int .i64 R,.slice va vn vc] 24)) (belowAlloc _ (.cells #[.int .i64 0,.int .i64 0,.slice none 0 0] 24))) (belowAlloc _ (.cells #[.int .i64 0,.slice none 0 0,.slice none 0 0] 37))
 have qA : Box3 (((w.alloc (.cells #[.int .i64 k,.int .i64 R,.slice va vn vc] 24)).alloc (.cells #[.int .i64 0,.int .i64 0,.slice none 0 0] 24)).alloc (.cells #[.int .i64 0,.slice none 0 0,.slice none 0 0] 37)) w.heap.size (.int .i64 k) (.int .i64 R) (.slice va vn vc):=by simp [Box3,go_sem]
 have qx : Box3 (((w.alloc (.cells #[.int .i64 k,.int .i64 R,.slice va vn vc] 24)).alloc (.cells #[.int .i64 0,.int .i64 0,.slice none 0 0] 24)).alloc (.cells #[.int .i64 0,.slice none 0 0,.slice none 0 0] 37)) (w.heap.size + 1) (.int .i64 0) (.int .i64 0) (.slice none 0 0):=by simp [Box3,go_sem]
 have qy : Box3 (((w.alloc (.cells #[.int .i64 k,.int .i64 R,.slice va vn vc] 24)).alloc (.cells #[.int .i64 0,.int .i64 0,.slice none 0 0] 24)).alloc (.cells #[.int .i64 0,.slice none 0 0,.slice none 0 0] 37)) (w.heap.size + 1 + 1) (.int .i64 0) (.slice none 0 0) (.slice none 0 0):=by simp [Box3,go_sem]
 have s0 : (((w.alloc (.cells #[.int .i64 k,.int .i64 R,.slice va vn vc] 24)).alloc (.cells #[.int .i64 0,.int .i64 0,.slice none 0 0] 24)).alloc (.cells #[.int .i64 0,.slice none 0 0,.slice none 0 0] 37)).heap.size = w.heap.size + 3:=by simp
 obtain ⟨WA,hWA⟩ : ∃ W : World,(((w.alloc (.cells #[.int .i64 k,.int .i64 R,.slice va vn vc] 24)).alloc (.cells #[.int .i64 0,.int .i64 0,.slice none 0 0] 24)).alloc (.cells #[.int .i64 0,.slice none 0 0,.slice none 0 0] 37)) = W:=⟨_,rfl⟩
 replace h:=h.below bA
 rw [hWA] at h bA qA qx qy s0
 have hfine:=under20_fine hc
 have hE : pgE k R T = some (t.1,(sPairs,0) :: t.2):=by unfold pgE; rw [hc]; rfl
 have hI : invE k R T = under sInverse 0 (some (t.1,(sInject,0) :: (sPairs,0) :: t.2)):=invE_bad hc
 rw [hI]
 replace h:=Lib.hid h
 replace s0:=Lib.hid s0
 replace hWA:=Lib.hid hWA
 replace hc:=Lib.hid hc
 replace hE:=Lib.hid hE
 replace hI:=Lib.hid hI
 obtain ⟨⟨z0,z1,z2⟩,-,-,-⟩:=id qA
 go_enter Tryz.func15,Tryz.ntmps15
 go_upto_region 1 with fail
 rw [hWA.out]
 go_wp2_with fail
 refine (ref14_one k R va vn vc T WA h.out).mono ?_
 rintro e w1 ⟨xv,ey,rfl,b1,ho⟩
 unfold ROne at ho
 rw [hE.out] at ho
 obtain ⟨rfl,he⟩:=ho
 have he':=he.at
 obtain ⟨n1,a1,m1,c1,a2,m2,c2,rfl⟩:=eat_shape20 he'
 obtain ⟨be,q6⟩:=err_box8 w1 (.int .i64 n1) (.slice a1 m1 c1) (.slice a2 m2 c2)
 have c1e:=Below.step b1 be
 have hn1 : n1 = t.1:=by
  obtain ⟨_,_,_,_,_,_,e,_⟩:=he'
  injection e with e
  simp only [Array.mk.injEq,List.cons.injEq,Value.int.injEq,Value.slice.injEq,true_and,and_true] at e
  exact e.1
 have hn0 : (n1 != 0) = true:=by rw [bne_iff_ne]; omega
 have heb:=he.below be
 obtain ⟨W2,hW2⟩ : ∃ W2 : World,w1.alloc (.cells #[.int .i64 n1,.slice a1 m1 c1,.slice a2 m2 c2] 37) = W2:=⟨_,rfl⟩
 rw [hW2] at be c1e heb q6
 replace hW2:=Lib.hid hW2
 replace he:=Lib.hid he
 replace he':=Lib.hid he'
 replace heb:=Lib.hid heb
 replace hn1:=Lib.hid hn1
 clear z0 z1 z2
 obtain ⟨⟨y0,y1,y2⟩,-,-,-⟩:=id q6
 go_upto_region 2 with fail
 rw [hW2.out]
 go_wp2_with fail
 refine (err_bad _ _ _ _ _ _ _ W2).mono ?_
 rintro e w3 ⟨_,rfl,b3,rfl⟩
 rw [hn0]
 have hey:=heb.out.below b3
 have c3:=Below.step c1e b3
 clear y0 y1 y2
 obtain ⟨⟨y0,y1,y2⟩,-,-,-⟩:=q6.below b3
 replace hey:=Lib.hid hey
 go_wp2_with fail
 refine (raw_under sInverse 0 (under sInject 0 (some (t.1,(sPairs,0) :: t.2))) _ w3 hey.out.at (fun n' l' e => by cases e; exact ⟨hfine.1,by simp,by have:=hfine.2; simp only [List.length_cons]; omega⟩)).mono ?_
 rintro e w4 ⟨z,rfl,b4,hz⟩
 have c4:=Below.step c3 b4
 obtain ⟨d0,d1,m1',k1,d2,m2',k2,rfl⟩:=eat_shape20 hz.at
 obtain ⟨⟨x0,x1,x2⟩,fx0,fx1,fx2⟩:=qx.below c4
 obtain ⟨⟨g0,g1,g2⟩,f0,f1,f2⟩:=qy.below c4
 have sW:=c3.size
 rw [s0.out] at sW
 have hz9:=(hz.set3 (b:=w.heap.size + 1 + 1) (by omega) (.int .i64 d0) (.slice d1 m1' k1) (.slice d2 m2' k2)).mono (B':=w.heap.size) (by omega)
 replace hz:=Lib.hid hz
 replace hz9:=Lib.hid hz9
 clear y0 y1 y2
 go_wp2
 (try simp only [Exit.inBlock,Exit.then])
 rw [setCell_self3 x0 x1 x2]
 exact bodyPost_ret (v:=.tuple #[zR,.agg #[.int .i64 d0,.slice d1 m1' k1,.slice d2 m2' k2]]) (by simp [results,Tryz.results15,go_sem,x0,x1,x2,g0,g1,g2]) rfl ⟨_,_,rfl,below_set3 (Below.step bA c4) (by omega) _ _ _,hz9.out,rfl⟩
theorem pgA_none20 {K R : Nat} {T xs : List Int} (hr : RuleOk K R T) (hsm : smallP K R T = none) (h : pgA K R T xs) : xs = [] ↔ ¬ NotOne K R T:=by
 unfold pgA at h
 rw [hsm] at h
 obtain ⟨L,h1,rfl⟩:=h
 have h2:=odd_none hr h1
 unfold oddL at h2
 rw [← h2]
 simp [castI]
set_option maxHeartbeats 4000000 in
theorem ref20_ok (K R : Nat) (va : Option Addr) (vn vc : Nat) (T : List Int) (w : World) (h : IntsAt w (.slice va vn vc) T) (hr : RuleOk K R T) (hl : T.length ≤ 256) :
 Calls Tryz.prog 15 #[.agg #[.int .i64 K,.int .i64 R,.slice va vn vc]] w (Ret2 (fun x y w' => EOwn w.heap.size w' (invE K R T) y ∧ InvIs w.heap.size w' K R T x) w):=by
 have bA:=Below.step (Below.step (belowAlloc w (.cells #[.int .i64 K,.int .i64 R,.slice va vn vc] 24)) (belowAlloc _ (.cells #[.int .i64 0,.int .i64 0,.slice none 0 0] 24))) (belowAlloc _ (.cells #[.int .i64 0,.slice none 0 0,.slice none 0 0] 37))
 have qA : Box3 (((w.alloc (.cells #[.int .i64 K,.int .i64 R,.slice va vn vc] 24)).alloc (.cells #[.int .i64 0,.int .i64 0,.slice none 0 0] 24)).alloc (.cells #[.int .i64 0,.slice none 0 0,.slice none 0 0] 37)) w.heap.size (.int .i64 K) (.int .i64 R) (.slice va vn vc):=by simp [Box3,go_sem]
 have qx : Box3 (((w.alloc (.cells #[.int .i64 K,.int .i64 R,.slice va vn vc] 24)).alloc (.cells #[.int .i64 0,.int .i64 0,.slice none 0 0] 24)).alloc (.cells #[.int .i64 0,.slice none 0 0,.slice none 0 0] 37)) (w.heap.size + 1) (.int .i64 0) (.int .i64 0) (.slice none 0 0):=by simp [Box3,go_sem]
 have qy : Box3 (((w.alloc (.cells #[.int .i64 K,.int .i64 R,.slice va vn vc] 24)).alloc (.cells #[.int .i64 0,.int .i64 0,.slice none 0 0] 24)).alloc (.cells #[.int .i64 0,.slice none 0 0,.slice none 0 0] 37)) (w.heap.size + 1 + 1) (.int .i64 0) (.slice none 0 0) (.slice none 0 0):=by simp [Box3,go_sem]
 have s0 : (((w.alloc (.cells #[.int .i64 K,.int .i64 R,.slice va vn vc] 24)).alloc (.cells #[.int .i64 0,.int .i64 0,.slice none 0 0] 24)).alloc (.cells #[.int .i64 0,.slice none 0 0,.slice none 0 0] 37)).heap.size = w.heap.size + 3:=by simp
 obtain ⟨WA,hWA⟩ : ∃ W : World,(((w.alloc (.cells #[.int .i64 K,.int .i64 R,.slice va vn vc] 24)).alloc (.cells #[.int .i64 0,.int .i64 0,.slice none 0 0] 24)).alloc (.cells #[.int .i64 0,.slice none 0 0,.slice none 0 0] 37)) = W:=⟨_,rfl⟩
 replace h:=h.below bA
 rw [hWA] at h bA qA qx qy s0
 obtain ⟨i1,i2,i3⟩:=invE_ok hr hl
 have hsm : smallP K R T = none:=by rw [smallP_ok hr,if_neg (by omega)]
 have hE : pgE K R T = none:=by unfold pgE; rw [hsm]
 have hAn:=fun xs (hx : pgA K R T xs) => pgA_none20 hr hsm hx
 have s0':=s0
 replace h:=Lib.hid h
 replace s0:=Lib.hid s0
 replace hWA:=Lib.hid hWA
 replace hE:=Lib.hid hE
 replace hr:=Lib.hid hr
 replace hsm:=Lib.hid hsm
 replace hAn:=Lib.hid hAn
 replace i1:=Lib.hid i1
 replace i2:=Lib.hid i2
 replace i3:=Lib.hid i3
 obtain ⟨⟨z0,z1,z2⟩,-,-,-⟩:=id qA
 go_enter Tryz.func15,Tryz.ntmps15
 go_upto_region 1 with fail
 rw [hWA.out]
 go_wp2_with fail
 refine (ref14_one K R va vn vc T WA h.out).mono ?_
 rintro e w1 ⟨xv,ey,rfl,b1,ho⟩
 unfold ROne at ho
 rw [hE.out] at ho
 obtain ⟨rfl,xs,hxs,rfl⟩:=ho
 have hxn:=hAn.out xs hxs
 obtain ⟨Y,hY⟩ : ∃ Y,decide (xs = []) = Y:=⟨_,rfl⟩
 rw [hY]
 have hYn : Y = true ↔ ¬ NotOne K R T:=by rw [← hxn,← hY]; simp
 obtain ⟨be,q6⟩:=err_box8 w1 (.int .i64 0) (.slice none 0 0) (.slice none 0 0)
 have c1e:=Below.step b1 be
 obtain ⟨W2,hW2⟩ : ∃ W2 : World,w1.alloc (.cells #[.int .i64 0,.slice none 0 0,.slice none 0 0] 37) = W2:=⟨_,rfl⟩
 rw [hW2] at be c1e q6
 replace hW2:=Lib.hid hW2
 replace hY:=Lib.hid hY
 replace hYn:=Lib.hid hYn
 replace hxn:=Lib.hid hxn
 replace hxs:=Lib.hid hxs
 clear z0 z1 z2
 obtain ⟨⟨y0,y1,y2⟩,-,-,-⟩:=id q6
 go_upto_region 2 with fail
 rw [hW2.out]
 go_wp2_with fail
 refine (err_bad _ _ _ _ _ _ _ W2).mono ?_
 rintro e w3 ⟨_,rfl,b3,rfl⟩
 rw [show ((0 : Int) != 0) = false from rfl]
 have c3:=Below.step c1e b3
 clear y0 y1 y2
 cases Y with
 | false =>
  have hno : NotOne K R T:=Classical.byContradiction fun hc => by have:=hYn.out.2 hc; cases this
  have hI:=i1.out hno
  replace hI:=Lib.hid hI
  go_wp2_with fail
  refine (raw_new sInverse 0 9 w3).mono ?_
  rintro e w4 ⟨z,rfl,b4,hz⟩
  have c4:=Below.step c3 b4
  obtain ⟨d0,d1,m1',k1,d2,m2',k2,rfl⟩:=eat_shape20 hz.at
  obtain ⟨⟨x0,x1,x2⟩,fx0,fx1,fx2⟩:=qx.below c4
  obtain ⟨⟨g0,g1,g2⟩,f0,f1,f2⟩:=qy.below c4
  have sW:=c3.size
  rw [s0.out] at sW
  have hz9:=(hz.set3 (b:=w.heap.size + 1 + 1) (by omega) (.int .i64 d0) (.slice d1 m1' k1) (.slice d2 m2' k2)).mono (B':=w.heap.size) (by omega)
  have hiv : ∀ w',InvIs w.heap.size w' K R T zR:=fun w' => ⟨fun e => (by rw [hI.out] at e; cases e),fun _ => rfl⟩
  replace hz:=Lib.hid hz
  replace hz9:=Lib.hid hz9
  replace hiv:=Lib.hid hiv
  go_wp2
  (try simp only [Exit.inBlock,Exit.then])
  rw [setCell_self3 x0 x1 x2]
  exact bodyPost_ret (v:=.tuple #[zR,.agg #[.int .i64 d0,.slice d1 m1' k1,.slice d2 m2' k2]]) (by simp [results,Tryz.results15,go_sem,x0,x1,x2,g0,g1,g2]) rfl ⟨_,_,rfl,below_set3 (Below.step bA c4) (by omega) _ _ _,(by rw [hI.out]; exact hz9.out),hiv.out _⟩
 | true =>
  have hone : ¬ NotOne K R T:=hYn.out.1 rfl
  replace hone:=Lib.hid hone
  go_wp2_with fail
  go_loopw [6] (fun iv wr => ∃ e : Nat,e ≤ 4 ∧ iv = .int .i64 e ∧ findP K R T = findF K R T (4 - e) e ∧ Below WA.heap.size WA wr) (fun iv _ => 4 - (intOf iv).toNat)
  case atStart => exact ⟨0,by omega,rfl,rfl,c3⟩
  case round =>
   clear c3 c1e
   obtain ⟨e,he,rfl,hfp,hB⟩:=hrel
   obtain ⟨wo,rfl⟩ : ∃ wo : World,wo = wr:=⟨_,rfl⟩
   have sB:=hB.size
   rw [s0.out] at sB
   by_cases he4 : e < 4
   ·have de : decide ((e : Int) ≤ 3) = true:=decide_eq_true (by omega)
    obtain ⟨⟨z0,z1,z2⟩,-,-,-⟩:=qA.below hB
    replace hfp:=Lib.hid hfp
    go_wp2_with fail
    refine (taken_any K R e va vn vc T wo (h.out.below hB) hr.out (by omega)).mono ?_
    rintro e' w4 ⟨x,y,rfl,b4,hp⟩
    have hfs : findF K R T (4 - e) e = if (tryF K R T e).1 = true then some (e,(tryF K R T e).2) else findF K R T (4 - (e + 1)) (e + 1):=by
     rw [show 4 - e = (4 - (e + 1)) + 1 by omega,findF_succ]
    have c4:=Below.step hB b4
    clear z0 z1 z2
    rcases hp with ⟨ht,rfl,rfl⟩ | ⟨ht,rfl,a,n,c,rfl,ho⟩
    ·rw [ht,if_neg (by decide)] at hfs
     have c5:=Below.step c4 (belowAlloc w4 (.cells #[.int .i64 0,.int .i64 0,.slice none 0 0] 24))
     replace hfs:=Lib.hid hfs
     replace ht:=Lib.hid ht
     go_wp2
     go_roundw
     case measure => simp [intOf]; omega
     case rel => exact ⟨e + 1,by omega,by go_num,by rw [hfp.out,hfs.out],c5⟩
    ·rw [ht,if_pos rfl] at hfs
     have hf : findP K R T = some (e,(tryF K R T e).2):=by rw [hfp.out,hfs]
     have hI:=i3.out hone.out (by rw [hf]; simp)
     have ba:=belowAlloc w4 (.cells #[.int .i64 K,.int .i64 e,.slice a n c] 24)
     have c5:=Below.step c4 ba
     have qt : Box3 (w4.alloc (.cells #[.int .i64 K,.int .i64 e,.slice a n c] 24)) w4.heap.size (.int .i64 K) (.int .i64 e) (.slice a n c):=by simp [Box3,go_sem]
     have ho5:=ho.below ba
     obtain ⟨W5,hW5⟩ : ∃ W : World,w4.alloc (.cells #[.int .i64 K,.int .i64 e,.slice a n c] 24) = W:=⟨_,rfl⟩
     rw [hW5] at c5 qt ho5
     obtain ⟨⟨y0,y1,y2⟩,-,-,-⟩:=id qt
     obtain ⟨⟨x0,x1,x2⟩,fx0,fx1,fx2⟩:=qx.below c5
     obtain ⟨⟨g0,g1,g2⟩,f0,f1,f2⟩:=qy.below c5
     have hiv : InvIs wo.heap.size W5 K R T (.agg #[.int .i64 K,.int .i64 e,.slice a n c]):=⟨fun _ => ⟨e,_,a,n,c,by simpa using hf,rfl,ho5⟩,fun h => absurd hI h⟩
     have hiv2:=((hiv.set3 (b:=w.heap.size + 1) (by omega) (.int .i64 K) (.int .i64 e) (.slice a n c))).mono (B':=w.heap.size) (by omega)
     have qy5:=(qy.below c5).st3_far (b':=w.heap.size + 1) (by omega) (.int .i64 K) (.int .i64 e) (.slice a n c)
     have qx5:=(qx.below c5).st3 (.int .i64 K) (.int .i64 e) (.slice a n c)
     unfold st3 at qy5 qx5
     obtain ⟨⟨e0,e1,e2⟩,-,-,-⟩:=qy5
     obtain ⟨⟨j0,j1,j2⟩,-,-,-⟩:=qx5
     replace hW5:=Lib.hid hW5
     replace hfs:=Lib.hid hfs
     replace ht:=Lib.hid ht
     replace hf:=Lib.hid hf
     replace hI:=Lib.hid hI
     replace ho:=Lib.hid ho
     replace ho5:=Lib.hid ho5
     replace hiv:=Lib.hid hiv
     replace hiv2:=Lib.hid hiv2
     go_upto_region 10 with fail
     rw [hW5.out]
     go_wp2
     (try simp only [Exit.inBlock,Exit.then])
     rw [setCell_self3 e0 e1 e2]
     exact bodyPost_ret (v:=.tuple #[.agg #[.int .i64 K,.int .i64 e,.slice a n c],zErr]) (by simp [results,Tryz.results15,go_sem,j0,j1,j2,e0,e1,e2]) rfl ⟨_,_,rfl,below_set3 (Below.step bA c5) (by omega) _ _ _,(by rw [hI.out]; rfl),hiv2.out⟩
   ·obtain rfl : e = 4:=by omega
    have de : decide (((4 : Nat) : Int) ≤ 3) = false:=by decide
    have hnone : findP K R T = none:=by rw [hfp]; rfl
    have hI:=i2.out hone.out hnone
    replace hI:=Lib.hid hI
    replace hfp:=Lib.hid hfp
    replace hnone:=Lib.hid hnone
    go_wp2_with fail
    refine (raw_new sInverse 0 4 wo).mono ?_
    rintro e' w4 ⟨z,rfl,b4,hz⟩
    have c4:=Below.step hB b4
    obtain ⟨d0,d1,m1',k1,d2,m2',k2,rfl⟩:=eat_shape20 hz.at
    obtain ⟨⟨x0,x1,x2⟩,fx0,fx1,fx2⟩:=qx.below c4
    obtain ⟨⟨g0,g1,g2⟩,f0,f1,f2⟩:=qy.below c4
    have hz9:=(hz.set3 (b:=w.heap.size + 1 + 1) (by omega) (.int .i64 d0) (.slice d1 m1' k1) (.slice d2 m2' k2)).mono (B':=w.heap.size) (by omega)
    have hiv : ∀ w',InvIs w.heap.size w' K R T zR:=fun w' => ⟨fun e => (by rw [hI.out] at e; cases e),fun _ => rfl⟩
    replace hz:=Lib.hid hz
    replace hz9:=Lib.hid hz9
    replace hiv:=Lib.hid hiv
    go_wp2
    (try simp only [Exit.inBlock,Exit.then])
    rw [setCell_self3 x0 x1 x2]
    exact bodyPost_ret (v:=.tuple #[zR,.agg #[.int .i64 d0,.slice d1 m1' k1,.slice d2 m2' k2]]) (by simp [results,Tryz.results15,go_sem,x0,x1,x2,g0,g1,g2]) rfl ⟨_,_,rfl,below_set3 (Below.step bA c4) (by omega) _ _ _,(by rw [hI.out]; exact hz9.out),hiv.out _⟩
/-- edenref20.Rule, at any rule. -/
theorem ref20_rule (k R : Int) (va : Option Addr) (vn vc : Nat) (T : List Int) (w : World) (h : IntsAt w (.slice va vn vc) T) :
 Calls Tryz.prog 15 #[.agg #[.int .i64 k,.int .i64 R,.slice va vn vc]] w (Ret2 (fun x y w' => EOwn w.heap.size w' (invE k R T) y ∧ InvIs w.heap.size w' k R T x) w):=by
 cases hc : smallP k R T with
 | some t =>
  refine (ref20_bad k R va vn vc T t w h hc).mono ?_
  rintro e1 w' ⟨x,y,he,hb,hy,hx⟩
  exact ⟨x,y,he,hb,hy,fun q => (by rw [invE_bad hc] at q; cases q),fun _ => hx⟩
 | none =>
  obtain ⟨K,Q,rfl,rfl,hr,hl⟩:=smallP_of hc
  exact ref20_ok K Q va vn vc T w h hr hl
theorem InvIs.rad {B : Nat} {w : World} {k R : Int} {T : List Int} {x : Value} (h : InvIs B w k R T x) : ∃ k' a n c,x = .agg #[.int .i64 k',.int .i64 (radN k R T),.slice a n c]:=by
 unfold radN
 cases he : invE k R T with
 | none =>
  obtain ⟨d,S,a,n,c,hf,hxx,_⟩:=h.1 he
  rw [hf]
  exact ⟨_,_,_,_,hxx⟩
 | some t => exact ⟨0,none,0,0,h.2 (by rw [he]; simp)⟩
set_option maxHeartbeats 2000000 in
/-- edenref20.Radius. -/
theorem ref20_radius (k R : Int) (va : Option Addr) (vn vc : Nat) (T : List Int) (w : World) (h : IntsAt w (.slice va vn vc) T) :
 Calls Tryz.prog 14 #[.agg #[.int .i64 k,.int .i64 R,.slice va vn vc]] w (Ret2 (fun x y w' => EOwn w.heap.size w' (invE k R T) y ∧ x = .int .i64 (radN k R T)) w):=by
 have bA:=Below.step (belowAlloc w (.cells #[.int .i64 k,.int .i64 R,.slice va vn vc] 24)) (belowAlloc _ (.cells #[.int .i64 0,.slice none 0 0,.slice none 0 0] 37))
 have qA : Box3 ((w.alloc (.cells #[.int .i64 k,.int .i64 R,.slice va vn vc] 24)).alloc (.cells #[.int .i64 0,.slice none 0 0,.slice none 0 0] 37)) w.heap.size (.int .i64 k) (.int .i64 R) (.slice va vn vc):=by simp [Box3,go_sem]
 have qy : Box3 ((w.alloc (.cells #[.int .i64 k,.int .i64 R,.slice va vn vc] 24)).alloc (.cells #[.int .i64 0,.slice none 0 0,.slice none 0 0] 37)) (w.heap.size + 1) (.int .i64 0) (.slice none 0 0) (.slice none 0 0):=by simp [Box3,go_sem]
 have s0 : ((w.alloc (.cells #[.int .i64 k,.int .i64 R,.slice va vn vc] 24)).alloc (.cells #[.int .i64 0,.slice none 0 0,.slice none 0 0] 37)).heap.size = w.heap.size + 2:=by simp
 obtain ⟨WA,hWA⟩ : ∃ W : World,((w.alloc (.cells #[.int .i64 k,.int .i64 R,.slice va vn vc] 24)).alloc (.cells #[.int .i64 0,.slice none 0 0,.slice none 0 0] 37)) = W:=⟨_,rfl⟩
 replace h:=h.below bA
 rw [hWA] at h bA qA qy s0
 replace h:=Lib.hid h
 replace hWA:=Lib.hid hWA
 obtain ⟨⟨z0,z1,z2⟩,-,-,-⟩:=id qA
 go_enter Tryz.func14,Tryz.ntmps14
 go_upto_region 1 with fail
 rw [hWA.out]
 go_wp2_with fail
 refine (ref20_rule k R va vn vc T WA h.out).mono ?_
 rintro e w1 ⟨x,y,rfl,b1,hy,hx⟩
 obtain ⟨k',a,n,c,rfl⟩:=hx.rad
 obtain ⟨N,hN⟩ : ∃ N,radN k R T = N:=⟨_,rfl⟩
 rw [hN]
 obtain ⟨d0,d1,m1,k1,d2,m2,k2,rfl⟩:=eat_shape20 hy.at
 have ba:=Below.step (belowAlloc w1 (.cells #[.int .i64 k',.int .i64 N,.slice a n c] 24)) (belowAlloc _ (.cells #[.int .i64 d0,.slice d1 m1 k1,.slice d2 m2 k2] 37))
 have q1 : Box3 ((w1.alloc (.cells #[.int .i64 k',.int .i64 N,.slice a n c] 24)).alloc (.cells #[.int .i64 d0,.slice d1 m1 k1,.slice d2 m2 k2] 37)) w1.heap.size (.int .i64 k') (.int .i64 N) (.slice a n c):=by simp [Box3,go_sem]
 have q2 : Box3 ((w1.alloc (.cells #[.int .i64 k',.int .i64 N,.slice a n c] 24)).alloc (.cells #[.int .i64 d0,.slice d1 m1 k1,.slice d2 m2 k2] 37)) (w1.heap.size + 1) (.int .i64 d0) (.slice d1 m1 k1) (.slice d2 m2 k2):=by simp [Box3,go_sem]
 have hy2:=hy.below ba
 obtain ⟨W2,hW2⟩ : ∃ W : World,(w1.alloc (.cells #[.int .i64 k',.int .i64 N,.slice a n c] 24)).alloc (.cells #[.int .i64 d0,.slice d1 m1 k1,.slice d2 m2 k2] 37) = W:=⟨_,rfl⟩
 rw [hW2] at ba q1 q2 hy2
 have c2:=Below.step b1 ba
 have s1:=b1.size
 have hS : W2.cell? ⟨w1.heap.size,1,none⟩ = some (.int .i64 N) ∧ W2.cell? ⟨w1.heap.size + 1,0,none⟩ = some (.int .i64 d0) ∧ W2.cell? ⟨w1.heap.size + 1,1,none⟩ = some (.slice d1 m1 k1) ∧ W2.cell? ⟨w1.heap.size + 1,2,none⟩ = some (.slice d2 m2 k2):=⟨q1.1.2.1,q2.1.1,q2.1.2.1,q2.1.2.2⟩
 replace hW2:=Lib.hid hW2
 replace hN:=Lib.hid hN
 replace hy:=Lib.hid hy
 replace hx:=Lib.hid hx
 clear z0 z1 z2
 go_upto_region 2 with fail
 rw [hW2.out]
 refine wp_region_plan (fun w' => w'.cell? ⟨w1.heap.size,1,none⟩ = some (.int .i64 N) ∧ w'.cell? ⟨w1.heap.size + 1,0,none⟩ = some (.int .i64 d0) ∧ w'.cell? ⟨w1.heap.size + 1,1,none⟩ = some (.slice d1 m1 k1) ∧ w'.cell? ⟨w1.heap.size + 1,2,none⟩ = some (.slice d2 m2 k2)) 4 [(0,true),(1,true),(2,true),(3,true)] (by kernel_rfl) (by kernel_rfl) ?_
 obtain ⟨W3,hW3⟩ : ∃ W : World,W2.drew = W:=⟨_,rfl⟩
 have bd : Below W2.heap.size W2 W3:=by rw [← hW3]; exact (Below.refl _ _).drew
 have c3:=Below.step c2 bd
 have hS3 : W3.cell? ⟨w1.heap.size,1,none⟩ = some (.int .i64 N) ∧ W3.cell? ⟨w1.heap.size + 1,0,none⟩ = some (.int .i64 d0) ∧ W3.cell? ⟨w1.heap.size + 1,1,none⟩ = some (.slice d1 m1 k1) ∧ W3.cell? ⟨w1.heap.size + 1,2,none⟩ = some (.slice d2 m2 k2):=by rw [← hW3]; exact hS
 have hy3:=hy2.below bd
 rw [hW3]
 replace hW3:=Lib.hid hW3
 obtain ⟨⟨g0,g1,g2⟩,f0,f1,f2⟩:=qy.below c3
 have hz9:=(hy3.set3 (b:=w.heap.size + 1) (by omega) (.int .i64 d0) (.slice d1 m1 k1) (.slice d2 m2 k2)).mono (B':=w.heap.size) (by omega)
 replace hy2:=Lib.hid hy2
 replace hy3:=Lib.hid hy3
 replace hz9:=Lib.hid hz9
 refine pqY 11 hS3 ?_
 refine pqY 12 hS3 ?_
 refine pqY 13 hS3 ?_
 refine pqY 2 hS3 ?_
 refine head0 ?_
 simp only [List.drop_succ_cons,List.drop_zero]
 go_wp2
 refine NoPanic.normal ?_
 go_wp2
 exact bodyPost_ret (v:=.tuple #[.int .i64 N,.agg #[.int .i64 d0,.slice d1 m1 k1,.slice d2 m2 k2]]) (by simp [results,Tryz.results14,go_sem,g0,g1,g2]) rfl ⟨_,_,rfl,below_set3 (Below.step bA c3) (by omega) _ _ _,hz9.out,by rw [hN.out]⟩
end Go.Proofs.YtjiadfblphdchaaGreatDoor
namespace Go.Proofs.YtjiadfblphdchaaGreatDoor
open Go.RowKit
set_option maxRecDepth 100000
theorem InvIs.below {B : Nat} {w w' : World} {k R : Int} {T : List Int} {x : Value} (h : InvIs B w k R T x) (hb : Below w.heap.size w w') : InvIs B w' k R T x :=
 ⟨fun e => by
   obtain ⟨d,S,a,n,c,hf,hx,ho⟩:=h.1 e
   exact ⟨d,S,a,n,c,hf,hx,ho.below hb⟩,h.2⟩
theorem rules_inv {B B' : Nat} {w : World} {k R : Int} {T : List Int} {x y : Value} (hx : InvIs B w k R T x) (hy : InvIs B' w k R T y) : Calls Tryz.prog 17 #[x,y] w (Ret1 (fun v _ => v = .bool true) w):=by
 by_cases e : invE k R T = none
 ·obtain ⟨d,S,a,n,c,hf,rfl,ho⟩:=hx.1 e
  obtain ⟨d',S',a',n',c',hf',rfl,ho'⟩:=hy.1 e
  obtain ⟨rfl,rfl⟩ : d = d' ∧ S = S':=by
   rw [hf] at hf'; injection hf' with e; injection e with h1 h2; exact ⟨h1,h2⟩
  refine (rules_any k (d : Int) k (d : Int) a n c a' n' c' S S w ho.at ho'.at).mono ?_
  rintro e w' ⟨v,he,hb,hv⟩
  exact ⟨v,he,hb,by rw [hv]; simp⟩
 ·obtain rfl:=hx.2 e
  obtain rfl:=hy.2 e
  refine (rules_any 0 0 0 0 none 0 0 none 0 0 [] [] w (OwnI.nil 0 w).at (OwnI.nil 0 w).at).mono ?_
  rintro e w' ⟨v,he,hb,hv⟩
  exact ⟨v,he,hb,by rw [hv]; simp⟩
theorem invE_fine (k R : Int) (T : List Int) : (invE k R T).Fine:=by
 cases hc : smallP k R T with
 | some t =>
  rw [invE_bad hc]
  obtain ⟨a,b⟩:=t
  have h:=smallP_num hc
  refine ⟨h.1,h.2.1,?_⟩
  show ((sInverse,(0 : Int)) :: (sInject,(0 : Int)) :: (sPairs,(0 : Int)) :: b).length ≤ 1000
  simp only [List.length_cons]
  omega
 | none =>
  obtain ⟨K,Q,rfl,rfl,hr,hl⟩:=smallP_of hc
  obtain ⟨i1,i2,i3⟩:=invE_ok hr hl
  by_cases h : NotOne K Q T
  ·rw [i1 h]; exact ⟨by decide,by decide,by decide⟩
  ·by_cases hf : findP K Q T = none
   ·rw [i2 h hf]; exact ⟨by decide,by decide,by decide⟩
   ·rw [i3 h hf]; trivial
set_option maxHeartbeats 4000000 in
theorem inverseTells_any (r : Nat → Addr) (k R : Int) (v : Value) (T : List Int) (w : World) (hg : Glob r w) (hG : GlobE w) (h : IntsAt w v T) (lT : T.length ≤ 17592186043904) :
 Calls Tryz.prog 3 #[.agg #[.int .i64 k,.int .i64 R,v]] w (Ret1 (fun x _ => x = .bool true) w):=by
 obtain ⟨va,vn,vc,rfl⟩:=h.shape
 have b0:=belowAlloc w (.cells #[.int .i64 k,.int .i64 R,.slice va vn vc] 24)
 have q : Box3 (w.alloc (.cells #[.int .i64 k,.int .i64 R,.slice va vn vc] 24)) w.heap.size (.int .i64 k) (.int .i64 R) (.slice va vn vc):=by simp [Box3,go_sem]
 replace hg:=Lib.hid (hg.below b0)
 replace hG:=Lib.hid (hG.below b0)
 replace h:=Lib.hid (h.below b0)
 obtain ⟨tl,htl⟩ : ∃ tl,T.length = tl:=⟨_,rfl⟩
 replace htl:=Lib.hid htl
 have hfine:=Lib.hid (invE_fine k R T)
 replace lT:=Lib.hid lT
 go_enter Tryz.func3,Tryz.ntmps3
 go_wp2_with fail
 refine (awake20 r _ hg.out hG.out).mono ?_
 rintro e w1 ⟨_,rfl,b1,rfl⟩
 have b01:=Below.step b0 b1
 have q1:=q.below b1
 obtain ⟨⟨z0,z1,z2⟩,-,-,-⟩:=q1
 go_wp2_with fail
 refine (heavy20 k R va vn vc T w1 (h.out.below b1)).mono ?_
 rintro e w2 ⟨_,rfl,b2,rfl⟩
 have b12:=Below.step b1 b2
 rw [htl.out]
 clear z0 z1 z2
 by_cases hh : 64 < tl
 ·have dh : decide (64 < tl) = true:=decide_eq_true hh
  obtain ⟨⟨z0,z1,z2⟩,-,-,-⟩:=q.below b12
  go_wp2_with fail
  refine (small_any r k R va vn vc T w2 (hg.out.below b12) (h.out.below b12)).mono ?_
  rintro e w2' ⟨sv,rfl,b2',hsv⟩
  have b12':=Below.step b12 b2'
  clear z0 z1 z2
  rcases hsv.open2 with rfl | ⟨TS,pS,rfl⟩
  ·have bE:=Below.step b0 b12'
   replace hsv:=Lib.hid hsv
   go_wp2
   go_ret
   exact ⟨_,rfl,bE,rfl⟩
  ·replace hsv:=Lib.hid hsv
   obtain ⟨⟨z0,z1,z2⟩,-,-,-⟩:=q.below b12'
   go_wp2_with fail
   refine (lentRule_any k R va vn vc T w2' (h.out.below b12') (by have:=lT.out; omega)).mono ?_
   rintro e w3 ⟨_,rfl,b3,ma,mn,mc,rfl,hm⟩
   have ba3:=belowAlloc w3 (.cells #[.int .i64 k,.int .i64 R,.slice ma mn mc] 24)
   have qm : Box3 (w3.alloc (.cells #[.int .i64 k,.int .i64 R,.slice ma mn mc] 24)) w3.heap.size (.int .i64 k) (.int .i64 R) (.slice ma mn mc):=by simp [Box3,go_sem]
   have b13:=Below.step b12' (Below.step b3 ba3)
   have hm3:=hm.below ba3
   obtain ⟨W3,hW3⟩ : ∃ W : World,w3.alloc (.cells #[.int .i64 k,.int .i64 R,.slice ma mn mc] 24) = W:=⟨_,rfl⟩
   rw [hW3] at qm b13 hm3
   replace hW3:=Lib.hid hW3
   replace hm:=Lib.hid hm
   replace hm3:=Lib.hid hm3
   clear z0 z1 z2
   obtain ⟨⟨z0,z1,z2⟩,-,-,-⟩:=id qm
   go_upto_region 6 with fail
   rw [hW3.out]
   go_wp2_with fail
   refine (inv_radius r k R ma mn mc T W3 (hg.out.below b13) hm3.out.at).mono ?_
   rintro e w4 ⟨nv,ev,rfl,b4,hev,rfl⟩
   obtain ⟨N,hN⟩ : ∃ N,radN k R T = N:=⟨_,rfl⟩
   rw [hN]
   replace hN:=Lib.hid hN
   have b14:=Below.step b13 b4
   clear z0 z1 z2
   obtain ⟨⟨z0,z1,z2⟩,-,-,-⟩:=qm.below b4
   replace hev:=Lib.hid hev
   go_wp2_with fail
   refine (inv_rule r k R ma mn mc T w4 (hg.out.below b14) (hm3.out.at.below b4)).mono ?_
   rintro e w5 ⟨sv,fv,rfl,b5,hfv,hsv⟩
   obtain ⟨k5,q5,a5,n5,c5,rfl⟩:=hsv.shape
   have ba5:=belowAlloc w5 (.cells #[.int .i64 k5,.int .i64 q5,.slice a5 n5 c5] 24)
   have qs : Box3 (w5.alloc (.cells #[.int .i64 k5,.int .i64 q5,.slice a5 n5 c5] 24)) w5.heap.size (.int .i64 k5) (.int .i64 q5) (.slice a5 n5 c5):=by simp [Box3,go_sem]
   have hs5:=hsv.below ba5
   have hf5:=hfv.below ba5
   have he5:=(hev.out.below b5).below ba5
   have b45:=Below.step b5 ba5
   obtain ⟨W5,hW5⟩ : ∃ W : World,w5.alloc (.cells #[.int .i64 k5,.int .i64 q5,.slice a5 n5 c5] 24) = W:=⟨_,rfl⟩
   rw [hW5] at qs hs5 hf5 he5 b45
   replace hW5:=Lib.hid hW5
   have b15:=Below.step b14 b45
   have m5:=Below.step b4 b45
   replace hs5:=Lib.hid hs5
   replace hf5:=Lib.hid hf5
   replace he5:=Lib.hid he5
   replace hsv:=Lib.hid hsv
   replace hfv:=Lib.hid hfv
   clear z0 z1 z2 ba5
   obtain ⟨⟨z0,z1,z2⟩,-,-,-⟩:=q.below b15
   go_upto_region 8 with fail
   rw [hW5.out]
   go_wp2_with fail
   refine (ref20_radius k R va vn vc T W5 (h.out.below b15)).mono ?_
   rintro e w6 ⟨kv,gv,rfl,b6,hgv,rfl⟩
   rw [hN.out]
   obtain ⟨d0,d1,m1,k1,d2,m2,k2,rfl⟩:=eat_shape20 hgv.at
   obtain ⟨ba6,qg⟩:=err_box8 w6 (.int .i64 d0) (.slice d1 m1 k1) (.slice d2 m2 k2)
   have hg6:=hgv.below ba6
   have b56:=Below.step b6 ba6
   obtain ⟨W6,hW6⟩ : ∃ W : World,w6.alloc (.cells #[.int .i64 d0,.slice d1 m1 k1,.slice d2 m2 k2] 37) = W:=⟨_,rfl⟩
   rw [hW6] at qg hg6 b56
   replace hW6:=Lib.hid hW6
   have b16:=Below.step b15 b56
   have m6:=Below.step m5 b56
   replace hg6:=Lib.hid hg6
   replace hgv:=Lib.hid hgv
   clear z0 z1 z2 ba6
   obtain ⟨⟨z0,z1,z2⟩,-,-,-⟩:=q.below b16
   go_upto_region 9 with fail
   rw [hW6.out]
   go_wp2_with fail
   refine (ref20_rule k R va vn vc T W6 (h.out.below b16)).mono ?_
   rintro e w7 ⟨tv,hv,rfl,b7,hhv,htv⟩
   obtain ⟨k7,q7,a7,n7,c7,rfl⟩:=htv.shape
   obtain ⟨e0,e1,x1,y1,e2,x2,y2,rfl⟩:=eat_shape20 hhv.at
   have ba7:=Below.step (belowAlloc w7 (.cells #[.int .i64 k7,.int .i64 q7,.slice a7 n7 c7] 24)) (belowAlloc _ (.cells #[.int .i64 e0,.slice e1 x1 y1,.slice e2 x2 y2] 37))
   have qt : Box3 ((w7.alloc (.cells #[.int .i64 k7,.int .i64 q7,.slice a7 n7 c7] 24)).alloc (.cells #[.int .i64 e0,.slice e1 x1 y1,.slice e2 x2 y2] 37)) w7.heap.size (.int .i64 k7) (.int .i64 q7) (.slice a7 n7 c7):=by simp [Box3,go_sem]
   have qh : Box3 ((w7.alloc (.cells #[.int .i64 k7,.int .i64 q7,.slice a7 n7 c7] 24)).alloc (.cells #[.int .i64 e0,.slice e1 x1 y1,.slice e2 x2 y2] 37)) (w7.heap.size + 1) (.int .i64 e0) (.slice e1 x1 y1) (.slice e2 x2 y2):=by simp [Box3,go_sem]
   have ht7:=htv.below ba7
   have hh7:=hhv.below ba7
   have b67:=Below.step b7 ba7
   obtain ⟨W7,hW7⟩ : ∃ W : World,(w7.alloc (.cells #[.int .i64 k7,.int .i64 q7,.slice a7 n7 c7] 24)).alloc (.cells #[.int .i64 e0,.slice e1 x1 y1,.slice e2 x2 y2] 37) = W:=⟨_,rfl⟩
   rw [hW7] at qt qh ht7 hh7 b67
   replace hW7:=Lib.hid hW7
   have b17:=Below.step b16 b67
   have m7:=Below.step m6 b67
   have s7:=Below.step b56 b67
   replace ht7:=Lib.hid ht7
   replace hh7:=Lib.hid hh7
   replace hhv:=Lib.hid hhv
   replace htv:=Lib.hid htv
   clear z0 z1 z2 ba7
   obtain ⟨⟨z0,z1,z2⟩,-,-,-⟩:=qg.below b67
   go_upto_region 10 with fail
   rw [hW7.out]
   go_wp2_with fail
   refine (raw_is r (invE k R T) ev _ W7 (hg.out.below b17) (hG.out.below b17) (he5.out.below s7) (hg6.out.at.below b67) hfine.out).mono ?_
   rintro e w8 ⟨_,rfl,b8,rfl⟩
   clear z0 z1 z2
   obtain ⟨⟨z0,z1,z2⟩,-,-,-⟩:=qs.below (Below.step s7 b8)
   obtain ⟨⟨y0',y1',y2'⟩,-,-,-⟩:=qt.below b8
   go_wp2_with fail
   refine (rules_inv (hs5.out.below (Below.step s7 b8)) (ht7.out.below b8)).mono ?_
   rintro e w9 ⟨_,rfl,b9,rfl⟩
   have b79:=Below.step b8 b9
   clear z0 z1 z2 y0' y1' y2'
   obtain ⟨⟨z0,z1,z2⟩,-,-,-⟩:=qh.below b79
   go_wp2_with fail
   refine (raw_is r (invE k R T) fv _ w9 (hg.out.below (Below.step b17 b79)) (hG.out.below (Below.step b17 b79)) (hf5.out.below (Below.step s7 b79)) (hh7.out.at.below b79) hfine.out).mono ?_
   rintro e w10 ⟨_,rfl,b10,rfl⟩
   have b710:=Below.step b79 b10
   have b110:=Below.step b17 b710
   clear z0 z1 z2
   obtain ⟨⟨z0,z1,z2⟩,-,-,-⟩:=qm.below (Below.step m7 b710)
   obtain ⟨⟨y0',y1',y2'⟩,-,-,-⟩:=q.below b110
   have hkept:=keptRule_any _ k R ma mn mc va vn vc T w10 (hm3.out.below (Below.step m7 b710)) (h.out.below b110) (by have:=lT.out; omega)
   replace hkept:=Lib.hid hkept
   go_wp2_with fail
   refine hkept.out.mono ?_
   rintro e w11 ⟨_,rfl,b11,rfl⟩
   have bE:=Below.step b0 (Below.step b110 b11)
   go_wp2
   go_ret
   exact ⟨_,rfl,bE,rfl⟩
 ·have dh : decide (64 < tl) = false:=decide_eq_false hh
  obtain ⟨⟨z0,z1,z2⟩,-,-,-⟩:=q.below b12
  go_wp2_with fail
  refine (lentRule_any k R va vn vc T w2 (h.out.below b12) (by have:=lT.out; omega)).mono ?_
  rintro e w3 ⟨_,rfl,b3,ma,mn,mc,rfl,hm⟩
  have ba3:=belowAlloc w3 (.cells #[.int .i64 k,.int .i64 R,.slice ma mn mc] 24)
  have qm : Box3 (w3.alloc (.cells #[.int .i64 k,.int .i64 R,.slice ma mn mc] 24)) w3.heap.size (.int .i64 k) (.int .i64 R) (.slice ma mn mc):=by simp [Box3,go_sem]
  have b13:=Below.step b12 (Below.step b3 ba3)
  have hm3:=hm.below ba3
  obtain ⟨W3,hW3⟩ : ∃ W : World,w3.alloc (.cells #[.int .i64 k,.int .i64 R,.slice ma mn mc] 24) = W:=⟨_,rfl⟩
  rw [hW3] at qm b13 hm3
  replace hW3:=Lib.hid hW3
  replace hm:=Lib.hid hm
  replace hm3:=Lib.hid hm3
  clear z0 z1 z2
  obtain ⟨⟨z0,z1,z2⟩,-,-,-⟩:=id qm
  go_upto_region 6 with fail
  rw [hW3.out]
  go_wp2_with fail
  refine (inv_radius r k R ma mn mc T W3 (hg.out.below b13) hm3.out.at).mono ?_
  rintro e w4 ⟨nv,ev,rfl,b4,hev,rfl⟩
  obtain ⟨N,hN⟩ : ∃ N,radN k R T = N:=⟨_,rfl⟩
  rw [hN]
  replace hN:=Lib.hid hN
  have b14:=Below.step b13 b4
  clear z0 z1 z2
  obtain ⟨⟨z0,z1,z2⟩,-,-,-⟩:=qm.below b4
  replace hev:=Lib.hid hev
  go_wp2_with fail
  refine (inv_rule r k R ma mn mc T w4 (hg.out.below b14) (hm3.out.at.below b4)).mono ?_
  rintro e w5 ⟨sv,fv,rfl,b5,hfv,hsv⟩
  obtain ⟨k5,q5,a5,n5,c5,rfl⟩:=hsv.shape
  have ba5:=belowAlloc w5 (.cells #[.int .i64 k5,.int .i64 q5,.slice a5 n5 c5] 24)
  have qs : Box3 (w5.alloc (.cells #[.int .i64 k5,.int .i64 q5,.slice a5 n5 c5] 24)) w5.heap.size (.int .i64 k5) (.int .i64 q5) (.slice a5 n5 c5):=by simp [Box3,go_sem]
  have hs5:=hsv.below ba5
  have hf5:=hfv.below ba5
  have he5:=(hev.out.below b5).below ba5
  have b45:=Below.step b5 ba5
  obtain ⟨W5,hW5⟩ : ∃ W : World,w5.alloc (.cells #[.int .i64 k5,.int .i64 q5,.slice a5 n5 c5] 24) = W:=⟨_,rfl⟩
  rw [hW5] at qs hs5 hf5 he5 b45
  replace hW5:=Lib.hid hW5
  have b15:=Below.step b14 b45
  have m5:=Below.step b4 b45
  replace hs5:=Lib.hid hs5
  replace hf5:=Lib.hid hf5
  replace he5:=Lib.hid he5
  replace hsv:=Lib.hid hsv
  replace hfv:=Lib.hid hfv
  clear z0 z1 z2 ba5
  obtain ⟨⟨z0,z1,z2⟩,-,-,-⟩:=q.below b15
  go_upto_region 8 with fail
  rw [hW5.out]
  go_wp2_with fail
  refine (ref20_radius k R va vn vc T W5 (h.out.below b15)).mono ?_
  rintro e w6 ⟨kv,gv,rfl,b6,hgv,rfl⟩
  rw [hN.out]
  obtain ⟨d0,d1,m1,k1,d2,m2,k2,rfl⟩:=eat_shape20 hgv.at
  obtain ⟨ba6,qg⟩:=err_box8 w6 (.int .i64 d0) (.slice d1 m1 k1) (.slice d2 m2 k2)
  have hg6:=hgv.below ba6
  have b56:=Below.step b6 ba6
  obtain ⟨W6,hW6⟩ : ∃ W : World,w6.alloc (.cells #[.int .i64 d0,.slice d1 m1 k1,.slice d2 m2 k2] 37) = W:=⟨_,rfl⟩
  rw [hW6] at qg hg6 b56
  replace hW6:=Lib.hid hW6
  have b16:=Below.step b15 b56
  have m6:=Below.step m5 b56
  replace hg6:=Lib.hid hg6
  replace hgv:=Lib.hid hgv
  clear z0 z1 z2 ba6
  obtain ⟨⟨z0,z1,z2⟩,-,-,-⟩:=q.below b16
  go_upto_region 9 with fail
  rw [hW6.out]
  go_wp2_with fail
  refine (ref20_rule k R va vn vc T W6 (h.out.below b16)).mono ?_
  rintro e w7 ⟨tv,hv,rfl,b7,hhv,htv⟩
  obtain ⟨k7,q7,a7,n7,c7,rfl⟩:=htv.shape
  obtain ⟨e0,e1,x1,y1,e2,x2,y2,rfl⟩:=eat_shape20 hhv.at
  have ba7:=Below.step (belowAlloc w7 (.cells #[.int .i64 k7,.int .i64 q7,.slice a7 n7 c7] 24)) (belowAlloc _ (.cells #[.int .i64 e0,.slice e1 x1 y1,.slice e2 x2 y2] 37))
  have qt : Box3 ((w7.alloc (.cells #[.int .i64 k7,.int .i64 q7,.slice a7 n7 c7] 24)).alloc (.cells #[.int .i64 e0,.slice e1 x1 y1,.slice e2 x2 y2] 37)) w7.heap.size (.int .i64 k7) (.int .i64 q7) (.slice a7 n7 c7):=by simp [Box3,go_sem]
  have qh : Box3 ((w7.alloc (.cells #[.int .i64 k7,.int .i64 q7,.slice a7 n7 c7] 24)).alloc (.cells #[.int .i64 e0,.slice e1 x1 y1,.slice e2 x2 y2] 37)) (w7.heap.size + 1) (.int .i64 e0) (.slice e1 x1 y1) (.slice e2 x2 y2):=by simp [Box3,go_sem]
  have ht7:=htv.below ba7
  have hh7:=hhv.below ba7
  have b67:=Below.step b7 ba7
  obtain ⟨W7,hW7⟩ : ∃ W : World,(w7.alloc (.cells #[.int .i64 k7,.int .i64 q7,.slice a7 n7 c7] 24)).alloc (.cells #[.int .i64 e0,.slice e1 x1 y1,.slice e2 x2 y2] 37) = W:=⟨_,rfl⟩
  rw [hW7] at qt qh ht7 hh7 b67
  replace hW7:=Lib.hid hW7
  have b17:=Below.step b16 b67
  have m7:=Below.step m6 b67
  have s7:=Below.step b56 b67
  replace ht7:=Lib.hid ht7
  replace hh7:=Lib.hid hh7
  replace hhv:=Lib.hid hhv
  replace htv:=Lib.hid htv
  clear z0 z1 z2 ba7
  obtain ⟨⟨z0,z1,z2⟩,-,-,-⟩:=qg.below b67
  go_upto_region 10 with fail
  rw [hW7.out]
  go_wp2_with fail
  refine (raw_is r (invE k R T) ev _ W7 (hg.out.below b17) (hG.out.below b17) (he5.out.below s7) (hg6.out.at.below b67) hfine.out).mono ?_
  rintro e w8 ⟨_,rfl,b8,rfl⟩
  clear z0 z1 z2
  obtain ⟨⟨z0,z1,z2⟩,-,-,-⟩:=qs.below (Below.step s7 b8)
  obtain ⟨⟨y0',y1',y2'⟩,-,-,-⟩:=qt.below b8
  go_wp2_with fail
  refine (rules_inv (hs5.out.below (Below.step s7 b8)) (ht7.out.below b8)).mono ?_
  rintro e w9 ⟨_,rfl,b9,rfl⟩
  have b79:=Below.step b8 b9
  clear z0 z1 z2 y0' y1' y2'
  obtain ⟨⟨z0,z1,z2⟩,-,-,-⟩:=qh.below b79
  go_wp2_with fail
  refine (raw_is r (invE k R T) fv _ w9 (hg.out.below (Below.step b17 b79)) (hG.out.below (Below.step b17 b79)) (hf5.out.below (Below.step s7 b79)) (hh7.out.at.below b79) hfine.out).mono ?_
  rintro e w10 ⟨_,rfl,b10,rfl⟩
  have b710:=Below.step b79 b10
  have b110:=Below.step b17 b710
  clear z0 z1 z2
  obtain ⟨⟨z0,z1,z2⟩,-,-,-⟩:=qm.below (Below.step m7 b710)
  obtain ⟨⟨y0',y1',y2'⟩,-,-,-⟩:=q.below b110
  have hkept:=keptRule_any _ k R ma mn mc va vn vc T w10 (hm3.out.below (Below.step m7 b710)) (h.out.below b110) (by have:=lT.out; omega)
  replace hkept:=Lib.hid hkept
  go_wp2_with fail
  refine hkept.out.mono ?_
  rintro e w11 ⟨_,rfl,b11,rfl⟩
  have bE:=Below.step b0 (Below.step b110 b11)
  go_wp2
  go_ret
  exact ⟨_,rfl,bE,rfl⟩
end Go.Proofs.YtjiadfblphdchaaGreatDoor
namespace Go.Proofs.YtjiadfblphdchaaGreatDoor
open Go.ChangeShapes Go.WideShapes Go.ChangeAt Go.RowKit Go.Joins
set_option maxRecDepth 100000
theorem own : ownKnob Tryz.prog.godebug = none:=by kernel_rfl
theorem laidOut : laidOutB Tryz.prog = true:=by kernel_rfl
theorem cellsInt : Tryz.prog.cellsOf 3 = 1:=by kernel_rfl
theorem uInt : Tryz.prog.underlying 3 = some (.int .i64):=by kernel_rfl
theorem bytesInt : Tryz.prog.bytesOf 3 = 8:=by kernel_rfl
theorem i64_of_wf {n : Int} (h : (Lit.int .i64 n).wf = true) : I64 n:=by
 have:=bounds_i64 h
 unfold I64
 omega
/-- A []int that came in. -/
theorem open_intsV {H : Type} {enc : TypeId × Value → H} {W : World} {held : Bool} {fuel : Nat} {v : Value} {y : DataW H × List MemPlace}
 (h : DataW.trod enc Tryz.prog W 0 (fun _ => true) held fuel 22 [v] = some y) (hw : ∀ n ∈ y.1.weights Tryz.prog 22,n ≤ reachBytes) :
 ∃ xs,IntsAt W v xs ∧ xs.length ≤ 17592186043904 ∧ ∀ x ∈ xs,I64 x:=by
 rcases open_ints uInts uInt cellsInt h with ⟨hcs,_⟩ | ⟨a,len,cap,zs,hcs,_,hl,hm,hz,hx,hcell,hwz⟩
 ·simp at hcs
  subst hcs
  exact ⟨[],(OwnI.nil 0 W).at,by simp,by simp⟩
 ·simp at hcs
  subst hcs
  simp only [if_true] at hz
  have hzl : (zs.take len).length = len:=by simp; omega
  refine ⟨zs.take len,⟨some a,cap,by rw [hzl],by rw [hzl]; exact hl,hm,(fun e => by cases e),fun i hi => ?_⟩,?_,fun x hx => i64_of_wf (hwz x (List.mem_of_mem_take hx))⟩
  ·have hi' : i < zs.length:=by rw [hzl] at hi; omega
   show W.cell? (a.add i) = _
   rw [hcell i hi']
   simp [List.getD,hi']
  ·rw [hx] at hw
   have:=hw ((lits (H:=H) .i64 (zs.take len)).length * 8 + (lits (H:=H) .i64 (zs.drop len)).length * 8) (by
    simp only [DataW.weights,uInts,bytesInt,List.mem_cons]
    left; omega)
   simp only [lits,List.length_map,reachBytes] at this
   omega
theorem weights_each3 {H : Type} {t0 t1 t2 : TypeId} {y0 y1 y2 : DataW H} {n : Nat} (h : n ∈ y2.weights Tryz.prog t2) : n ∈ DataW.weightsEach Tryz.prog [t0,t1,t2] [y0,y1,y2]:=by
 simp only [DataW.weightsEach,List.mem_append]
 exact .inr (.inr (.inl h))
/-- A rule that came in. -/
theorem open_ruleV {H : Type} {enc : TypeId × Value → H} {W : World} {held : Bool} {v : Value} {d : DataW H} {p : List MemPlace} {b0 : Nat}
 (hv : Value.okWide Tryz.prog W .any b0 24 v) (h : DataW.Trod enc Tryz.prog W 0 (fun _ => true) held 24 v d p) (hw : ∀ n ∈ d.weights Tryz.prog 24,n ≤ reachBytes) :
 ∃ (k R : Int) (u : Value) (xs : List Int),v = .agg #[.int .i64 k,.int .i64 R,u] ∧ IntsAt W u xs ∧ xs.length ≤ 17592186043904 ∧ (∀ x ∈ xs,I64 x) ∧ I64 k ∧ I64 R:=by
 obtain ⟨v0,v1,v2,y0,y1,y2,n,rfl,rfl,rfl,h0,h1,h2⟩:=open_agg3 Tryz.underlying24 (by kernel_rfl) (by kernel_rfl) hv h
 obtain ⟨a,e0,_,wa⟩:=DataW.trod_int uInt h0
 obtain ⟨b,e1,_,wb⟩:=DataW.trod_int uInt h1
 simp at e0 e1
 subst e0 e1
 obtain ⟨xs,hx,hl,hb⟩:=open_intsV h2 fun n hn => hw n (by
  simp only [DataW.weights,Tryz.underlying24]
  exact weights_each3 (t0:=3) (t1:=3) (t2:=22) hn)
 exact ⟨a,b,v2,xs,rfl,hx,hl,hb,i64_of_wf wa,i64_of_wf wb⟩
/-! The package-level errors. -/
theorem star : "*" ++ "errors.errorString" = "*errors.errorString" := by decide
theorem rowES (u : TypeId) (h : Tryz.prog.typeName? 3 u = some "*errors.errorString") : u = 255 :=
 typeName_ptr_named (nm := "errors.errorString") (by rw [star]; kernel_rfl) (by kernel_rfl) (by decide) u (by rw [star]; exact h)
theorem pES : Tryz.prog.underlying 255 = some (.pointer 276):=by kernel_rfl
theorem cES : Tryz.prog.cellsOf 276 = 1:=by kernel_rfl
theorem cStr : Tryz.prog.cellsOf 9 = 1:=by kernel_rfl
def laid12 : List (String × DataW Unit) := [("eden/api.BadRule", Rows.laid_eden_api_BadRule), ("eden/api.BadWord", Rows.laid_eden_api_BadWord), ("eden/api.BadArg", Rows.laid_eden_api_BadArg), ("eden/api.TooBig", Rows.laid_eden_api_TooBig), ("eden/api.NoBudget", Rows.laid_eden_api_NoBudget), ("eden/api.BadText", Rows.laid_eden_api_BadText), ("eden/api.BadPatch", Rows.laid_eden_api_BadPatch), ("eden/api.BadCert", Rows.laid_eden_api_BadCert), ("eden/api.NoInverse", Rows.laid_eden_api_NoInverse), ("eden/api.BadLine", Rows.laid_eden_api_BadLine), ("eden/api.BadState", Rows.laid_eden_api_BadState), ("eden/api.Unknown", Rows.laid_eden_api_Unknown)]
theorem sentinel {n : String} {text : List UInt8} {r : List (String × DataW Unit)} {W : World} {g : Nat}
 (h : laidMet Tryz.prog ((n, .iface "*errors.errorString" (.ptr (.agg [.lit (.string text)]))) :: r) W)
 (hg : Tryz.prog.globalNamed n = some g) (ht : (Tryz.prog.globals[g]?).map (·.type) = some 28) :
 (∃ a : Addr,W.cell? ⟨g,0,none⟩ = some (.iface 255 (.pointer (some a))) ∧ ∃ s,W.cell? a = some (.string s) ∧ s.data.toList = text) ∧ laidMet Tryz.prog r W:=by
 refine ⟨?_,h.tail⟩
 obtain ⟨a,s,hv,hc,hs,_⟩:=laid_sentinel h hg ht Tryz.underlying28 rowES pES Tryz.underlying276 rfl rfl Tryz.underlying9 cES cStr
 exact ⟨a,by simpa using World.var?_cell hg hv 0,s,hc,hs⟩
def txt : Nat → List UInt8
 | 1 => [98,97,100,32,114,117,108,101]
 | 2 => [98,97,100,32,119,111,114,100]
 | 3 => [98,97,100,32,97,114,103,117,109,101,110,116]
 | 4 => [116,111,111,32,98,105,103]
 | 5 => [110,111,32,98,117,100,103,101,116]
 | 6 => [98,97,100,32,116,101,120,116]
 | 7 => [98,97,100,32,112,97,116,99,104]
 | 8 => [98,97,100,32,99,101,114,116,105,102,105,99,97,116,101]
 | 9 => [110,111,32,105,110,118,101,114,115,101]
 | 10 => [98,97,100,32,108,105,110,101]
 | 11 => [98,97,100,32,115,116,97,116,101]
 | 99 => [117,110,107,110,111,119,110]
 | _ => []
theorem txt_apart : ∀ m n : Fin 12,1 ≤ m.val → 1 ≤ n.val → txt m.val = txt n.val → m = n:=by decide
theorem glob_of_laidR {W : World} {l : List (String × DataW Unit)} (h : laidMet Tryz.prog (laid12 ++ l) W) : ∃ r,Glob r W:=by
 obtain ⟨⟨a1,c1,s1,e1,t1⟩,h⟩:=sentinel (text:=txt 1) h (g:=0) (by kernel_rfl) (by kernel_rfl)
 obtain ⟨⟨a2,c2,s2,e2,t2⟩,h⟩:=sentinel (text:=txt 2) h (g:=1) (by kernel_rfl) (by kernel_rfl)
 obtain ⟨⟨a3,c3,s3,e3,t3⟩,h⟩:=sentinel (text:=txt 3) h (g:=2) (by kernel_rfl) (by kernel_rfl)
 obtain ⟨⟨a4,c4,s4,e4,t4⟩,h⟩:=sentinel (text:=txt 4) h (g:=3) (by kernel_rfl) (by kernel_rfl)
 obtain ⟨⟨a5,c5,s5,e5,t5⟩,h⟩:=sentinel (text:=txt 5) h (g:=4) (by kernel_rfl) (by kernel_rfl)
 obtain ⟨⟨a6,c6,s6,e6,t6⟩,h⟩:=sentinel (text:=txt 6) h (g:=5) (by kernel_rfl) (by kernel_rfl)
 obtain ⟨⟨a7,c7,s7,e7,t7⟩,h⟩:=sentinel (text:=txt 7) h (g:=6) (by kernel_rfl) (by kernel_rfl)
 obtain ⟨⟨a8,c8,s8,e8,t8⟩,h⟩:=sentinel (text:=txt 8) h (g:=7) (by kernel_rfl) (by kernel_rfl)
 obtain ⟨⟨a9,c9,s9,e9,t9⟩,h⟩:=sentinel (text:=txt 9) h (g:=8) (by kernel_rfl) (by kernel_rfl)
 obtain ⟨⟨a10,c10,s10,e10,t10⟩,h⟩:=sentinel (text:=txt 10) h (g:=9) (by kernel_rfl) (by kernel_rfl)
 obtain ⟨⟨a11,c11,s11,e11,t11⟩,h⟩:=sentinel (text:=txt 11) h (g:=10) (by kernel_rfl) (by kernel_rfl)
 obtain ⟨⟨a99,c99,s99,e99,t99⟩,h⟩:=sentinel (text:=txt 99) h (g:=11) (by kernel_rfl) (by kernel_rfl)
 clear h
 have key : ∀ n : Nat,(1 ≤ n ∧ n ≤ 11) ∨ n = 99 → ∃ s,W.cell? ((fun n : Nat => match n with | 1 => a1 | 2 => a2 | 3 => a3 | 4 => a4 | 5 => a5 | 6 => a6 | 7 => a7 | 8 => a8 | 9 => a9 | 10 => a10 | 11 => a11 | _ => a99) n) = some (.string s) ∧ s.data.toList = txt n:=by
  intro n hn
  have : n = 1 ∨ n = 2 ∨ n = 3 ∨ n = 4 ∨ n = 5 ∨ n = 6 ∨ n = 7 ∨ n = 8 ∨ n = 9 ∨ n = 10 ∨ n = 11 ∨ n = 99:=by omega
  rcases this with rfl | rfl | rfl | rfl | rfl | rfl | rfl | rfl | rfl | rfl | rfl | rfl
  ·exact ⟨s1,e1,t1⟩
  ·exact ⟨s2,e2,t2⟩
  ·exact ⟨s3,e3,t3⟩
  ·exact ⟨s4,e4,t4⟩
  ·exact ⟨s5,e5,t5⟩
  ·exact ⟨s6,e6,t6⟩
  ·exact ⟨s7,e7,t7⟩
  ·exact ⟨s8,e8,t8⟩
  ·exact ⟨s9,e9,t9⟩
  ·exact ⟨s10,e10,t10⟩
  ·exact ⟨s11,e11,t11⟩
  ·exact ⟨s99,e99,t99⟩
 refine ⟨(fun n : Nat => match n with | 1 => a1 | 2 => a2 | 3 => a3 | 4 => a4 | 5 => a5 | 6 => a6 | 7 => a7 | 8 => a8 | 9 => a9 | 10 => a10 | 11 => a11 | _ => a99),c1,c2,c3,c4,c5,c6,c7,c8,c9,c10,c11,c99,(fun n hn => ?_),fun m n hm1 hm2 hn1 hn2 he => ?_⟩
 ·obtain ⟨s,hs,_⟩:=key n hn
  exact ⟨s,hs⟩
 ·obtain ⟨s,hs,ts⟩:=key m.toNat (by omega)
  obtain ⟨s',hs',ts'⟩:=key n.toNat (by omega)
  have hss : s = s':=by
   have:=hs.symm.trans ((congrArg W.cell? he).trans hs')
   simpa using this
  subst hss
  have:=txt_apart ⟨m.toNat,by omega⟩ ⟨n.toNat,by omega⟩ (by simp; omega) (by simp; omega) (ts.symm.trans ts')
  have:=congrArg Fin.val this
  simp at this
  omega
end Go.Proofs.YtjiadfblphdchaaGreatDoor
namespace Go.Proofs.YtjiadfblphdchaaGreatDoor
open Go.RowKit
set_option maxRecDepth 100000
theorem rtypeNo : (Tryz.prog.cutTypes.find? (·.1 == "internal/reflectlite.rtype")).map (·.2) = some 161 := by kernel_rfl
theorem errorTypeNo : Tryz.prog.globalNamed "errors.errorType" = some 12 := by kernel_rfl
theorem typesNo : Tryz.prog.types.size = 388 - 100:=by kernel_rfl
theorem oneError : ((List.range (388 - 100)).filter fun t => Tryz.prog.rowNamed t [101,114,114,111,114]) = [28]:=by kernel_rfl
theorem handleErr : typeHandle Tryz.prog 28 = .pointer (some ⟨17,28,none⟩):=by kernel_rfl
end Go.Proofs.YtjiadfblphdchaaGreatDoor
namespace Go.Proofs.YtjiadfblphdchaaGreatDoor
open Go.RowKit
set_option maxRecDepth 100000
def laid15 : List (String × DataW Unit) := ("unicode/utf8.acceptRanges", Rows.laid_unicode_utf8_acceptRanges) :: ("errors.errorType", Rows.laid_errors_errorType) :: (laid12 ++ [("unicode/utf8.first", Rows.laid_unicode_utf8_first)])
theorem glob_of_laidP {W : World} (h : laidMetH Tryz.prog laid15 W) : ∃ r,Glob r W ∧ GlobE W:=by
 have h' : laidMet Tryz.prog (("unicode/utf8.acceptRanges", Rows.laid_unicode_utf8_acceptRanges) :: (laid12 ++ [("unicode/utf8.first", Rows.laid_unicode_utf8_first)])) W ∧ handlesMet Tryz.prog [("errors.errorType", Rows.laid_errors_errorType)] W := h
 obtain ⟨r,hg⟩:=glob_of_laidR h'.1.tail
 refine ⟨r,hg,?_⟩
 obtain ⟨name,u,ty,e1,e2,e3,e4,e5⟩:=h'.2 _ (List.mem_cons_self ..)
 have en : name = [101,114,114,111,114]:=(Option.some.inj e1).symm
 subst en
 obtain rfl:=Option.some.inj (rtypeNo.symm.trans e2)
 have hm : ty ∈ (List.range (388 - 100)).filter fun t => Tryz.prog.rowNamed t [101,114,114,111,114]:=List.mem_filter.2 ⟨List.mem_range.2 (by rw [← typesNo]; exact e3),e4⟩
 rw [oneError] at hm
 obtain rfl:=List.mem_singleton.1 hm
 rw [handleErr] at e5
 simpa [GlobE] using World.var?_cell errorTypeNo e5 0
/-- The witness's world: the door's, and the table that no text lays. -/
noncomputable def doorP (os : Os) : World := (World.doorLaid Tryz.prog 400 os).layVars Tryz.prog [("unicode/utf8.first", Rows.laid_unicode_utf8_first)]
theorem doorP_os (os : Os) : (doorP os).os = os:=World.layVars_os _ _ _
end Go.Proofs.YtjiadfblphdchaaGreatDoor
namespace Go.Proofs.YtjiadfblphdchaaGreatDoor
open Go.ChangeShapes Go.WideShapes Go.ChangeAt Go.RowKit Go.Joins
namespace InverseTellsP
set_option maxRecDepth 100000 in
theorem door_met (os : Os) (args : Array Value) : laidMetH Tryz.prog Rows.inverseTellsRow.laid ((doorP os).forCall (fun _ _ => 0) ⟨#[],args,[]⟩).memory :=
 laidMetH_of_parts3 (fuel:=8) (laidMet_of_run' 8 (by kernel_rfl) (by kernel_rfl)) (by kernel_rfl) (by kernel_rfl)
set_option maxRecDepth 100000 in
theorem lifted (os : Os) (started : os.Started) (H : Type) (enc : TypeId × Value → H) :
 ReturnsInHanded {} Tryz.checked os 3 .any (fun w args => (Rows.inverseTellsSpec.pre enc Tryz.prog Tryz.f3 [] false w args ∧ laidMetH Tryz.prog Rows.inverseTellsRow.laid w) ∧ sizedMet enc Tryz.prog Tryz.f3 (OpenSpec.ofChange Rows.inverseTellsSpec) false w args)
  (Rows.inverseTellsSpec.post enc Tryz.prog Tryz.f3 false true false false):=by
 refine returnsInHanded_of_change_and (C:=Tryz.checked) (X:=fun w _ => laidMetH Tryz.prog Rows.inverseTellsRow.laid w) (fun _ _ _ hh h => h.of_heap hh) own started (by kernel_rfl) Tryz.func3
  (ChangeSpec.witness_shaped (enc:=enc) (C:=Tryz.checked) (os:=os) (X:=fun w _ => laidMetH Tryz.prog Rows.inverseTellsRow.laid w) false (doorP os) #[.agg #[.int .i64 0,.int .i64 0,.slice none 0 0]] 8 (doorP_os _) (World.shaped_of_RefB (by kernel_rfl) (by kernel_rfl)) (by kernel_rfl) (by kernel_rfl) (by kernel_rfl) (door_met os _)) ?_
 intro W base args ds gs before hval0 hW _ hsz hL _
 have hval : ∀ (j : Nat) t v,Tryz.f3.params[j]? = some t → args[j]? = some v → Value.okWide Tryz.prog W .any base t v:=hval0
 have hW':=hW
 obtain ⟨p,q,hA0,hV,rfl,hfz,hnd⟩:=hW
 have hA : DataW.TrodAll enc Tryz.prog W 0 (fun _ => true) true Tryz.f3.params.toList args.toList ds p:=hA0
 rw [Tryz.params3] at hA hval hsz
 obtain ⟨v0,vs0,d0,ds0,p0,q0,hargs,rfl,rfl,g0,t0⟩:=trodAll_cons hA
 obtain ⟨rfl,rfl,rfl⟩:=trodAll_nil t0
 obtain rfl : args = #[v0]:=by cases args; simp_all
 obtain ⟨rfl,rfl⟩:=trodVars_none hV
 have kk0:=g0
 have lt0 : ∀ x ∈ p0,x.block < W.heap.size:=by obtain ⟨m,hm⟩:=kk0; exact DataW.trod_lt m _ _ _ hm
 obtain ⟨kr0,rr0,u0,x0,rfl,h0,l0,b0,bk0,br0⟩:=open_ruleV (hval 0 24 v0 rfl rfl) g0 (fun n hn => by
  have:=List.all_eq_true.1 hsz n (DataW.weights_mem_each (j:=0) (t:=24) rfl rfl n hn)
  simpa using this)
 obtain ⟨r,hg,hG⟩:=glob_of_laidP (W:=W) (by
  exact hL)
 clear hA0 hval0
 refine (inverseTells_any r kr0 rr0 u0 x0 W hg hG h0 (by omega)).mono fun e W' ⟨x,he,bel,hxx⟩ => ?_
 subst he; subst hxx
 exact ⟨_,rfl,_,_,_,[],_,[],hW',trodAll_mk1 (shut_bool Tryz.underlying4 _),(trodAll_cons_mk (Below.trod laidOut (by kernel_rfl) (of_decide_eq_true (by kernel_rfl)) kk0 bel lt0) trodAll_mk0),rfl,bel.frame _,fun h => by cases h⟩
theorem and_t {a b : Bool} (h : a = true) (k : b = true) : (a && b) = true:=by rw [h,k]; rfl
theorem jf_wf : Rows.inverseTellsRow.wf (OpenSpec.ofChange Rows.inverseTellsSpec) = true:=by kernel_rfl
theorem jf_lo : laidOutB Tryz.prog = true:=by kernel_rfl
theorem jf_mr : mapsRowed Tryz.prog = true:=by kernel_rfl
theorem jf_nt : namedTie Tryz.prog Rows.inverseTellsRow.named Rows.inverseTellsSpec.vars = true:=by kernel_rfl
theorem jf_ip : (Rows.inverseTellsRow.inPlace == Tryz.prog.inPlace 3) = true:=by kernel_rfl
theorem jf_uf : (Rows.inverseTellsRow.unfollowed == Tryz.prog.unfollowed 3) = true:=by kernel_rfl
theorem jf_rc : (Rows.inverseTellsRow.recurses == Tryz.prog.recurses 3) = true:=by kernel_rfl
theorem jf_nm : (Rows.inverseTellsRow.named == Tryz.prog.varsNamed 3) = true:=by kernel_rfl
theorem jf_pk : (Rows.inverseTellsRow.plainKeys == Tryz.prog.plainKeys) = true:=by kernel_rfl
theorem jf_sh : Tryz.prog.stopsHeard = true:=by kernel_rfl
theorem jf_me : Tryz.prog.mayEnter = true:=by kernel_rfl
theorem jf_lf : (Rows.inverseTellsRow.lifted == Tryz.prog.liftsFinal) = true:=by kernel_rfl
theorem jf_mk : (Tryz.prog.make == some Rows.inverseTellsRow.make) = true:=by kernel_rfl
theorem joined : joinedFacts Tryz.prog 3 Tryz.f3 Rows.inverseTellsSpec Rows.inverseTellsRow = true:=and_t (and_t (and_t (and_t (and_t (and_t (and_t (and_t (and_t (and_t (and_t (and_t (and_t (and_t (and_t (and_t (and_t (and_t (and_t (and_t (and_t (and_t (and_t (and_t (and_t (and_t (and_t (and_t (and_t (and_t (and_t jf_wf jf_lo) jf_mr) (by kernel_rfl)) jf_nt) (by kernel_rfl)) (by kernel_rfl)) (by kernel_rfl)) (by kernel_rfl)) jf_ip) jf_uf) jf_rc) jf_nm) (by kernel_rfl)) (by kernel_rfl)) (by kernel_rfl)) (by kernel_rfl)) (by kernel_rfl)) (by kernel_rfl)) (by kernel_rfl)) (by kernel_rfl)) (by kernel_rfl)) jf_pk) (by kernel_rfl)) jf_sh) jf_me) jf_lf) jf_mk) (by kernel_rfl)) (by kernel_rfl)) (by kernel_rfl)) (by kernel_rfl)
theorem fnamed : Tryz.prog.funcNamed Rows.inverseTellsRow.func = some 3:=by kernel_rfl
theorem inst : Tryz.f3.isInstance Tryz.prog Rows.inverseTellsRow.origin Rows.inverseTellsRow.targs:=of_decide_eq_true (by kernel_rfl)
theorem wrapd : Tryz.f3.isWrapper Tryz.prog Rows.inverseTellsRow.wrapper Rows.inverseTellsRow.mainSum:=by unfold Func.isWrapper; first | (rw [if_pos (by decide +kernel)]; kernel_rfl) | (rw [if_neg (by decide +kernel)]; exact ⟨rfl,rfl⟩)
theorem over : Rows.InverseTellsSaid :=
 OpenClaim.holds_of_wide 3 Tryz.f3 rfl rfl rfl rfl rfl rfl rfl ⟨rfl,rfl,rfl,rfl,rfl⟩ rfl rfl rfl rfl rfl fnamed Tryz.func3 joined
  inst wrapd
  (fun os started H enc _ => lifted os started H enc)
theorem cw : Rows.inverseTellsRow.wfByText (OpenSpec.ofChange Rows.inverseTellsSpec) = true:=by kernel_rfl
theorem cm : Tryz.prog.mainIs = some (Rows.inverseTellsCard.stood.harness.1,Rows.inverseTellsCard.stood.harness.2.toList):=by kernel_rfl
theorem cl : Rows.inverseTellsCard.stood.looks = Tryz.prog.looks []:=by kernel_rfl
theorem cg : false = Rows.inverseTellsRow.goesBy Tryz.prog:=by kernel_rfl
theorem cs : ([24].all fun u => !Tryz.prog.wantsStandIn u) = true:=by kernel_rfl
/-- The tied card. -/
theorem card_holds : Rows.InverseTellsCardSaid :=
 Claim7.holds_tied_plain_at .later [] [.data,.handle,.sentinel,.sentinel,.sentinel,.sentinel,.sentinel,.sentinel,.sentinel,.sentinel,.sentinel,.sentinel,.sentinel,.sentinel,.pinned] true _ _
  over (fun _ h => by cases h) cw (fun _ h => by cases h) inverseTells_row_tie rfl ⟨rfl,rfl⟩ cm rfl
  (fun f fn hf hfn => by
    obtain rfl : f = 3:=Option.some.inj (fnamed.symm.trans hf) |>.symm
    obtain rfl : fn = Tryz.f3:=(Option.some.inj (Tryz.func3.symm.trans hfn)).symm
    exact ⟨cl,fun j t ht => by
     rw [Tryz.params3] at ht
     have hm : t ∈ [24]:=by simpa using Array.mem_of_getElem? ht
     exact (show Tryz.prog.wantsStandIn t = false by simpa using List.all_eq_true.1 cs t hm)⟩)
  cg
end InverseTellsP
#print axioms InverseTellsP.card_holds
end Go.Proofs.YtjiadfblphdchaaGreatDoor
