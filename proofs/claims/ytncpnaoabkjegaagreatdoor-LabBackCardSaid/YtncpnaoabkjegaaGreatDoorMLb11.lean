/-
  Proved: the law edenlaw26.LabBack as its tied card: it returns true and never panics, for any rule. No conditions beyond the card's own.
  Walks: inverse.find, inverse.Rule, inverse.Radius.
  Walks: inverse.Rule, inverse.Radius: their answers as data.
  Walks: additive.Of.
  Walk: lab.Look at a small rule.
  Plain mathematics of layer 20: the inverse is the only one of its radius, is as narrow as can be, and has the rule as its inverse.
  Plain mathematics: the garden of Eden theorem: a rule that is onto has no twins (the other way is onto_of_no_twins).
  Plain mathematics of layer 26: the inverse's radius, the orphans and the sums of a mirrored rule.
  Plain mathematics of layer 19: a rule that permutes at one side has no twins and is onto; one that permutes at both sides is not one to one.
  Walks: lab.Look at a rule that is refused; lab.Kind; edenlaw26.heavy, same, awake.
  What is known of a rule whose inverse is found.
  Walk: edenlaw26.LabBack returns true.
  Opening what a call is handed: []int, api.Rule, the package-level errors.
  From a card's list of laid variables that holds the handle of the type error: the package errors and errors.errorType.
-/
import Derived.Test.YtncpnaoabkjegaaGreatDoorMLb10
import Derived.Deep.RegionWith
import Derived.Deep.CutBlock
import Derived.Test.YtncpnaoabkjegaaGreatDoorRows
import Derived.ProofKit
import Derived.OpenShut
import Derived.ShutString
import Derived.ChangeOld
import Derived.LaidMore
import Derived.Stop.Joined
import Derived.Stop.LaidErr
import Derived.Lib.SmallJoins
import Derived.LaidHandle
import Derived.Test.YtncpnaoabkjegaaGreatDoorCards
import Derived.Test.YtncpnaoabkjegaaGreatDoorTie
import Derived.SevenTiedAt
namespace Go.Proofs.YtncpnaoabkjegaaGreatDoor
open Go.RowKit
set_option maxRecDepth 100000
def sInverse : ByteArray:=⟨#[105,110,118,101,114,115,101]⟩
theorem inverse_wrong (r : Nat → Addr) (at_ n : Int) (w : World) (hg : Glob r w) (h1 : 1 ≤ n) (h2 : n ≤ 11) :
 Calls Tryz.prog 153 #[.int .i64 at_,.int .i64 n] w (Ret1 (fun v w' => ErrIs r w' (fresh sInverse at_ n) v) w):=by
 go_enter Tryz.func153,Tryz.ntmps153
 go_wp2_with fail
 refine (new_any r _ at_ n w hg h1 h2).mono ?_
 rintro e w' ⟨v,rfl,hb,he⟩
 go_wp2
 go_ret
 exact ⟨_,rfl,hb,he⟩
theorem OwnI.open {B : Nat} {w : World} {v : Value} {xs : List Int} (h : OwnI B w v xs) (hne : xs ≠ []) : ∃ g n c,v = .slice (some ⟨g,0,none⟩) n c ∧ B ≤ g ∧ g < w.heap.size:=by
 rcases h.2 with ⟨_,hn⟩ | ⟨g,cap,cur,e,hb,hg,_⟩
 ·exact absurd (List.length_eq_zero_iff.1 hn) hne
 ·exact ⟨g,_,_,e,hb,(Array.getElem?_eq_some_iff.1 hg).1⟩
/-- What find leaves at a small rule. -/
def FindPost (r : Nat → Addr) (w : World) (K R : Nat) (T : List Int) (x y : Value) (w' : World) : Prop :=
 (NotOne K R T ∧ x = zR ∧ ErrIs r w' (fresh sInverse 0 9) y) ∨ (¬ NotOne K R T ∧ findP K R T = none ∧ x = zR ∧ ErrIs r w' (fresh sInverse 0 4) y) ∨
   (¬ NotOne K R T ∧ ∃ d S a n c,findP K R T = some (d,S) ∧ y = .nilIface ∧ x = .agg #[.int .i64 K,.int .i64 ((d : Nat) : Int),.slice a n c] ∧ OwnI w.heap.size w' (.slice a n c) S)
set_option maxHeartbeats 1000000 in
theorem find_bad (r : Nat → Addr) (k R : Int) (va : Option Addr) (vn vc : Nat) (T : List Int) (t : Int × List (ByteArray × Int)) (w : World) (hg : Glob r w) (h : IntsAt w (.slice va vn vc) T) (hc : smallP k R T = some t) :
 Calls Tryz.prog 72 #[.agg #[.int .i64 k,.int .i64 R,.slice va vn vc]] w (Ret2 (fun x y w' => x = zR ∧ ErrIs r w' (under sInverse 0 (under sInject 0 (under sPairs 0 (some t)))) y) w):=by
 have b0:=Below.step (belowAlloc w (.cells #[.int .i64 k,.int .i64 R,.slice va vn vc] 24)) (belowAlloc _ (.cells #[.int .i64 0,.int .i64 0,.slice none 0 0] 24))
 have qz : Box3 ((w.alloc (.cells #[.int .i64 k,.int .i64 R,.slice va vn vc] 24)).alloc (.cells #[.int .i64 0,.int .i64 0,.slice none 0 0] 24)) (w.heap.size + 1) (.int .i64 0) (.int .i64 0) (.slice none 0 0):=by simp [Box3,go_sem]
 replace hg:=Hd (hg.below b0)
 replace h:=Hd (h.below b0)
 replace hc:=Hd hc
 go_enter Tryz.func72,Tryz.ntmps72
 go_wp2_with fail
 refine (one_bad r k R va vn vc T t _ hg.out h.out hc.out).mono ?_
 rintro e w1 ⟨_,_,_,y,rfl,b1,rfl,rfl,rfl,hy⟩
 have hy':=hy
 obtain ⟨T2,a2,rfl⟩ : ∃ T a,y = .iface T (.pointer (some a)):=by
  unfold under at hy'
  exact ErrIs.some_shape hy'
 have b2:=Below.step b1 (Below.step (belowAlloc w1 (.cells #[.int .i64 0,.slice none 0 0,.slice none 0 0,.slice none 0 0] 36)) (belowAlloc _ (.cells #[.int .i64 0,.slice none 0 0,.slice none 0 0,.slice none 0 0] 36)))
 have hy2:=hy.below (Below.step (belowAlloc w1 (.cells #[.int .i64 0,.slice none 0 0,.slice none 0 0,.slice none 0 0] 36)) (belowAlloc _ (.cells #[.int .i64 0,.slice none 0 0,.slice none 0 0,.slice none 0 0] 36)))
 replace hy:=Hd hy
 replace hy2:=Hd hy2
 go_wp2_with fail
 refine (under_any r _ _ _ _ _ hy2.out).mono ?_
 rintro e w3 ⟨u,rfl,b3,hu⟩
 have hu':=hu
 obtain ⟨T3,a3,rfl⟩ : ∃ T a,u = .iface T (.pointer (some a)):=by
  unfold under at hu'
  exact ErrIs.some_shape hu'
 have bE:=Below.step b0 (Below.step b2 b3)
 obtain ⟨⟨y0,y1,y2⟩,-,-,-⟩:=qz.below (Below.step b2 b3)
 obtain ⟨-,f0,f1,f2⟩:=qz.below (Below.step b2 b3)
 replace hu:=Hd hu
 clear hu'
 go_wp2
 rw [setCell_self3 y0 y1 y2]
 exact bodyPost_ret (v:=.tuple #[zR,.iface T3 (.pointer (some a3))]) (by simp [results,Tryz.results72,go_sem,y0,y1,y2]) rfl ⟨_,_,rfl,bE,rfl,hu.out⟩
theorem findF_succ (K R : Nat) (T : List Int) (m e : Nat) : findF K R T (m + 1) e = if (tryF K R T e).1 = true then some (e,(tryF K R T e).2) else findF K R T m (e + 1):=rfl
/-- A table of one's own that is being laid out. -/
theorem minus_step (j n : Nat) (h : j < n) : (List.replicate j (-1 : Int) ++ List.replicate (n - j) 0).set j (-1) = List.replicate (j + 1) (-1) ++ List.replicate (n - (j + 1)) 0:=by
 rw [show n - j = (n - (j + 1)) + 1 by omega,List.replicate_succ,List.set_append_right _ _ (by simp),List.length_replicate,Nat.sub_self,List.set_cons_zero,List.replicate_succ',List.append_assoc]
 rfl
set_option maxHeartbeats 3000000 in
theorem find_ok (r : Nat → Addr) (K R : Nat) (va : Option Addr) (vn vc : Nat) (T : List Int) (w : World) (hg : Glob r w) (h : IntsAt w (.slice va vn vc) T) (hr : RuleOk K R T) (hl : T.length ≤ 256) :
 Calls Tryz.prog 72 #[.agg #[.int .i64 K,.int .i64 R,.slice va vn vc]] w (Ret2 (FindPost r w K R T) w):=by
 have b0:=Below.step (belowAlloc w (.cells #[.int .i64 K,.int .i64 R,.slice va vn vc] 24)) (belowAlloc _ (.cells #[.int .i64 0,.int .i64 0,.slice none 0 0] 24))
 have q:=(show Box3 ((w.alloc (.cells #[.int .i64 K,.int .i64 R,.slice va vn vc] 24)).alloc (.cells #[.int .i64 0,.int .i64 0,.slice none 0 0] 24)) w.heap.size (.int .i64 K) (.int .i64 R) (.slice va vn vc) by simp [Box3,go_sem])
 have qz:=(show Box3 ((w.alloc (.cells #[.int .i64 K,.int .i64 R,.slice va vn vc] 24)).alloc (.cells #[.int .i64 0,.int .i64 0,.slice none 0 0] 24)) (w.heap.size + 1) (.int .i64 0) (.int .i64 0) (.slice none 0 0) by simp [Box3,go_sem])
 have hk1:=hr.k1
 have hk4:=hr.k4
 have hblk0:=fun i hi => h.blk i hi
 have hs0 : ((w.alloc (.cells #[.int .i64 K,.int .i64 R,.slice va vn vc] 24)).alloc (.cells #[.int .i64 0,.int .i64 0,.slice none 0 0] 24)).heap.size = w.heap.size + 2:=by simp
 replace hg:=Hd (hg.below b0)
 replace h:=Hd (h.below b0)
 replace hr:=Hd hr
 replace hl:=Hd hl
 replace hblk0:=Hd hblk0
 obtain ⟨W0,hW0⟩ : ∃ W0 : World,(w.alloc (.cells #[.int .i64 K,.int .i64 R,.slice va vn vc] 24)).alloc (.cells #[.int .i64 0,.int .i64 0,.slice none 0 0] 24) = W0:=⟨_,rfl⟩
 rw [hW0] at b0 q qz hs0 hg h
 go_enter Tryz.func72,Tryz.ntmps72
 obtain ⟨⟨z0,z1,z2⟩,-,-,-⟩:=id q
 go_upto_region 1 with fail
 replace hW0:=Hd hW0
 go_wp2_with fail
 refine (one_ok r K R va vn vc T _ hg.out h.out hr.out hl.out).mono ?_
 rintro e w1 ⟨_,_,_,_,rfl,b1,hp⟩
 obtain ⟨rfl,Y,rfl,hY,a1,n1,c1,a2,n2,c2,a3,n3,c3,a4,n4,c4,a5,n5,c5,a6,n6,c6,rfl,rfl⟩:=hp.ans
 have b2:=Below.step b1 (Below.step (belowAlloc w1 (.cells #[.int .i64 0,.slice a1 n1 c1,.slice a2 n2 c2,.slice a3 n3 c3] 36)) (belowAlloc _ (.cells #[.int .i64 0,.slice a4 n4 c4,.slice a5 n5 c5,.slice a6 n6 c6] 36)))
 obtain ⟨w2,hw2⟩ : ∃ W : World,(w1.alloc (.cells #[.int .i64 0,.slice a1 n1 c1,.slice a2 n2 c2,.slice a3 n3 c3] 36)).alloc (.cells #[.int .i64 0,.slice a4 n4 c4,.slice a5 n5 c5,.slice a6 n6 c6] 36) = W:=⟨_,rfl⟩
 rw [hw2] at b2
 have q2:=q.below b2
 have qz2:=qz.below b2
 have hg2:=hg.out.below b2
 have h2:=h.out.below b2
 have bw2:=Below.step b0 b2
 have hs2 : w.heap.size + 2 ≤ w2.heap.size:=by rw [← hs0]; exact b2.size
 replace hg2:=Hd hg2
 replace h2:=Hd h2
 clear hp z0 z1 z2
 cases Y with
 | false =>
  have hno : NotOne K R T:=Classical.byContradiction fun hc => by have:=hY.2 hc; cases this
  go_upto_region 4 with fail
  replace hw2:=Hd hw2
  go_wp2_with fail
  refine (inverse_wrong r _ _ _ hg2.out (by decide) (by decide)).mono ?_
  rintro e w3 ⟨u,rfl,b3,hu⟩
  obtain ⟨T3,a3,rfl⟩:=ErrIs.some_shape hu
  obtain ⟨⟨y0,y1,y2⟩,f0,f1,f2⟩:=qz2.below b3
  have bE:=Below.step bw2 b3
  replace hu:=Hd hu
  replace hY:=Hd hY
  go_wp2
  rw [setCell_self3 y0 y1 y2]
  exact bodyPost_ret (v:=.tuple #[zR,.iface T3 (.pointer (some a3))]) (by simp [results,Tryz.results72,go_sem,y0,y1,y2]) rfl ⟨_,_,rfl,bE,.inl ⟨hno,rfl,hu.out⟩⟩
 | true =>
  have hone : ¬ NotOne K R T:=hY.1 rfl
  replace hone:=Hd hone
  clear hY
  go_upto_region 4 with fail
  replace hw2:=Hd hw2
  go_wp2_with fail
  go_loopw [29] (fun iv wr => ∃ e : Nat,e ≤ 4 ∧ iv = .int .i64 e ∧ findP K R T = findF K R T (4 - e) e ∧ Below w2.heap.size w2 wr) (fun iv _ => 4 - (intOf iv).toNat)
  case atStart => exact ⟨0,by omega,rfl,rfl,Below.refl _ _⟩
  case round =>
   obtain ⟨e,he,rfl,hfp,hB⟩:=hrel
   obtain ⟨wo,rfl⟩ : ∃ wo : World,wo = wr:=⟨_,rfl⟩
   by_cases he4 : e < 4
   ·have de : decide ((e : Int) < 4) = true:=decide_eq_true (by omega)
    obtain ⟨⟨z0,z1,z2⟩,-,-,-⟩:=q2.below hB
    replace hfp:=Hd hfp
    go_wp2_with fail
    refine (size_ok K e wo hk1 hk4 (by omega)).mono ?_
    rintro e' w' ⟨rfl,rfl⟩
    obtain ⟨n,hn⟩ : ∃ n,pw K (2 * e + 1) = n:=⟨_,rfl⟩
    have hn1 : 1 ≤ n:=by rw [← hn]; exact pw_pos _ hk1
    have hnb : n ≤ 16384:=by rw [← hn]; exact pw_le hk1 hk4 (by omega)
    rw [hn]
    replace hn:=Hd hn
    go_upto_region 10 with fail
    refine wp_region_plan (fun w' => w'.cell? ⟨w.heap.size,0,none⟩ = some (.int .i64 K) ∧ w'.cell? ⟨w.heap.size,1,none⟩ = some (.int .i64 R) ∧ w'.cell? ⟨w.heap.size,2,none⟩ = some (.slice va vn vc)) 6 [(0,true),(1,true),(2,true),(3,false),(4,true),(5,false)] (by kernel_rfl) (by kernel_rfl) ?_
    obtain ⟨W1,hW1⟩ : ∃ W' : World,wo.drew = W':=⟨_,rfl⟩
    have bd : Below wo.heap.size wo W1:=by rw [← hW1]; exact (Below.refl _ _).drew
    have bB1:=Below.step hB bd
    rw [hW1]
    replace hW1:=Hd hW1
    have hS1:=(q2.below bB1).1
    refine pqY 39 hS1 ?_
    refine pqY 40 hS1 ?_
    refine pqY 41 hS1 ?_
    obtain ⟨tv,w3,mk,ho3,b3⟩:=run_makeI (n : Int) n W1 rfl (by omega)
    have bB3:=Below.step bB1 b3
    have hS3:=(q2.below bB3).1
    refine headC rfl (fun KK hK => ?_)
    go_simp
    refine hK _ _ hS3 ?_
    clear hK KK mk
    obtain ⟨tb,tn,tc,rfl,htb1,htb2⟩:=ho3.open (by intro e; have:=congrArg List.length e; simp at this; omega)
    refine pqY 43 hS3 ?_
    have ba:=belowAlloc w3 (.cells #[.int .i64 K,.int .i64 R,.slice va vn vc,.int .i64 e,.slice (some ⟨tb,0,none⟩) tn tc] 209)
    have bB4:=Below.step bB3 ba
    have hS4:=(q2.below bB4).1
    have hbox : GBox (w3.alloc (.cells #[.int .i64 K,.int .i64 R,.slice va vn vc,.int .i64 e,.slice (some ⟨tb,0,none⟩) tn tc] 209)) w3.heap.size K R (.slice va vn vc) e (.slice (some ⟨tb,0,none⟩) tn tc):=by
     refine ⟨?_,?_,?_,?_,?_⟩ <;> simp [go_sem]
    have ho4:=ho3.below ba
    obtain ⟨W4,hW4⟩ : ∃ W' : World,w3.alloc (.cells #[.int .i64 K,.int .i64 R,.slice va vn vc,.int .i64 e,.slice (some ⟨tb,0,none⟩) tn tc] 209) = W':=⟨_,rfl⟩
    rw [hW4] at ba bB4 hS4 hbox ho4
    obtain ⟨G,hG⟩ : ∃ G,w3.heap.size = G:=⟨_,rfl⟩
    rw [hG] at hbox htb2
    have hGt : G ≠ tb:=by omega
    refine headC rfl (fun KK hK => ?_)
    go_simp
    refine hK _ _ hS4 ?_
    clear hK KK hS1 hS3 hS4 z0 z1 z2
    refine head0 ?_
    simp only [List.drop_succ_cons,List.drop_zero]
    replace hW4:=Hd hW4
    have sB1:=bB1.size
    have hoff : ∀ i,i < T.length → (valAt (.slice va vn vc) i).block ≠ tb:=fun i hi => by
     have:=hblk0.out i hi
     omega
    have hT4:=h2.out.below bB4
    have q4:=q2.below bB4
    have lz:=ho4.at.len
    rw [List.length_replicate] at lz
    have z4:=hbox.c4
    replace hbox:=Hd hbox
    replace ho3:=Hd ho3
    replace ho4:=Hd ho4
    replace hT4:=Hd hT4
    replace hoff:=Hd hoff
    replace hG:=Hd hG
    go_wp2
    refine NoPanic.normal ?_
    go_wp2_with fail
    clear z4
    go_loopw [50] (fun jv wr => ∃ j : Nat,j ≤ n ∧ jv = .int .i64 j ∧ OwnI W1.heap.size wr (.slice (some ⟨tb,0,none⟩) tn tc) (List.replicate j (-1) ++ List.replicate (n - j) 0) ∧ W4.grownBy wr (some tb)) (fun jv _ => n - (intOf jv).toNat)
    case atStart => exact ⟨0,Nat.zero_le _,rfl,by simpa using ho4.out,World.grownBy.refl _ _⟩
    case round =>
     obtain ⟨j,hj,rfl,hO,hGr⟩:=hrel
     obtain ⟨wi,rfl⟩ : ∃ wo : World,wo = wr:=⟨_,rfl⟩
     have hb4:=(hbox.out.kept hGr hGt)
     have z4:=hb4.c4
     by_cases hjn : j < n
     ·have dj : decide ((j : Int) < (n : Int)) = true:=decide_eq_true (by omega)
      have hOl : (List.replicate j (-1 : Int) ++ List.replicate (n - j) 0).length = n:=by simp; omega
      have iO:=fun w' => hO.at.idx j (by rw [hOl]; exact hjn) w'
      have fO:=hO.frz j (by rw [hOl]; exact hjn)
      obtain ⟨c0,cO⟩ : ∃ z,wi.cell? (valAt (.slice (some ⟨tb,0,none⟩) tn tc) j) = some z:=⟨_,hO.at.cell j (by rw [hOl]; exact hjn)⟩
      have hset:=hO.set j (by rw [hOl]; exact hjn) (-1)
      rw [minus_step j n hjn] at hset
      have hgr:=setCell_grown (w:=wi) (v:=.slice (some ⟨tb,0,none⟩) tn tc) (i:=j) rfl (.int .i64 (-1))
      have hgr2:=hGr.trans hgr
      obtain ⟨p,hp⟩ : ∃ p,valAt (.slice (some ⟨tb,0,none⟩) tn tc) j = p:=⟨_,rfl⟩
      rw [hp] at iO fO cO hset hgr2
      replace hset:=Hd hset
      replace hgr2:=Hd hgr2
      replace hO:=Hd hO
      replace hb4:=Hd hb4
      replace hp:=Hd hp
      replace hOl:=Hd hOl
      clear hgr
      go_wp2
      go_roundw
      case measure => simp [intOf]; omega
      case rel => exact ⟨j + 1,by omega,by go_num,hset.out,hgr2.out⟩
     ·obtain rfl : j = n:=by omega
      have dj : decide ((j : Int) < (j : Int)) = false:=decide_eq_false (by omega)
      rw [Nat.sub_self,List.replicate_zero,List.append_nil] at hO
      have hfill:=fill_any K R e G tb tn tc W1.heap.size va vn vc T hr.out hl.out (by omega) hGt hoff.out (2 * (R + e) + 1) 0 0 0 0 wi _ (by omega) (FillOk.zero hr.out) (by omega) hb4 (hT4.out.grown hGr hoff.out) hO (by rw [List.length_replicate,← hn.out])
      rw [← hn.out,show fillF K R (2 * (R + e) + 1) T (2 * (R + e) + 1) 0 0 0 (List.replicate (pw K (2 * e + 1)) (-1)) = tryF K R T e from rfl,show ((0 : Nat) : Int) = 0 from rfl] at hfill
      obtain ⟨X,hX⟩ : ∃ X,tryF K R T e = X:=⟨_,rfl⟩
      rw [hX] at hfill
      have hfs : findF K R T (4 - e) e = if X.1 = true then some (e,X.2) else findF K R T (4 - (e + 1)) (e + 1):=by
       rw [show 4 - e = (4 - (e + 1)) + 1 by omega,findF_succ,hX]
      have sW4:=bB4.size
      replace hfill:=Hd hfill
      replace hO:=Hd hO
      replace hb4:=Hd hb4
      replace hfs:=Hd hfs
      replace hX:=Hd hX
      go_wp2_with fail
      refine hfill.out.mono ?_
      rintro e' w5 ⟨rfl,hO5,hg5⟩
      have hG5:=hGr.trans hg5
      have b5 : Below w2.heap.size w2 w5:=bB4.grown hG5 sW4 (fun k hk => by cases hk; omega)
      have hb5:=hbox.out.kept hG5 hGt
      obtain ⟨X1,X2⟩:=X
      have qE:=q2.below b5
      have qzE:=qz2.below b5
      cases X1 with
      | false =>
       replace hO5:=Hd hO5
       replace hb5:=Hd hb5
       clear z4
       go_wp2
       go_roundw
       case measure => simp [intOf]; omega
       case rel => exact ⟨e + 1,by omega,by go_num,by rw [hfp.out,hfs.out]; rfl,b5⟩
      | true =>
       clear z4
       have hO5':=Hd hO5
       clear hO5
       have hb54:=hb5.c4
       replace hb5:=Hd hb5
       go_upto_region 17 with fail
       refine wp_region_plan (fun w' => w'.cell? ⟨w.heap.size,0,none⟩ = some (.int .i64 K) ∧ w'.cell? ⟨G,4,none⟩ = some (.slice (some ⟨tb,0,none⟩) tn tc)) 8 [(0,true),(1,true),(2,true),(3,true),(4,true),(5,true),(6,true),(7,true)] (by kernel_rfl) (by kernel_rfl) ?_
       obtain ⟨W6,hW6⟩ : ∃ W' : World,w5.drew = W':=⟨_,rfl⟩
       have bd6 : Below w5.heap.size w5 W6:=by rw [← hW6]; exact (Below.refl _ _).drew
       have hS6 : W6.cell? ⟨w.heap.size,0,none⟩ = some (.int .i64 K) ∧ W6.cell? ⟨G,4,none⟩ = some (.slice (some ⟨tb,0,none⟩) tn tc):=by rw [← hW6]; exact ⟨qE.1.1,hb54⟩
       have hO6 : OwnI W1.heap.size W6 (.slice (some ⟨tb,0,none⟩) tn tc) X2:=by rw [← hW6]; exact hO5'.out
       rw [hW6]
       replace hW6:=Hd hW6
       have b6:=Below.step b5 bd6
       obtain ⟨⟨y0,y1,y2⟩,f0,f1,f2⟩:=qz2.below b6
       have bE:=Below.step bw2 b6
       refine pqY 62 hS6 ?_
       refine pqY 63 hS6 ?_
       refine pqY 64 hS6 ?_
       refine pqY 65 hS6 ?_
       refine pqY 66 hS6 ?_
       refine pqY 67 hS6 ?_
       refine pqY 68 hS6 ?_
       refine pqY 69 hS6 ?_
       refine head0 ?_
       simp only [List.drop_succ_cons,List.drop_zero]
       clear hS6 hb54
       replace hO6:=Hd hO6
       go_wp2
       refine NoPanic.normal ?_
       go_wp2
       refine bodyPost_ret (v:=.tuple #[.agg #[.int .i64 K,.int .i64 e,.slice (some ⟨tb,0,none⟩) tn tc],.nilIface]) (by simp [results,Tryz.results72,go_sem,y0,y1,y2]) rfl ⟨_,_,rfl,below_set3 bE (Nat.le_succ _) _ _ _,.inr (.inr ⟨hone.out,e,X2,_,_,_,by rw [hfp.out,hfs.out]; rfl,rfl,rfl,(hO6.out.set3 (b:=w.heap.size + 1) (by omega) _ _ _).mono (by omega)⟩)⟩
   ·obtain rfl : e = 4:=by omega
    have de : decide (((4 : Nat) : Int) < 4) = false:=by decide
    have hnone : findP K R T = none:=by rw [hfp]; rfl
    replace hfp:=Hd hfp
    replace hnone:=Hd hnone
    go_wp2_with fail
    refine (inverse_wrong r _ _ _ (hg2.out.below hB) (by decide) (by decide)).mono ?_
    rintro e' w3 ⟨u,rfl,b3,hu⟩
    obtain ⟨T3,a3,rfl⟩:=ErrIs.some_shape hu
    obtain ⟨⟨y0,y1,y2⟩,f0,f1,f2⟩:=qz2.below (Below.step hB b3)
    have bE:=Below.step bw2 (Below.step hB b3)
    replace hu:=Hd hu
    go_wp2
    rw [setCell_self3 y0 y1 y2]
    exact bodyPost_ret (v:=.tuple #[zR,.iface T3 (.pointer (some a3))]) (by simp [results,Tryz.results72,go_sem,y0,y1,y2]) rfl ⟨_,_,rfl,bE,.inr (.inl ⟨hone.out,hnone.out,rfl,hu.out⟩)⟩
/-- What inverse.find tells. -/
noncomputable def invE (k R : Int) (T : List Int) : PErr:=open Classical in
 match smallP k R T with
 | some t => under sInverse 0 (under sInject 0 (under sPairs 0 (some t)))
 | none => if NotOne k.toNat R.toNat T then fresh sInverse 0 9 else match findP k.toNat R.toNat T with
  | none => fresh sInverse 0 4
  | some _ => none
/-- The inverse that is found. -/
def InvIs (B : Nat) (w : World) (k R : Int) (T : List Int) (x : Value) : Prop :=
 (invE k R T = none → ∃ d S a n c,findP k.toNat R.toNat T = some (d,S) ∧ x = .agg #[.int .i64 k,.int .i64 ((d : Nat) : Int),.slice a n c] ∧ OwnI B w (.slice a n c) S) ∧ (invE k R T ≠ none → x = zR)
theorem invE_bad {k R : Int} {T : List Int} {t : Int × List (ByteArray × Int)} (h : smallP k R T = some t) : invE k R T = under sInverse 0 (under sInject 0 (under sPairs 0 (some t))):=by unfold invE; rw [h]
theorem smallP_of {k R : Int} {T : List Int} (h : smallP k R T = none) : ∃ K Q : Nat,k = K ∧ R = Q ∧ RuleOk K Q T ∧ T.length ≤ 256:=by
 obtain ⟨hck,hl⟩:=smallP_none h
 obtain ⟨K,Q,h1,h2,hr⟩:=checkP_none hck
 exact ⟨K,Q,h1,h2,hr,hl⟩
theorem invE_ok {K Q : Nat} {T : List Int} (hr : RuleOk K Q T) (hl : T.length ≤ 256) : (NotOne K Q T → invE K Q T = fresh sInverse 0 9) ∧ (¬ NotOne K Q T → findP K Q T = none → invE K Q T = fresh sInverse 0 4) ∧ (¬ NotOne K Q T → findP K Q T ≠ none → invE K Q T = none):=by
 have hsm : smallP K Q T = none:=by rw [smallP_ok hr,if_neg (by omega)]
 refine ⟨fun h => ?_,fun h hf => ?_,fun h hf => ?_⟩
 ·unfold invE; rw [hsm]; simp only [Int.toNat_natCast]; rw [if_pos h]
 ·unfold invE; rw [hsm]; simp only [Int.toNat_natCast]; rw [if_neg h,hf]
 ·unfold invE; rw [hsm]; simp only [Int.toNat_natCast]; rw [if_neg h]
  cases hq : findP K Q T with
  | none => exact absurd hq hf
  | some _ => rfl
theorem find_any (r : Nat → Addr) (k R : Int) (va : Option Addr) (vn vc : Nat) (T : List Int) (w : World) (hg : Glob r w) (h : IntsAt w (.slice va vn vc) T) :
 Calls Tryz.prog 72 #[.agg #[.int .i64 k,.int .i64 R,.slice va vn vc]] w (Ret2 (fun x y w' => ErrIs r w' (invE k R T) y ∧ InvIs w.heap.size w' k R T x) w):=by
 cases hc : smallP k R T with
 | some t =>
  have e:=invE_bad hc
  refine (find_bad r k R va vn vc T t w hg h hc).mono ?_
  rintro e1 w' ⟨x,y,he,hb,hx,hy⟩
  exact ⟨x,y,he,hb,by rw [e]; exact hy,fun q => (by rw [e] at q; cases q),fun _ => hx⟩
 | none =>
  obtain ⟨K,Q,rfl,rfl,hr,hl⟩:=smallP_of hc
  obtain ⟨i1,i2,i3⟩:=invE_ok hr hl
  refine (find_ok r K Q va vn vc T w hg h hr hl).mono ?_
  rintro e1 w' ⟨x,y,he,hb,hp⟩
  refine ⟨x,y,he,hb,?_⟩
  rcases hp with ⟨h1,hx,hy⟩ | ⟨h1,h2,hx,hy⟩ | ⟨h1,d,S,a,n,c,hf,hy,hx,ho⟩
  ·rw [i1 h1]; exact ⟨hy,fun q => (by rw [i1 h1] at q; cases q),fun _ => hx⟩
  ·rw [i2 h1 h2]; exact ⟨hy,fun q => (by rw [i2 h1 h2] at q; cases q),fun _ => hx⟩
  ·have e:=i3 h1 (by rw [hf]; simp)
   rw [e]
   exact ⟨hy,fun _ => ⟨d,S,a,n,c,by rw [Int.toNat_natCast,Int.toNat_natCast]; exact hf,hx,ho⟩,fun q => absurd e q⟩
/-- A rule's value, an error's. -/
theorem InvIs.shape {B : Nat} {w : World} {k R : Int} {T : List Int} {x : Value} (h : InvIs B w k R T x) : ∃ k' q a n c,x = .agg #[.int .i64 k',.int .i64 q,.slice a n c]:=by
 by_cases e : invE k R T = none
 ·obtain ⟨d,S,a,n,c,_,hx,_⟩:=h.1 e
  exact ⟨_,_,_,_,_,hx⟩
 ·exact ⟨0,0,none,0,0,h.2 e⟩
theorem InvIs.set3 {B b : Nat} {w : World} {k R : Int} {T : List Int} {x : Value} (h : InvIs B w k R T x) (hb : b < B) (x0 x1 x2 : Value) : InvIs B (((w.setCell ⟨b,0,none⟩ x0).setCell ⟨b,1,none⟩ x1).setCell ⟨b,2,none⟩ x2) k R T x :=
 ⟨fun e => by
   obtain ⟨d,S,a,n,c,hf,hx,ho⟩:=h.1 e
   exact ⟨d,S,a,n,c,hf,hx,ho.set3 hb _ _ _⟩,h.2⟩
theorem InvIs.mono {B B' : Nat} {w : World} {k R : Int} {T : List Int} {x : Value} (h : InvIs B w k R T x) (hb : B' ≤ B) : InvIs B' w k R T x :=
 ⟨fun e => by
   obtain ⟨d,S,a,n,c,hf,hx,ho⟩:=h.1 e
   exact ⟨d,S,a,n,c,hf,hx,ho.mono hb⟩,h.2⟩
theorem ErrIs.open2 {r : Nat → Addr} {w : World} {t : PErr} {v : Value} (h : ErrIs r w t v) : v = .nilIface ∨ ∃ T a,v = .iface T (.pointer (some a)):=by
 cases t with
 | none => exact .inl h.none_eq
 | some t => exact .inr h.some_shape
set_option maxHeartbeats 1000000 in
theorem inv_rule (r : Nat → Addr) (k R : Int) (va : Option Addr) (vn vc : Nat) (T : List Int) (w : World) (hg : Glob r w) (h : IntsAt w (.slice va vn vc) T) :
 Calls Tryz.prog 30 #[.agg #[.int .i64 k,.int .i64 R,.slice va vn vc]] w (Ret2 (fun x y w' => ErrIs r w' (invE k R T) y ∧ InvIs w.heap.size w' k R T x) w):=by
 have b0:=Below.step (belowAlloc w (.cells #[.int .i64 k,.int .i64 R,.slice va vn vc] 24)) (belowAlloc _ (.cells #[.int .i64 0,.int .i64 0,.slice none 0 0] 24))
 have qz : Box3 ((w.alloc (.cells #[.int .i64 k,.int .i64 R,.slice va vn vc] 24)).alloc (.cells #[.int .i64 0,.int .i64 0,.slice none 0 0] 24)) (w.heap.size + 1) (.int .i64 0) (.int .i64 0) (.slice none 0 0):=by simp [Box3,go_sem]
 have hs0 : ((w.alloc (.cells #[.int .i64 k,.int .i64 R,.slice va vn vc] 24)).alloc (.cells #[.int .i64 0,.int .i64 0,.slice none 0 0] 24)).heap.size = w.heap.size + 2:=by simp
 replace hg:=Hd (hg.below b0)
 replace h:=Hd (h.below b0)
 go_enter Tryz.func30,Tryz.ntmps30
 go_wp2_with fail
 refine (find_any r k R va vn vc T _ hg.out h.out).mono ?_
 rintro e w1 ⟨x,y,rfl,b1,hy,hx⟩
 obtain ⟨k',q',a,n,c,rfl⟩:=hx.shape
 have hq:=qz.below b1
 obtain ⟨⟨y0,y1,y2⟩,f0,f1,f2⟩:=id hq
 have bE:=Below.step b0 b1
 have hx2:=(hx.set3 (b:=w.heap.size + 1) (by rw [hs0]; omega) (.int .i64 k') (.int .i64 q') (.slice a n c)).mono (show w.heap.size ≤ _ by rw [hs0]; omega)
 have hy2:=hy.st3 hq (fun s => by simp) (.int .i64 k') (.int .i64 q') (.slice a n c) (fun s => by simp)
 have hr2:=below_set3 bE (Nat.le_succ w.heap.size) (.int .i64 k') (.int .i64 q') (.slice a n c)
 replace hx:=Hd hx
 replace hx2:=Hd hx2
 replace hy:=Hd hy
 replace hy2:=Hd hy2
 rcases hy.out.open2 with rfl | ⟨T3,a3,rfl⟩
 ·go_wp2
  exact bodyPost_ret (v:=.tuple #[.agg #[.int .i64 k',.int .i64 q',.slice a n c],.nilIface]) (by simp [results,Tryz.results30,go_sem,y0,y1,y2]) rfl ⟨_,_,rfl,hr2,hy2.out,hx2.out⟩
 ·go_wp2
  exact bodyPost_ret (v:=.tuple #[.agg #[.int .i64 k',.int .i64 q',.slice a n c],.iface T3 (.pointer (some a3))]) (by simp [results,Tryz.results30,go_sem,y0,y1,y2]) rfl ⟨_,_,rfl,hr2,hy2.out,hx2.out⟩
/-- The radius that is told. -/
noncomputable def radN (k R : Int) (T : List Int) : Int:=match invE k R T with
 | some _ => 0
 | none => match findP k.toNat R.toNat T with
  | some (d,_) => d
  | none => 0
set_option maxHeartbeats 1000000 in
theorem inv_radius (r : Nat → Addr) (k R : Int) (va : Option Addr) (vn vc : Nat) (T : List Int) (w : World) (hg : Glob r w) (h : IntsAt w (.slice va vn vc) T) :
 Calls Tryz.prog 62 #[.agg #[.int .i64 k,.int .i64 R,.slice va vn vc]] w (Ret2 (fun x y w' => ErrIs r w' (invE k R T) y ∧ x = .int .i64 (radN k R T)) w):=by
 have b0:=belowAlloc w (.cells #[.int .i64 k,.int .i64 R,.slice va vn vc] 24)
 replace hg:=Hd (hg.below b0)
 replace h:=Hd (h.below b0)
 go_enter Tryz.func62,Tryz.ntmps62
 go_wp2_with fail
 refine (find_any r k R va vn vc T _ hg.out h.out).mono ?_
 rintro e w1 ⟨x,y,rfl,b1,hy,hx⟩
 have hn : ∃ k' a n c,x = .agg #[.int .i64 k',.int .i64 (radN k R T),.slice a n c]:=by
  unfold radN
  cases he : invE k R T with
  | none =>
   obtain ⟨d,S,a,n,c,hf,hxx,_⟩:=hx.1 he
   rw [hf]
   exact ⟨_,_,_,_,hxx⟩
  | some t => exact ⟨0,none,0,0,hx.2 (by rw [he]; simp)⟩
 obtain ⟨k',a,n,c,rfl⟩:=hn
 obtain ⟨N,hN⟩ : ∃ N,radN k R T = N:=⟨_,rfl⟩
 rw [hN]
 have b2:=belowAlloc w1 (.cells #[.int .i64 k',.int .i64 N,.slice a n c] 24)
 have bE:=Below.step b0 (Below.step b1 b2)
 have hy2:=hy.below b2
 have q : Box3 (w1.alloc (.cells #[.int .i64 k',.int .i64 N,.slice a n c] 24)) w1.heap.size (.int .i64 k') (.int .i64 N) (.slice a n c):=by simp [Box3,go_sem]
 obtain ⟨⟨z0,z1,z2⟩,-,-,-⟩:=q
 replace hx:=Hd hx
 replace hN:=Hd hN
 replace hy:=Hd hy
 replace hy2:=Hd hy2
 rcases hy.out.open2 with rfl | ⟨T3,a3,rfl⟩
 ·go_wp2
  go_ret2
  exact ⟨_,_,rfl,bE,hy2.out,by rw [hN.out]; rfl⟩
 ·go_wp2
  go_ret2
  exact ⟨_,_,rfl,bE,hy2.out,by rw [hN.out]; rfl⟩
set_option maxHeartbeats 1000000 in
theorem of_ok (K R : Nat) (v : Value) (xs : List Int) (w : World) (h : IntsAt w v xs) (hr : RuleOk K R xs) :
 Calls Tryz.prog 57 #[.agg #[.int .i64 K,.int .i64 R,v]] w (Ret3 (fun x y z w' => z = .nilIface ∧ y = .bool (isSum K R xs) ∧ (isSum K R xs = true → OwnI w.heap.size w' x (facs K R xs)) ∧ (isSum K R xs = false → x = .slice none 0 0)) w):=by
 obtain ⟨va,vn,vc,hv⟩:=h.shape
 subst hv
 have hb0:=(Below.refl w.heap.size w).alloc (Nat.le_refl _) (.cells #[.int .i64 K,.int .i64 R,.slice va vn vc] 24)
 have h0:=Hd (h.below hb0)
 clear h
 have hk1:=hr.k1
 have hk4:=hr.k4
 have hr3:=hr.r3
 replace hr:=Hd hr
 obtain ⟨n,hn⟩ : ∃ n,n = 2 * R + 1:=⟨_,rfl⟩
 have hn7 : n ≤ 7:=by omega
 have hnc : (2 * (R : Int) + 1) = (n : Int):=by omega
 replace hn:=Hd hn
 go_enter Tryz.func57,Tryz.ntmps57
 go_wp2_with fail
 refine (check_ok K R _ xs _ h0.out hr.out).mono ?_
 rintro e w1 ⟨x,rfl,hb,rfl⟩
 obtain ⟨z0,z1,z2,f0,f1,f2⟩:=cells3 hb
 go_wp2_with (at_make; refine wpl_make rfl _ _ rfl _ rfl rfl (by omega) (by omega) ?_)
 intro fv w2 ho hb2
 clear z0 z1 z2 f0 f1 f2
 have hfl : ∀ w',(Builtin.len_ #[22] 3 #[fv]).run Tryz.prog w' = .ok (.int .i64 n) w':=by have:=ho.at.len; rwa [List.length_replicate] at this
 go_wp2
 go_loopw [7,22] (fun g i wr => ∃ j : Nat,j ≤ n ∧ i = .int .i64 j ∧ g = .int .i64 (wI K j) ∧ OwnI w1.heap.size wr fv (facI K n xs j) ∧ Below w1.heap.size w1 wr) (fun _ i _ => n - (intOf i).toNat)
 case atStart => exact ⟨0,by omega,rfl,by unfold wI; split <;> rfl,by rw [facI_zero]; exact ho,hb2⟩
 case round =>
  obtain ⟨j,hj,rfl,rfl,ho,hbr⟩:=hrel
  obtain ⟨wo,rfl⟩ : ∃ wo : World,wo = wr:=⟨_,rfl⟩
  have hbw:=hb.trans (hbr.mono hb.size)
  obtain ⟨z0,z1,z2,f0,f1,f2⟩:=cells3 hbw
  by_cases hlt : j < n
  ·by_cases hK : 1 < K
   ·have hxl : pw K j < xs.length:=by rw [hr.out.len,← hn.out]; exact pw_lt hK hlt
    have ha:=h0.out.below hbw
    have i1:=ha.idx (pw K j) hxl
    have c1:=ha.cell (pw K j) hxl
    have i2 : ∀ w',(Instr.indexAt 22 fv (.int .i64 ((n : Int) - 1 - (j : Int)))).run Tryz.prog w' = .ok (.pointer (some (valAt fv (n - 1 - j)))) w':=by
     intro w'
     have:=ho.at.idxI ((n : Int) - 1 - (j : Int)) (by omega) (by rw [facI_length]; omega) w'
     rwa [show ((n : Int) - 1 - (j : Int)).toNat = n - 1 - j by omega] at this
    have c2:=ho.at.cell (n - 1 - j) (by rw [facI_length]; omega)
    have g2:=ho.frz (n - 1 - j) (by rw [facI_length]; omega)
    have hset:=Hd (ho.set (n - 1 - j) (by rw [facI_length]; omega) xs[pw K j])
    have hsb:=Hd (ho.setBelow hbr (n - 1 - j) (by rw [facI_length]; omega) (.int .i64 xs[pw K j]))
    have hne : ∀ o,(valAt fv (n - 1 - j) = ⟨w.heap.size,o,none⟩) = False:=by
     intro o
     have hbk:=ho.blkB (n - 1 - j) (by rw [facI_length]; omega)
     have hs:=hb.size
     simp at hs
     apply eq_false
     intro e
     rw [e] at hbk
     simp at hbk
     omega
    have hfe : Hid ((facI K n xs j).set (n - 1 - j) xs[pw K j] = facI K n xs (j + 1)):=by
     show _ = _
     simp only [facI,if_pos hK]
     exact facL_succ K n xs j hlt hxl
    have hwj : wI K j = pw K j:=if_pos hK
    have hwj1 : Hid (wI K (j + 1) = pw K j * K):=by show _ = _; rw [wI,if_pos hK,pw_succ]
    rw [hwj]
    clear hwj
    have hb1 : 0 ≤ (pw K j : Int) * (K : Int):=Int.mul_nonneg (by omega) (by omega)
    have hb2 : (pw K j : Int) * (K : Int) ≤ 16384:=by
     have:=pw_le (i:=j + 1) hk1 hk4 (by omega)
     rw [pw_succ] at this
     exact_mod_cast this
    go_wp2
    go_roundw
    case rel =>
     refine ⟨j + 1,by omega,by go_num,by rw [hwj1.out]; simp,?_,hsb.out⟩
     rw [← hfe.out]; exact hset.out
    case measure => simp [intOf]; omega
   ·have hfe : Hid (facI K n xs (j + 1) = facI K n xs j):=by show _ = _; simp only [facI,if_neg hK]
    have hwj1 : Hid (wI K (j + 1) = 1):=if_neg hK
    have hwj : wI K j = 1:=if_neg hK
    rw [hwj]
    clear hwj
    have hK1 : K = 1:=by omega
    clear hK
    have hKK : (K : Int) ≤ 1:=by omega
    have hKK1 : (1 : Int) ≤ K:=by omega
    clear hK1
    go_wp2
    go_roundw
    case rel =>
     refine ⟨j + 1,by omega,by go_num,?_,by rw [hfe.out]; exact ho,hbr⟩
     rw [hwj1.out]
    case measure => simp [intOf]; omega
  ·obtain rfl : j = n:=by omega
   have ha:=h0.out.below hbw
   have hfac : facI K j xs j = facs K R xs:=by rw [hn.out]; rfl
   rw [hfac] at ho
   clear hfac
   replace ha:=Hd ha
   replace ho:=Hd ho
   have hfs:=Hd (facs_syms hr.out)
   have hsz : w.heap.size < wo.heap.size:=World.block_lt_of_cell? _ _ z0
   have hf7 : (facs K R xs).length ≤ 7:=by rw [facs_length]; omega
   have hfd:=field_T
   go_wp2
   go_region_held3 (fun w' => w'.cell? ⟨w.heap.size,0,none⟩ = some (.int .i64 K) ∧ w'.cell? ⟨w.heap.size,2,none⟩ = some (.slice va vn vc)) (go_keep)
    (first | (go_at_call 133; refine (sum_any K fv (facs K R xs) _ (by exact ho.out.at) hfs.out hk1 hk4 hf7).mono ?_; rintro e w3 ⟨x,rfl,hb3,ua,un,uc,rfl,hu⟩; have y0:=(hb3.cell (p:=⟨w.heap.size,0,none⟩) (by simp; omega)).trans z0; have y2:=(hb3.cell (p:=⟨w.heap.size,2,none⟩) (by simp; omega)).trans z2) | (go_at_call 134; refine (equal_any _ _ (sumT K (facs K R xs)) xs _ (by exact hu.at) (by exact ha.out.drew.below hb3)).mono ?_; rintro e w4 hq; obtain ⟨rfl,hb4⟩:=hq.below; have y4:=(hb4.cell (p:=⟨w.heap.size,0,none⟩) (World.block_lt_of_cell? _ _ y0)).trans y0; have y5:=(hb4.cell (p:=⟨w.heap.size,2,none⟩) (World.block_lt_of_cell? _ _ y2)).trans y2))
   have hball : Below w.heap.size w w4:=(hb0.trans ((hbw.drew.trans (hb3.mono (by have:=hbw.size; simp at this ⊢; omega))).mono (by simp))).trans (hb4.mono (by have:=hb3.size; simp at this; omega))
   have hown : OwnI w.heap.size w4 fv (facs K R xs):=(((ho.out.drew).below hb3).below hb4).mono (by have:=hb.size; simp at this; omega)
   replace hball:=Hd hball
   replace hown:=Hd hown
   clear y0 y2 y4 y5 hq
   cases hs : isSum K R xs
   ·rw [show decide (sumT K (facs K R xs) = xs) = false from hs]
    replace hs:=Hd hs
    go_wp2
    go_ret3
    exact ⟨_,_,_,rfl,hball.out,rfl,(by rw [hs.out]; rfl),(fun h => by rw [hs.out] at h; cases h),fun _ => rfl⟩
   ·rw [show decide (sumT K (facs K R xs) = xs) = true from hs]
    replace hs:=Hd hs
    go_wp2
    go_ret3
    exact ⟨_,_,_,rfl,hball.out,rfl,(by rw [hs.out]; rfl),fun _ => hown.out,(fun h => by rw [hs.out] at h; cases h)⟩
theorem OntoPost.parts {r : Nat → Addr} {B : Nat} {s : SubR} {x y z : Value} {w : World} (h : OntoPost r B s x y z w) : (∃ a n c,y = .slice a n c ∧ OwnI B w (.slice a n c) (orphL s)):=by
 cases s with
 | on _ _ => obtain ⟨rfl,rfl,rfl⟩:=h; exact ⟨_,_,_,rfl,OwnI.nil _ _⟩
 | orphan wd => obtain ⟨rfl,rfl,ho⟩:=h; obtain ⟨a,n,c,rfl⟩:=ho.at.shape; exact ⟨_,_,_,rfl,ho⟩
 | big => obtain ⟨rfl,rfl,he⟩:=h; exact ⟨_,_,_,rfl,OwnI.nil _ _⟩
theorem idx5_0 (w : World) : (Instr.index 101 (.agg #[.nilIface,.nilIface,.nilIface,.nilIface,.nilIface]) (.int .i64 0)).run Tryz.prog w = .ok .nilIface w:=by kernel_rfl
theorem idx5_1 (w : World) : (Instr.index 101 (.agg #[.nilIface,.nilIface,.nilIface,.nilIface,.nilIface]) (.int .i64 1)).run Tryz.prog w = .ok .nilIface w:=by kernel_rfl
theorem idx5_2 (w : World) : (Instr.index 101 (.agg #[.nilIface,.nilIface,.nilIface,.nilIface,.nilIface]) (.int .i64 2)).run Tryz.prog w = .ok .nilIface w:=by kernel_rfl
theorem idx5_3 (w : World) : (Instr.index 101 (.agg #[.nilIface,.nilIface,.nilIface,.nilIface,.nilIface]) (.int .i64 3)).run Tryz.prog w = .ok .nilIface w:=by kernel_rfl
theorem idx5_4 (w : World) : (Instr.index 101 (.agg #[.nilIface,.nilIface,.nilIface,.nilIface,.nilIface]) (.int .i64 4)).run Tryz.prog w = .ok .nilIface w:=by kernel_rfl
/-- The radius that a report tells. -/
noncomputable def radL (K R : Nat) (T : List Int) : Int:=if invE K R T = none then radN K R T else -1
/-- The factors that a report tells. -/
def facR (K R : Nat) (T : List Int) : List Int:=if isSum K R T = true then facs K R T else []
/-- A report of a rule. -/
def RepIs (B : Nat) (w : World) (K R : Nat) (T : List Int) (v : Value) : Prop :=
 ∃ (Y F : Bool) (oa : Option Addr) (on oc : Nat) (fa : Option Addr) (fn fc : Nat),(Y = true ↔ ¬ NotOne K R T) ∧ (F = true ↔ ∀ x y,¬ IsTwins K R T x y) ∧
  v = .agg #[.int .i64 (ontoN (subR K (pw K (2 * R)) T)),.slice oa on oc,.bool Y,.bool F,.int .i64 (radL K R T),.bool (isSum K R T),.slice fa fn fc,.bool (unlikeP K T (T.length / K)),.bool (unlikeP K T 1)] ∧
  OwnI B w (.slice oa on oc) (orphL (subR K (pw K (2 * R)) T)) ∧ OwnI B w (.slice fa fn fc) (facR K R T) ∧ ((Value.slice oa on oc).ownBlock = none ∨ (Value.slice oa on oc).ownBlock ≠ (Value.slice fa fn fc).ownBlock)
set_option maxHeartbeats 4000000 in
theorem look_ok (r : Nat → Addr) (K R : Nat) (va : Option Addr) (vn vc : Nat) (T : List Int) (w : World) (hg : Glob r w) (hG : GlobE w) (h : IntsAt w (.slice va vn vc) T) (hr : RuleOk K R T) (hl : T.length ≤ 256) :
 Calls Tryz.prog 23 #[.agg #[.int .i64 K,.int .i64 R,.slice va vn vc]] w (Ret2 (fun x y w' => y = .nilIface ∧ RepIs w.heap.size w' K R T x) w):=by
 have b0:=belowAlloc w (.cells #[.int .i64 K,.int .i64 R,.slice va vn vc] 24)
 have q : Box3 (w.alloc (.cells #[.int .i64 K,.int .i64 R,.slice va vn vc] 24)) w.heap.size (.int .i64 K) (.int .i64 R) (.slice va vn vc):=by simp [Box3,go_sem]
 obtain ⟨f0,hR0,n45,-⟩:=(Rows.void w.heap.size w).mkN (45,0) (Nat.le_refl _) 24 3 #[.int .i64 K,.int .i64 R,.slice va vn vc] rfl
 obtain ⟨f1,hR1,n42,o1⟩:=hR0.mkN (42,0) (by simp) 46 9 #[.int .i64 0,.slice none 0 0,.bool false,.bool false,.int .i64 0,.bool false,.slice none 0 0,.bool false,.bool false] rfl
 replace n45:=(o1 _ (by decide)).trans n45
 have b1:=belowAlloc (w.alloc (.cells #[.int .i64 K,.int .i64 R,.slice va vn vc] 24)) (.cells #[.int .i64 0,.slice none 0 0,.bool false,.bool false,.int .i64 0,.bool false,.slice none 0 0,.bool false,.bool false] 46)
 have hsz : (w.alloc (.cells #[.int .i64 K,.int .i64 R,.slice va vn vc] 24)).heap.size = w.heap.size + 1:=by simp
 rw [hsz] at n42
 replace q:=q.below b1
 have b01:=Below.step b0 b1
 obtain ⟨w1,hw1⟩ : ∃ W : World,(w.alloc (.cells #[.int .i64 K,.int .i64 R,.slice va vn vc] 24)).alloc (.cells #[.int .i64 0,.slice none 0 0,.bool false,.bool false,.int .i64 0,.bool false,.slice none 0 0,.bool false,.bool false] 46) = W:=⟨_,rfl⟩
 have hs1 : ((w.alloc (.cells #[.int .i64 K,.int .i64 R,.slice va vn vc] 24)).alloc (.cells #[.int .i64 0,.slice none 0 0,.bool false,.bool false,.int .i64 0,.bool false,.slice none 0 0,.bool false,.bool false] 46)).heap.size = w.heap.size + 2:=by simp
 rw [hw1] at q b01 hR1 hs1
 have hsm:=smallP_small hr hl
 have hg1:=Hd (hg.below b01)
 have hG1:=Hd (hG.below b01)
 have hT1:=Hd (h.below b01)
 obtain ⟨S,hS⟩ : ∃ S,subR K (pw K (2 * R)) T = S:=⟨_,rfl⟩
 obtain ⟨i1,i2,i3⟩:=invE_ok hr hl
 obtain ⟨L,hL⟩ : ∃ L,unlikeP K T (T.length / K) = L:=⟨_,rfl⟩
 obtain ⟨P,hP⟩ : ∃ P,unlikeP K T 1 = P:=⟨_,rfl⟩
 have hsum : (isSum K R T = true → facR K R T = facs K R T) ∧ (isSum K R T = false → facR K R T = []):=⟨fun e => by unfold facR; rw [if_pos e],fun e => by unfold facR; rw [e]; rfl⟩
 have hrad : (invE K R T = none → radL K R T = radN K R T) ∧ (invE K R T ≠ none → radL K R T = -1):=⟨fun e => by unfold radL; rw [if_pos e],fun e => by unfold radL; rw [if_neg e]⟩
 have hB : w.heap.size ≤ w1.heap.size:=b01.size
 replace hg:=Hd hg
 replace hG:=Hd hG
 replace h:=Hd h
 replace hr:=Hd hr
 replace hsm:=Hd hsm
 replace hS:=Hd hS
 replace i1:=Hd i1
 replace i2:=Hd i2
 replace i3:=Hd i3
 replace hL:=Hd hL
 replace hP:=Hd hP
 replace hsum:=Hd hsum
 replace hrad:=Hd hrad
 replace hR1:=Hd hR1
 replace n42:=Hd n42
 replace n45:=Hd n45
 replace hw1:=Hd hw1
 replace hsz:=Hd hsz
 clear b0 b1 o1 hR0
 obtain ⟨⟨z0,z1,z2⟩,-,-,-⟩:=id q
 go_enter Tryz.func23,Tryz.ntmps23
 go_upto_region 1 with fail
 rw [hw1.out]
 go_wp2_with fail
 refine (small_any r K R va vn vc T w1 hg1.out hT1.out).mono ?_
 rintro e w2 ⟨x,rfl,b2,he⟩
 rw [hsm.out] at he
 obtain rfl:=he.none_eq
 clear he z0 z1 z2
 have b12:=Below.step b01 b2
 -- the boxes of the report and of the errors
 obtain ⟨f3,hR3,n40,o3⟩:=(hR1.out.below b2).mkN (40,0) b12.size 46 9 #[.int .i64 0,.slice none 0 0,.bool false,.bool false,.int .i64 0,.bool false,.slice none 0 0,.bool false,.bool false] rfl
 have b3:=belowAlloc w2 (.cells #[.int .i64 0,.slice none 0 0,.bool false,.bool false,.int .i64 0,.bool false,.slice none 0 0,.bool false,.bool false] 46)
 have b13:=Below.step b12 b3
 obtain ⟨f4,hR4,n41,o4⟩:=hR3.mkN (41,0) b13.size 101 5 #[.nilIface,.nilIface,.nilIface,.nilIface,.nilIface] rfl
 have b4:=belowAlloc (w2.alloc (.cells #[.int .i64 0,.slice none 0 0,.bool false,.bool false,.int .i64 0,.bool false,.slice none 0 0,.bool false,.bool false] 46)) (.cells #[.nilIface,.nilIface,.nilIface,.nilIface,.nilIface] 101)
 have hsz3 : (w2.alloc (.cells #[.int .i64 0,.slice none 0 0,.bool false,.bool false,.int .i64 0,.bool false,.slice none 0 0,.bool false,.bool false] 46)).heap.size = w2.heap.size + 1:=by simp
 rw [hsz3] at n41
 have b24:=Below.step b3 b4
 have b14:=Below.step b12 b24
 obtain ⟨w4,hw4⟩ : ∃ W : World,(w2.alloc (.cells #[.int .i64 0,.slice none 0 0,.bool false,.bool false,.int .i64 0,.bool false,.slice none 0 0,.bool false,.bool false] 46)).alloc (.cells #[.nilIface,.nilIface,.nilIface,.nilIface,.nilIface] 101) = W:=⟨_,rfl⟩
 rw [hw4] at hR4 b14 b24
 have A4 : LkAt w.heap.size w4 w.heap.size w2.heap.size (w2.heap.size + 1) (w.heap.size + 1) [.int .i64 K,.int .i64 R,.slice va vn vc] [.int .i64 0,.slice none 0 0,.bool false,.bool false,.int .i64 0,.bool false,.slice none 0 0,.bool false,.bool false] [.nilIface,.nilIface,.nilIface,.nilIface,.nilIface] [.int .i64 0,.slice none 0 0,.bool false,.bool false,.int .i64 0,.bool false,.slice none 0 0,.bool false,.bool false] (.slice none 0 0) (.slice none 0 0) [] []:=by
  obtain ⟨f5,hR5,n43,o5⟩:=hR4.addE (43,0) (r':=rowI (.slice none 0 0) []) (Below.refl _ _) (OwnI.nil _ _) (fun k hk => by cases hk)
  obtain ⟨f6,hR6,n44,o6⟩:=hR5.addE (44,0) (r':=rowI (.slice none 0 0) []) (Below.refl _ _) (OwnI.nil _ _) (fun k hk => by cases hk)
  exact ⟨f6,hR6,(o6 _ (by decide)).trans ((o5 _ (by decide)).trans ((o4 _ (by decide)).trans n40)),(o6 _ (by decide)).trans ((o5 _ (by decide)).trans n41),(o6 _ (by decide)).trans ((o5 _ (by decide)).trans ((o4 _ (by decide)).trans ((o3 _ (by decide)).trans n42.out))),(o6 _ (by decide)).trans n43,n44,(o6 _ (by decide)).trans ((o5 _ (by decide)).trans ((o4 _ (by decide)).trans ((o3 _ (by decide)).trans n45.out)))⟩
 obtain ⟨x,hx⟩ : ∃ x,w2.heap.size = x:=⟨_,rfl⟩
 obtain ⟨ee,hee⟩ : ∃ x,w2.heap.size + 1 = x:=⟨_,rfl⟩
 obtain ⟨o,ho⟩ : ∃ x,w.heap.size + 1 = x:=⟨_,rfl⟩
 rw [hee,hx,ho] at A4
 have hs2:=b2.size
 have hxe : ¬ (x = ee):=by omega
 have hex : ¬ (ee = x):=by omega
 have hxo : ¬ (x = o):=by omega
 have hox : ¬ (o = x):=by omega
 have heo : ¬ (ee = o):=by omega
 have hoe : ¬ (o = ee):=by omega
 clear hs1 hs2
 clear hR3 hR4 n40 n41 o3 o4 b3 b4 b13 hsz3 f3 f4
 replace A4:=Hd A4
 replace hw4:=Hd hw4
 replace hx:=Hd hx
 replace hee:=Hd hee
 replace ho:=Hd ho
 clear hR1 n42 n45 hsz hw1 q
 go_upto_region 7 with fail
 rw [hw4.out,hee.out,hx.out,ho.out]
 clear hw4
 have z0:=A4.out.cr 0 (by decide)
 have z1:=A4.out.cr 1 (by decide)
 have z2:=A4.out.cr 2 (by decide)
 have lowx:=A4.out.low
 go_wp2_with fail
 refine (sub_onto r K R va vn vc T w4 (hg.out.below b14) (hG.out.below b14) (h.out.below b14) hr.out hl).mono ?_
 rintro e w5 ⟨xv,_,zv,rfl,b5,hon⟩
 clear z0 z1 z2
 rw [hS.out] at hon
 obtain ⟨oa,on,oc,rfl,hor⟩:=hon.parts
 obtain ⟨xb,rfl⟩ : ∃ b,xv = .bool b:=by
  cases S with
  | on _ _ => exact ⟨_,hon.1⟩
  | orphan _ => exact ⟨_,hon.1⟩
  | big => exact ⟨_,hon.1⟩
 have hcz : (zv = .nilIface ∧ (xb = true → ontoN S = 1) ∧ (xb = false → ontoN S = 2)) ∨ ∃ p,zv = .iface 119 (.pointer (some p)) ∧ ErrIs r w5 (fresh sSubset 0 4) zv ∧ ontoN S = 3:=by
  cases S with
  | on _ _ => obtain ⟨h1,-,h3⟩:=hon; injection h1 with h1; exact .inl ⟨h3,fun _ => rfl,fun q => by rw [h1] at q; cases q⟩
  | orphan _ => obtain ⟨h1,h3,-⟩:=hon; injection h1 with h1; exact .inl ⟨h3,(fun q => by rw [h1] at q; cases q),fun _ => rfl⟩
  | big =>
   obtain ⟨-,-,h3⟩:=hon
   have h4:=h3
   obtain ⟨p,u,rfl,-⟩:=h4
   exact .inr ⟨_,rfl,h3,rfl⟩
 clear hon
 have A5:=A4.out.orphan b5 b14.size hor
 have c5:=Below.step b14 b5
 replace hor:=Hd hor
 rcases hcz with ⟨rfl,k1,k2⟩ | ⟨zp,rfl,hze,k3⟩
 case' inl =>
  have g1:=A5.cx 1 (by decide)
  have h1:=A5.fx 1
  have S1:=A5.sx 1 (.slice oa on oc)
  have d1:=c5.setCell (p:=⟨x,1,none⟩) lowx.1 (.slice oa on oc)
  have g2:=S1.ce 0 (by decide)
  have h2:=S1.fe 0
  have S2:=S1.se 0 (.nilIface)
  have d2:=d1.setCell (p:=⟨ee,0,none⟩) lowx.2.1 (.nilIface)
  replace k1:=Hd k1
  replace k2:=Hd k2
  go_upto_block 0 with fail
  clear g1 h1 g2 h2
  go_cut [] from 27 (fun wx => Below w.heap.size w wx ∧ LkAt w.heap.size wx w.heap.size x ee o [.int .i64 K,.int .i64 R,.slice va vn vc] [.int .i64 (ontoN S),.slice oa on oc,.bool false,.bool false,.int .i64 0,.bool false,.slice none 0 0,.bool false,.bool false] [.nilIface,.nilIface,.nilIface,.nilIface,.nilIface] [.int .i64 0,.slice none 0 0,.bool false,.bool false,.int .i64 0,.bool false,.slice none 0 0,.bool false,.bool false] (.slice oa on oc) (.slice none 0 0) (orphL S) [])
  case first =>
   have tb:=(hg.out.below d2).c4
   have e1:=S2.ce 0 (by decide)
   go_wp2_with fail
   refine (Errs.is_nil _ _ _).mono ?_
   rintro e w6 ⟨rfl,rfl⟩
   clear e1
   cases xb with
   | true =>
    have g3:=S2.cx 0 (by decide)
    have h3:=S2.fx 0
    have S3:=S2.sx 0 (.int .i64 1)
    have d3:=d2.setCell (p:=⟨x,0,none⟩) lowx.1 (.int .i64 1)
    have RK:=S3
    have Rb:=d3
    have hfin : Below w.heap.size w (((w5.setCell ⟨x,1,none⟩ (.slice oa on oc)).setCell ⟨ee,0,none⟩ .nilIface).setCell ⟨x,0,none⟩ (.int .i64 1)) ∧ LkAt w.heap.size (((w5.setCell ⟨x,1,none⟩ (.slice oa on oc)).setCell ⟨ee,0,none⟩ .nilIface).setCell ⟨x,0,none⟩ (.int .i64 1)) w.heap.size x ee o [.int .i64 K,.int .i64 R,.slice va vn vc] [.int .i64 (ontoN S),.slice oa on oc,.bool false,.bool false,.int .i64 0,.bool false,.slice none 0 0,.bool false,.bool false] [.nilIface,.nilIface,.nilIface,.nilIface,.nilIface] [.int .i64 0,.slice none 0 0,.bool false,.bool false,.int .i64 0,.bool false,.slice none 0 0,.bool false,.bool false] (.slice oa on oc) (.slice none 0 0) (orphL S) []:=by rw [k1.out rfl]; exact ⟨Rb,RK⟩
    clear RK Rb k1 k2
    replace hfin:=Hd hfin
    go_wp2
    go_meet
    case rel => exact hfin.out
   | false =>
    have g3:=S2.cx 0 (by decide)
    have h3:=S2.fx 0
    have S3:=S2.sx 0 (.int .i64 2)
    have d3:=d2.setCell (p:=⟨x,0,none⟩) lowx.1 (.int .i64 2)
    have RK:=S3
    have Rb:=d3
    have hfin : Below w.heap.size w (((w5.setCell ⟨x,1,none⟩ (.slice oa on oc)).setCell ⟨ee,0,none⟩ .nilIface).setCell ⟨x,0,none⟩ (.int .i64 2)) ∧ LkAt w.heap.size (((w5.setCell ⟨x,1,none⟩ (.slice oa on oc)).setCell ⟨ee,0,none⟩ .nilIface).setCell ⟨x,0,none⟩ (.int .i64 2)) w.heap.size x ee o [.int .i64 K,.int .i64 R,.slice va vn vc] [.int .i64 (ontoN S),.slice oa on oc,.bool false,.bool false,.int .i64 0,.bool false,.slice none 0 0,.bool false,.bool false] [.nilIface,.nilIface,.nilIface,.nilIface,.nilIface] [.int .i64 0,.slice none 0 0,.bool false,.bool false,.int .i64 0,.bool false,.slice none 0 0,.bool false,.bool false] (.slice oa on oc) (.slice none 0 0) (orphL S) []:=by rw [k2.out rfl]; exact ⟨Rb,RK⟩
    clear RK Rb k1 k2
    replace hfin:=Hd hfin
    go_wp2
    go_meet
    case rel => exact hfin.out
 case' inr =>
  have g1:=A5.cx 1 (by decide)
  have h1:=A5.fx 1
  have S1:=A5.sx 1 (.slice oa on oc)
  have d1:=c5.setCell (p:=⟨x,1,none⟩) lowx.1 (.slice oa on oc)
  have g2:=S1.ce 0 (by decide)
  have h2:=S1.fe 0
  have S2:=S1.se 0 ((.iface 119 (.pointer (some zp))))
  have d2:=d1.setCell (p:=⟨ee,0,none⟩) lowx.2.1 ((.iface 119 (.pointer (some zp))))
  replace k3:=Hd k3
  go_upto_block 0 with fail
  clear g1 h1 g2 h2
  go_cut [] from 27 (fun wx => Below w.heap.size w wx ∧ LkAt w.heap.size wx w.heap.size x ee o [.int .i64 K,.int .i64 R,.slice va vn vc] [.int .i64 (ontoN S),.slice oa on oc,.bool false,.bool false,.int .i64 0,.bool false,.slice none 0 0,.bool false,.bool false] [.nilIface,.nilIface,.nilIface,.nilIface,.nilIface] [.int .i64 0,.slice none 0 0,.bool false,.bool false,.int .i64 0,.bool false,.slice none 0 0,.bool false,.bool false] (.slice oa on oc) (.slice none 0 0) (orphL S) [])
  case first =>
   have tb:=(hg.out.below d2).c4
   have his:=Errs.is_any r 4 _ _ _ ((hze.set (b:=x) (i:=1) (fun s q => by rw [A5.cx 0 (by decide)] at q; cases q) (.slice oa on oc)).set (b:=ee) (i:=0) (fun s q => by rw [S1.ce 0 (by decide)] at q; cases q) (.iface 119 (.pointer (some zp))))
   have e1:=S2.ce 0 (by decide)
   replace hze:=Hd hze
   go_wp2_with fail
   refine his.mono ?_
   rintro e w6 ⟨rfl,rfl⟩
   clear his
   clear e1
   have g3:=S2.cx 0 (by decide)
   have h3:=S2.fx 0
   have S3:=S2.sx 0 (.int .i64 3)
   have d3:=d2.setCell (p:=⟨x,0,none⟩) lowx.1 (.int .i64 3)
   have g4:=S3.ce 0 (by decide)
   have h4:=S3.fe 0
   have S4:=S3.se 0 (.nilIface)
   have d4:=d3.setCell (p:=⟨ee,0,none⟩) lowx.2.1 (.nilIface)
   have RK:=S4
   have Rb:=d4
   have hfin : Below w.heap.size w ((((w5.setCell ⟨x,1,none⟩ (.slice oa on oc)).setCell ⟨ee,0,none⟩ (.iface 119 (.pointer (some zp)))).setCell ⟨x,0,none⟩ (.int .i64 3)).setCell ⟨ee,0,none⟩ .nilIface) ∧ LkAt w.heap.size ((((w5.setCell ⟨x,1,none⟩ (.slice oa on oc)).setCell ⟨ee,0,none⟩ (.iface 119 (.pointer (some zp)))).setCell ⟨x,0,none⟩ (.int .i64 3)).setCell ⟨ee,0,none⟩ .nilIface) w.heap.size x ee o [.int .i64 K,.int .i64 R,.slice va vn vc] [.int .i64 (ontoN S),.slice oa on oc,.bool false,.bool false,.int .i64 0,.bool false,.slice none 0 0,.bool false,.bool false] [.nilIface,.nilIface,.nilIface,.nilIface,.nilIface] [.int .i64 0,.slice none 0 0,.bool false,.bool false,.int .i64 0,.bool false,.slice none 0 0,.bool false,.bool false] (.slice oa on oc) (.slice none 0 0) (orphL S) []:=by rw [k3.out]; exact ⟨Rb,RK⟩
   clear RK Rb k3
   replace hfin:=Hd hfin
   go_wp2
   go_meet
   case rel => exact hfin.out
 all_goals
  obtain ⟨bc,AC⟩:=hcut
  clear S1 S2 d1 d2 A5 c5 b14 A4 lowx
  have lowx:=AC.low
  have hBx:=bc.size
  have z0:=AC.cr 0 (by decide)
  have z1:=AC.cr 1 (by decide)
  have z2:=AC.cr 2 (by decide)
  go_wp2_with fail
  refine (one_ok r K R va vn vc T _ (hg.out.below bc) (h.out.below bc) hr.out hl).mono ?_
  rintro e w7 ⟨_,_,_,_,rfl,b7,hp⟩
  clear z0 z1 z2
  obtain ⟨rfl,Y,rfl,hY,e1,f1,g1,e2,f2,g2,e3,f3,g3,e4,f4,g4,e5,f5,g5,e6,f6,g6,rfl,rfl⟩:=hp.ans
  clear hp
  replace hY:=Hd hY
  have A7:=AC.below b7
  have c7:=Below.step bc b7
  have g11:=A7.cx 2 (by decide)
  have h11:=A7.fx 2
  have S11:=A7.sx 2 (.bool Y)
  have d11:=c7.setCell (p:=⟨x,2,none⟩) lowx.1 (.bool Y)
  have g12:=S11.ce 1 (by decide)
  have h12:=S11.fe 1
  have S12:=S11.se 1 (.nilIface)
  have d12:=d11.setCell (p:=⟨ee,1,none⟩) lowx.2.1 (.nilIface)
  have z0:=S12.cr 0 (by decide)
  have z1:=S12.cr 1 (by decide)
  have z2:=S12.cr 2 (by decide)
  go_wp2_with fail
  refine (finite_ok r K R va vn vc T _ (hg.out.below d12) (h.out.below d12) hr.out hl).mono ?_
  rintro e w8 ⟨fy,fa9,fb9,_,rfl,b8,hf⟩
  clear g11 h11 g12 h12 z0 z1 z2
  obtain ⟨F,rfl,hF⟩ : ∃ F : Bool,fy = .bool F ∧ (F = true ↔ ∀ x y,¬ IsTwins K R T x y):=by
   obtain ⟨-,⟨rfl,-,-,hn⟩ | ⟨rfl,x1,y1,-,ht,-⟩⟩:=hf
   ·exact ⟨true,rfl,⟨fun _ => hn,fun _ => rfl⟩⟩
   ·exact ⟨false,rfl,⟨fun q => (by cases q),fun q => absurd ht (q x1 y1)⟩⟩
  obtain ⟨⟨qa1,qa2,qa3,rfl⟩,qb1,qb2,qb3,rfl⟩ : (∃ a n c,fa9 = .slice a n c) ∧ ∃ a n c,fb9 = .slice a n c:=by
   obtain ⟨-,⟨-,rfl,rfl,-⟩ | ⟨-,x1,y1,-,-,-,-,o1,o2,-⟩⟩:=hf
   ·exact ⟨⟨_,_,_,rfl⟩,_,_,_,rfl⟩
   ·exact ⟨o1.at.shape,o2.at.shape⟩
  obtain rfl:=hf.1
  clear hf
  replace hF:=Hd hF
  have A8:=S12.below b8
  have c8:=Below.step d12 b8
  have g13:=A8.cx 3 (by decide)
  have h13:=A8.fx 3
  have S13:=A8.sx 3 (.bool F)
  have d13:=c8.setCell (p:=⟨x,3,none⟩) lowx.1 (.bool F)
  have g14:=S13.ce 2 (by decide)
  have h14:=S13.fe 2
  have S14:=S13.se 2 (.nilIface)
  have d14:=d13.setCell (p:=⟨ee,2,none⟩) lowx.2.1 (.nilIface)
  have z0:=S14.cr 0 (by decide)
  have z1:=S14.cr 1 (by decide)
  have z2:=S14.cr 2 (by decide)
  go_wp2_with fail
  refine (inv_radius r K R va vn vc T _ (hg.out.below d14) (h.out.below d14)).mono ?_
  rintro e w9 ⟨_,ev,rfl,b9,hev,rfl⟩
  clear g13 h13 g14 h14 z0 z1 z2
  have A9:=S14.below b9
  have c9:=Below.step d14 b9
  obtain ⟨N,hN⟩ : ∃ N,radN K R T = N:=⟨_,rfl⟩
  rw [hN]
  replace hN:=Hd hN
  have hev2:=hev.open2
  go_upto_block 1 with fail
  go_cut [] from 61 (fun wx => Below w.heap.size w wx ∧ LkAt w.heap.size wx w.heap.size x ee o [.int .i64 K,.int .i64 R,.slice va vn vc] [.int .i64 (ontoN S),.slice oa on oc,.bool Y,.bool F,.int .i64 (radL K R T),.bool false,.slice none 0 0,.bool false,.bool false] [.nilIface,.nilIface,.nilIface,.nilIface,.nilIface] [.int .i64 0,.slice none 0 0,.bool false,.bool false,.int .i64 0,.bool false,.slice none 0 0,.bool false,.bool false] (.slice oa on oc) (.slice none 0 0) (orphL S) [])
  case first =>
   by_cases hE : invE K R T = none
   ·rw [hE] at hev
    obtain rfl:=hev.none_eq
    have hrd:=hrad.out.1 hE
    rw [hN.out] at hrd
    clear hev2
    replace hE:=Hd hE
    replace hev:=Hd hev
    have g15:=A9.cx 4 (by decide)
    have h15:=A9.fx 4
    have S15:=A9.sx 4 (.int .i64 N)
    have d15:=c9.setCell (p:=⟨x,4,none⟩) lowx.1 (.int .i64 N)
    have RK:=S15
    have Rb:=d15
    have hfin : LkAt w.heap.size (w9.setCell ⟨x,4,none⟩ (.int .i64 N)) w.heap.size x ee o [.int .i64 K,.int .i64 R,.slice va vn vc] [.int .i64 (ontoN S),.slice oa on oc,.bool Y,.bool F,.int .i64 (radL K R T),.bool false,.slice none 0 0,.bool false,.bool false] [.nilIface,.nilIface,.nilIface,.nilIface,.nilIface] [.int .i64 0,.slice none 0 0,.bool false,.bool false,.int .i64 0,.bool false,.slice none 0 0,.bool false,.bool false] (.slice oa on oc) (.slice none 0 0) (orphL S) []:=by rw [hrd]; exact RK
    clear RK hrd
    replace hfin:=Hd hfin
    replace Rb:=Hd Rb
    go_wp2
    go_meet
    case rel => exact ⟨Rb.out,hfin.out⟩
   ·have hrd:=hrad.out.2 hE
    have hcode : invE K R T = fresh sInverse 0 9 ∨ invE K R T = fresh sInverse 0 4:=by
     by_cases hno : NotOne K R T
     ·exact .inl (i1.out hno)
     ·refine .inr (i2.out hno (Classical.byContradiction fun q => hE (i3.out hno q)))
    have tb:=(hg.out.below c9).c4
    have tn:=(hg.out.below c9).c9
    have hgw:=hg.out.below c9
    clear hev2
    replace hE:=Hd hE
    replace hgw:=Hd hgw
    rcases hcode with hc | hc
    ·rw [hc] at hev
     have hev':=hev
     obtain ⟨zp,zu,rfl,-⟩:=hev'
     replace hc:=Hd hc
     replace hev:=Hd hev
     go_wp2_with fail
     refine (Errs.is_any r 9 _ _ _ hev.out).mono ?_
     rintro e w11 ⟨rfl,rfl⟩
     have g15:=A9.cx 4 (by decide)
     have h15:=A9.fx 4
     have S15:=A9.sx 4 (.int .i64 (-1))
     have d15:=c9.setCell (p:=⟨x,4,none⟩) lowx.1 (.int .i64 (-1))
     have RK:=S15
     have Rb:=d15
     have hfin : LkAt w.heap.size (w9.setCell ⟨x,4,none⟩ (.int .i64 (-1))) w.heap.size x ee o [.int .i64 K,.int .i64 R,.slice va vn vc] [.int .i64 (ontoN S),.slice oa on oc,.bool Y,.bool F,.int .i64 (radL K R T),.bool false,.slice none 0 0,.bool false,.bool false] [.nilIface,.nilIface,.nilIface,.nilIface,.nilIface] [.int .i64 0,.slice none 0 0,.bool false,.bool false,.int .i64 0,.bool false,.slice none 0 0,.bool false,.bool false] (.slice oa on oc) (.slice none 0 0) (orphL S) []:=by rw [hrd]; exact RK
     clear RK hrd
     replace hfin:=Hd hfin
     replace Rb:=Hd Rb
     go_wp2
     go_meet
     case rel => exact ⟨Rb.out,hfin.out⟩
    ·rw [hc] at hev
     have hev':=hev
     obtain ⟨zp,zu,rfl,-⟩:=hev'
     replace hc:=Hd hc
     replace hev:=Hd hev
     go_wp2_with fail
     refine (Errs.is_no r 4 9 _ _ _ hgw.out hev.out (by decide) (by decide) (by decide)).mono ?_
     rintro e w11 ⟨rfl,rfl⟩
     go_wp2_with fail
     refine (Errs.is_any r 4 _ _ _ hev.out).mono ?_
     rintro e w11 ⟨rfl,rfl⟩
     have g15:=A9.cx 4 (by decide)
     have h15:=A9.fx 4
     have S15:=A9.sx 4 (.int .i64 (-1))
     have d15:=c9.setCell (p:=⟨x,4,none⟩) lowx.1 (.int .i64 (-1))
     have RK:=S15
     have Rb:=d15
     have hfin : LkAt w.heap.size (w9.setCell ⟨x,4,none⟩ (.int .i64 (-1))) w.heap.size x ee o [.int .i64 K,.int .i64 R,.slice va vn vc] [.int .i64 (ontoN S),.slice oa on oc,.bool Y,.bool F,.int .i64 (radL K R T),.bool false,.slice none 0 0,.bool false,.bool false] [.nilIface,.nilIface,.nilIface,.nilIface,.nilIface] [.int .i64 0,.slice none 0 0,.bool false,.bool false,.int .i64 0,.bool false,.slice none 0 0,.bool false,.bool false] (.slice oa on oc) (.slice none 0 0) (orphL S) []:=by rw [hrd]; exact RK
     clear RK hrd
     replace hfin:=Hd hfin
     replace Rb:=Hd Rb
     go_wp2
     go_meet
     case rel => exact ⟨Rb.out,hfin.out⟩
  case rest =>
   obtain ⟨bd,AD⟩:=hcut
   clear hev hev2
   clear lowx
   have lowx:=AD.low
   have hBd:=bd.size
   have z0:=AD.cr 0 (by decide)
   have z1:=AD.cr 1 (by decide)
   have z2:=AD.cr 2 (by decide)
   go_wp2_with fail
   refine (of_ok K R _ T _ (h.out.below bd) hr.out).mono ?_
   rintro e w12 ⟨fv9,_,_,rfl,b12,rfl,rfl,hs1,hs0⟩
   clear z0 z1 z2
   obtain ⟨fa,fn,fc,rfl,hfo⟩ : ∃ a n c,fv9 = .slice a n c ∧ OwnI wc.heap.size w12 (.slice a n c) (facR K R T):=by
    cases hi : isSum K R T with
    | true => have ho:=hs1 hi; rw [← hsum.out.1 hi] at ho; obtain ⟨a,n,c,rfl⟩:=ho.at.shape; exact ⟨_,_,_,rfl,ho⟩
    | false => rw [hs0 hi,hsum.out.2 hi]; exact ⟨_,_,_,rfl,OwnI.nil _ _⟩
   clear hs1 hs0
   have A12:=AD.facs b12 bd.size hfo
   have c12:=Below.step bd b12
   replace hfo:=Hd hfo
   have g21:=A12.cx 6 (by decide)
   have h21:=A12.fx 6
   have S21:=A12.sx 6 (.slice fa fn fc)
   have d21:=c12.setCell (p:=⟨x,6,none⟩) lowx.1 (.slice fa fn fc)
   have g22:=S21.cx 5 (by decide)
   have h22:=S21.fx 5
   have S22:=S21.sx 5 (.bool (isSum K R T))
   have d22:=d21.setCell (p:=⟨x,5,none⟩) lowx.1 (.bool (isSum K R T))
   have g23:=S22.ce 3 (by decide)
   have h23:=S22.fe 3
   have S23:=S22.se 3 (.nilIface)
   have d23:=d22.setCell (p:=⟨ee,3,none⟩) lowx.2.1 (.nilIface)
   have z0:=S23.cr 0 (by decide)
   have z1:=S23.cr 1 (by decide)
   have z2:=S23.cr 2 (by decide)
   go_wp2_with fail
   refine (sides_ok K R va vn vc T _ (h.out.below d23) hr.out).mono ?_
   rintro e w13 ⟨_,_,_,rfl,b13,rfl,rfl,rfl⟩
   clear g21 h21 g22 h22 g23 h23 z0 z1 z2
   rw [hL.out,hP.out]
   have A13:=S23.below b13
   have c13:=Below.step d23 b13
   have g24:=A13.cx 7 (by decide)
   have h24:=A13.fx 7
   have S24:=A13.sx 7 (.bool L)
   have d24:=c13.setCell (p:=⟨x,7,none⟩) lowx.1 (.bool L)
   have g25:=S24.cx 8 (by decide)
   have h25:=S24.fx 8
   have S25:=S24.sx 8 (.bool P)
   have d25:=d24.setCell (p:=⟨x,8,none⟩) lowx.1 (.bool P)
   have g26:=S25.ce 4 (by decide)
   have h26:=S25.fe 4
   have S26:=S25.se 4 (.nilIface)
   have d26:=d25.setCell (p:=⟨ee,4,none⟩) lowx.2.1 (.nilIface)
   have AE:=S26
   have bE:=d26
   obtain ⟨WE,hWE⟩ : ∃ W : World,(((w13.setCell ⟨x,7,none⟩ (.bool L)).setCell ⟨x,8,none⟩ (.bool P)).setCell ⟨ee,4,none⟩ .nilIface) = W:=⟨_,rfl⟩
   rw [hWE] at AE bE
   replace AE:=Hd AE
   replace bE:=Hd bE
   replace hWE:=Hd hWE
   go_upto_region 23 with fail
   rw [hWE.out]
   replace AE:=AE.out
   replace bE:=bE.out
   clear g24 h24 g25 h25 g26 h26
   clear hWE
   have ce0:=AE.ce 0 (by decide)
   have ce1:=AE.ce 1 (by decide)
   have ce2:=AE.ce 2 (by decide)
   have ce3:=AE.ce 3 (by decide)
   have ce4:=AE.ce 4 (by decide)
   have cx0:=AE.cx 0 (by decide)
   have co0:=AE.co 0 (by decide)
   have cf0:=AE.fo 0
   have cx1:=AE.cx 1 (by decide)
   have co1:=AE.co 1 (by decide)
   have cf1:=AE.fo 1
   have cx2:=AE.cx 2 (by decide)
   have co2:=AE.co 2 (by decide)
   have cf2:=AE.fo 2
   have cx3:=AE.cx 3 (by decide)
   have co3:=AE.co 3 (by decide)
   have cf3:=AE.fo 3
   have cx4:=AE.cx 4 (by decide)
   have co4:=AE.co 4 (by decide)
   have cf4:=AE.fo 4
   have cx5:=AE.cx 5 (by decide)
   have co5:=AE.co 5 (by decide)
   have cf5:=AE.fo 5
   have cx6:=AE.cx 6 (by decide)
   have co6:=AE.co 6 (by decide)
   have cf6:=AE.fo 6
   have cx7:=AE.cx 7 (by decide)
   have co7:=AE.co 7 (by decide)
   have cf7:=AE.fo 7
   have cx8:=AE.cx 8 (by decide)
   have co8:=AE.co 8 (by decide)
   have cf8:=AE.fo 8
   have AF:=(((((((((AE.so 0 (.int .i64 (ontoN S))).so 1 (.slice oa on oc)).so 2 (.bool Y)).so 3 (.bool F)).so 4 (.int .i64 (radL K R T))).so 5 (.bool (isSum K R T))).so 6 (.slice fa fn fc)).so 7 (.bool L)).so 8 (.bool P))
   have bF:=(((((((((bE.setCell (p:=⟨o,0,none⟩) lowx.2.2 (.int .i64 (ontoN S))).setCell (p:=⟨o,1,none⟩) lowx.2.2 (.slice oa on oc)).setCell (p:=⟨o,2,none⟩) lowx.2.2 (.bool Y)).setCell (p:=⟨o,3,none⟩) lowx.2.2 (.bool F)).setCell (p:=⟨o,4,none⟩) lowx.2.2 (.int .i64 (radL K R T))).setCell (p:=⟨o,5,none⟩) lowx.2.2 (.bool (isSum K R T))).setCell (p:=⟨o,6,none⟩) lowx.2.2 (.slice fa fn fc)).setCell (p:=⟨o,7,none⟩) lowx.2.2 (.bool L)).setCell (p:=⟨o,8,none⟩) lowx.2.2 (.bool P))
   obtain ⟨WF,hWF⟩ : ∃ W : World,(((((((((WE.setCell ⟨o,0,none⟩ (.int .i64 (ontoN S))).setCell ⟨o,1,none⟩ (.slice oa on oc)).setCell ⟨o,2,none⟩ (.bool Y)).setCell ⟨o,3,none⟩ (.bool F)).setCell ⟨o,4,none⟩ (.int .i64 (radL K R T))).setCell ⟨o,5,none⟩ (.bool (isSum K R T))).setCell ⟨o,6,none⟩ (.slice fa fn fc)).setCell ⟨o,7,none⟩ (.bool L)).setCell ⟨o,8,none⟩ (.bool P)) = W:=⟨_,rfl⟩
   rw [hWF] at AF bF
   have cr0:=AF.co 0 (by decide)
   have cr1:=AF.co 1 (by decide)
   have cr2:=AF.co 2 (by decide)
   have cr3:=AF.co 3 (by decide)
   have cr4:=AF.co 4 (by decide)
   have cr5:=AF.co 5 (by decide)
   have cr6:=AF.co 6 (by decide)
   have cr7:=AF.co 7 (by decide)
   have cr8:=AF.co 8 (by decide)
   replace hWF:=Hd hWF
   replace cr0:=Hd cr0
   replace cr1:=Hd cr1
   replace cr2:=Hd cr2
   replace cr3:=Hd cr3
   replace cr4:=Hd cr4
   replace cr5:=Hd cr5
   replace cr6:=Hd cr6
   replace cr7:=Hd cr7
   replace cr8:=Hd cr8
   obtain ⟨l1,l2,l3⟩:=AF.lists
   have hrep : RepIs w.heap.size WF K R T (.agg #[.int .i64 (ontoN S),.slice oa on oc,.bool Y,.bool F,.int .i64 (radL K R T),.bool (isSum K R T),.slice fa fn fc,.bool L,.bool P]):=⟨Y,F,oa,on,oc,fa,fn,fc,hY.out,hF.out,by rw [hS.out,hL.out,hP.out],by rw [hS.out]; exact l1,l2,l3⟩
   clear AE AF l1 l2 l3 bE hg1 hG1 hT1 hB i1 i2 i3 hsum hrad hsm AC AD bc bd hN
   replace hrep:=Hd hrep
   replace bF:=Hd bF
   have ix0:=idx5_0
   have ix1:=idx5_1
   have ix2:=idx5_2
   have ix3:=idx5_3
   have ix4:=idx5_4
   go_wp2
   refine wp_loop_rounds 6 ?_
   iterate 6
    rw [rounds_succ]
    go_wp2
   rw [hWF.out]
   exact bodyPost_ret (v:=.tuple #[.agg #[.int .i64 (ontoN S),.slice oa on oc,.bool Y,.bool F,.int .i64 (radL K R T),.bool (isSum K R T),.slice fa fn fc,.bool L,.bool P],.nilIface]) (by simp [results,Tryz.results23,go_sem,cr0.out,cr1.out,cr2.out,cr3.out,cr4.out,cr5.out,cr6.out,cr7.out,cr8.out]) rfl ⟨_,_,rfl,bF.out,rfl,hrep.out⟩
end Go.Proofs.YtncpnaoabkjegaaGreatDoor
namespace Go.Proofs.YtncpnaoabkjegaaGreatDoor
theorem takes_wide {K R c e : Nat} {T N : List Int} (hr : RuleOk K R T) (h : TakesBack K R T c N) : TakesBack K R T (c + e) (wideT K c e N):=by
 intro w hw hl
 have hv : (imgP K R T w).length = 2 * (c + e) + 1:=by rw [imgP_length]; omega
 rw [wideT_at hr.k1 _ (imgP_syms hr.k1 hr.syms) hv]
 have hc:=img_cut (K:=K) (R:=R) (T:=T) (x:=w) (i:=e) (m:=2 * (R + c) + 1) (by omega)
 rw [show 2 * (R + c) + 1 - 2 * R = 2 * c + 1 by omega] at hc
 rw [← hc,h _ (syms_take (syms_drop hw _) _) (by rw [List.length_take,List.length_drop]; omega),sub_get (by omega)]
 congr 1; omega
theorem takes_narrow {K R c e : Nat} {T N : List Int} (hr : RuleOk K R T) (h : TakesBack K R T (c + e) (wideT K c e N)) : TakesBack K R T c N:=by
 intro w hw hl
 have hz : Syms K (List.replicate e (0 : Int)):=fun x hx => by rw [List.eq_of_mem_replicate hx]; have:=hr.k1; omega
 have hs : Syms K (List.replicate e (0 : Int) ++ w ++ List.replicate e 0):=fun x hx => by
  rcases List.mem_append.1 hx with hx | hx
  ·rcases List.mem_append.1 hx with hx | hx
   ·exact hz x hx
   ·exact hw x hx
  ·exact hz x hx
 have hle : (List.replicate e (0 : Int) ++ w ++ List.replicate e 0).length = 2 * (R + (c + e)) + 1:=by simp; omega
 have h1:=h _ hs hle
 have hv : (imgP K R T (List.replicate e (0 : Int) ++ w ++ List.replicate e 0)).length = 2 * (c + e) + 1:=by rw [imgP_length]; omega
 rw [wideT_at hr.k1 _ (imgP_syms hr.k1 hr.syms) hv] at h1
 have hc:=img_cut (K:=K) (R:=R) (T:=T) (x:=List.replicate e (0 : Int) ++ w ++ List.replicate e 0) (i:=e) (m:=2 * (R + c) + 1) (by omega)
 rw [show 2 * (R + c) + 1 - 2 * R = 2 * c + 1 by omega] at hc
 have hmid : ((List.replicate e (0 : Int) ++ w ++ List.replicate e 0).drop e).take (2 * (R + c) + 1) = w:=by
  rw [List.append_assoc,List.drop_append_of_le_length (by simp),List.drop_eq_nil_of_le (by simp),List.nil_append,← hl,List.take_append_of_le_length (Nat.le_refl _),List.take_length]
 rw [← hc,hmid] at h1
 rw [h1,List.getD_eq_getElem?_getD,List.getD_eq_getElem?_getD,List.append_assoc,List.getElem?_append_right (by simp; omega),List.length_replicate,List.getElem?_append_left (by omega)]
 congr 2; omega
theorem takes_unique {K R d : Nat} {T N M : List Int} (hr : RuleOk K R T) (ho : Onto K R T) (lN : N.length = pw K (2 * d + 1)) (lM : M.length = pw K (2 * d + 1)) (h : TakesBack K R T d N) (k : TakesBack K R T d M) : N = M:=by
 refine ext_getD (by omega) fun j hj => ?_
 obtain ⟨w,hw,hl,hi⟩:=ho (digs K (2 * d + 1) j) (digs_syms hr.k1 _ _)
 rw [digs_length] at hl
 have h1:=h w hw (by omega)
 have h2:=k w hw (by omega)
 rw [hi,numW_digs hr.k1 _ _ (by omega)] at h1 h2
 rw [h1,h2]
theorem takes_sym {K R d : Nat} {T S : List Int} (ho : Onto K R T) (h : TakesBack K R T d S) : TakesBack K d S R T:=by
 intro y hy hl
 have h1:=takes_back ho h hy
 have e1 : imgP K R T (imgP K d S y) = [T.getD (numW K (imgP K d S y)) 0]:=by
  have hn : (imgP K d S y).length = 2 * R + 1:=by rw [imgP_length]; omega
  unfold imgP
  rw [show ((List.range (y.length - 2 * d)).map fun i => S.getD (numW K ((y.drop i).take (2 * d + 1))) 0) = imgP K d S y from rfl,hn,show 2 * R + 1 - 2 * R = 1 by omega]
  simp only [List.range_one,List.map_cons,List.map_nil,List.drop_zero]
  rw [List.take_of_length_le (by omega)]
 rw [e1,show y.length - 2 * (R + d) = 1 by omega] at h1
 have h2:=congrArg (fun l : List Int => l.getD 0 0) h1
 simp only [List.getD_cons_zero] at h2
 rw [h2,sub_get (by omega)]
 congr 1; omega
theorem takes_onto {K R d : Nat} {T S : List Int} (hr : RuleOk K R T) (h : TakesBack K R T d S) : Onto K d S:=by
 intro y hy
 have hz : Syms K (List.replicate (R + d) (0 : Int)):=fun x hx => by rw [List.eq_of_mem_replicate hx]; have:=hr.k1; omega
 have hs : Syms K (List.replicate (R + d) (0 : Int) ++ y ++ List.replicate (R + d) 0):=fun x hx => by
  rcases List.mem_append.1 hx with hx | hx
  ·rcases List.mem_append.1 hx with hx | hx
   ·exact hz x hx
   ·exact hy x hx
  ·exact hz x hx
 have hlen : (List.replicate (R + d) (0 : Int) ++ (y ++ List.replicate (R + d) (0 : Int))).length = y.length + 2 * (R + d):=by simp; omega
 refine ⟨imgP K R T (List.replicate (R + d) (0 : Int) ++ y ++ List.replicate (R + d) 0),imgP_syms hr.k1 hr.syms,by rw [imgP_length]; simp; omega,?_⟩
 rw [takes_there h hs,List.append_assoc,List.drop_append_of_le_length (by simp),List.drop_eq_nil_of_le (by simp),List.nil_append,hlen,Nat.add_sub_cancel,List.take_append_of_le_length (Nat.le_refl _),List.take_length]
theorem find_is {K R : Nat} {T : List Int} {c : Nat} (ht : (tryF K R T c).1 = true) : ∀ m e,e ≤ c → c < e + m → (∀ b,e ≤ b → b < c → (tryF K R T b).1 = false) → findF K R T m e = some (c,(tryF K R T c).2):=by
 intro m
 induction m with
 | zero => intro e h1 h2; omega
 | succ m ih =>
  intro e h1 h2 h3
  unfold findF
  by_cases e1 : e = c
  ·subst e1; rw [if_pos ht]
  ·rw [if_neg (by rw [h3 e (Nat.le_refl _) (by omega)]; decide)]
   exact ih _ (by omega) (by omega) fun b hb hbc => h3 b (by omega) hbc
/-- A least table that takes images back is the one that is found. -/
theorem find_least {K R Q : Nat} {T N : List Int} (hr : RuleOk K R T) (ho : Onto K R T) (hN : RuleOk K Q N) (hl : Least K Q N) (h : TakesBack K R T Q N) : findP K R T = some (Q,N):=by
 have hQ3:=hN.r3
 have ht:=takes_try hr h
 have hf : ∀ b,0 ≤ b → b < Q → (tryF K R T b).1 = false:=fun b _ hb => by
  cases e : (tryF K R T b).1 with
  | false => rfl
  | true =>
   have h1:=try_takes hr e
   have hok:=takes_ok hr ho (by omega) (tryF_len K R T b) h1
   obtain ⟨P,rfl⟩ : ∃ P,Q = P + 1:=⟨Q - 1,by omega⟩
   obtain ⟨a,rfl⟩ : ∃ a,P = b + a:=⟨P - b,by omega⟩
   have hok2:=wideT_ok (d:=a) hok (by omega)
   have h2:=takes_wide (e:=a) hr h1
   have h3:=takes_wide (e:=1) hr h2
   have:=takes_unique hr ho hN.len (wideT_length ..) h h3
   exact absurd this (hl _ _ rfl hok2)
 have:=find_is ht 4 0 (Nat.zero_le _) (by omega) hf
 rw [takes_unique hr ho hN.len (tryF_len K R T Q) h (try_takes hr ht)]
 exact this
/-- The inverse of the inverse is the rule with its least radius. -/
theorem find_twice {K R d Q : Nat} {T S N : List Int} (hr : RuleOk K R T) (ho : Onto K R T) (h : findP K R T = some (d,S)) (hn : NarrIs K R T Q N) : findP K d S = some (Q,N):=by
 obtain ⟨-,h0,h1,rfl,h2⟩:=find_some 4 0 h
 obtain ⟨hN,hl,e,rfl,rfl⟩:=hn
 have h4:=try_takes hr h1
 have hok:=takes_ok hr ho (by omega) (tryF_len ..) h4
 exact find_least hok (takes_onto hr h4) hN hl (takes_narrow hok (takes_sym ho h4))
theorem right_ext {K R : Nat} {T : List Int} (h : RuleOk K R T) (hp : unlikeP K T 1 = true) {u : List Int} (hu : Syms K u) (hl : u.length = 2 * R) {y : Int} (y0 : 0 ≤ y) (y1 : y < K) : ∃ s : Int,0 ≤ s ∧ s < K ∧ T.getD (numW K (u ++ [s])) 0 = y:=by
 have h1:=h.k1
 have hn:=numW_lt u hu
 rw [hl] at hn
 have hf:=unlikeP_full hp (numW K u * K) (by rw [h.half.2]; exact Nat.mul_lt_mul_of_pos_right hn (by omega)) (by rw [Nat.div_one,Nat.mul_mod_left])
 obtain ⟨s,hs,he⟩:=fullP_all h1 h.syms hf y.toNat (by omega)
 rw [Nat.mul_one] at he
 refine ⟨s,by omega,by omega,?_⟩
 rw [numW_snoc,Int.toNat_natCast,he]
 omega
theorem left_ext {K R : Nat} {T : List Int} (h : RuleOk K R T) (hp : unlikeP K T (T.length / K) = true) {u : List Int} (hu : Syms K u) (hl : u.length = 2 * R) {y : Int} (y0 : 0 ≤ y) (y1 : y < K) : ∃ s : Int,0 ≤ s ∧ s < K ∧ T.getD (numW K (s :: u)) 0 = y:=by
 obtain ⟨s,s0,s1,e⟩:=right_ext (mirT_ok h) (by rw [(mir_sides h).2]; exact hp) (syms_rev hu) (by rw [List.length_reverse,hl]) y0 y1
 refine ⟨s,s0,s1,?_⟩
 have sw : Syms K (u.reverse ++ [s]):=syms_snoc s0 s1 (syms_rev hu)
 rw [mirT_at h.k1 h.len _ sw (by simp [hl]),List.reverse_append,List.reverse_reverse] at e
 exact e
/-- The first place where two words differ. -/
theorem firstP_ne {a b : List Int} (hl : a.length = b.length) (hne : a ≠ b) : ∃ t,t < a.length ∧ a.getD t 0 ≠ b.getD t 0 ∧ ∀ i,i < t → a.getD i 0 = b.getD i 0:=by
 have key : ∀ n,(∃ t,t ≤ n ∧ t < a.length ∧ a.getD t 0 ≠ b.getD t 0) → ∃ t,t < a.length ∧ a.getD t 0 ≠ b.getD t 0 ∧ ∀ i,i < t → a.getD i 0 = b.getD i 0:=by
  intro n
  induction n with
  | zero => rintro ⟨t,h1,h2,h3⟩; exact ⟨t,h2,h3,fun i hi => by omega⟩
  | succ n ih =>
   rintro ⟨t,h1,h2,h3⟩
   by_cases q : ∃ t,t ≤ n ∧ t < a.length ∧ a.getD t 0 ≠ b.getD t 0
   ·exact ih q
   ·refine ⟨t,h2,h3,fun i hi => Classical.byContradiction fun r => q ⟨i,by omega,by omega,r⟩⟩
 obtain ⟨j,hj,h⟩:=ne_at hl hne
 exact key j ⟨j,Nat.le_refl _,hj,h⟩
theorem right_no_twins {K R : Nat} {T : List Int} (h : RuleOk K R T) (hp : unlikeP K T 1 = true) (a b : List Int) : ¬ IsTwins K R T a b:=fun t => by
 have hw:=(unlike_rightW h).1 hp
 have hl:=t.len
 obtain ⟨i,hi,hne,heq⟩:=firstP_ne hl t.ne
 have hi2 : 2 * R ≤ i:=by
  apply Classical.byContradiction
  intro q
  have e:=congrArg (fun l : List Int => l.getD i 0) t.front
  rw [List.getD_eq_getElem?_getD,List.getD_eq_getElem?_getD,List.getElem?_take,List.getElem?_take,if_pos (by omega),if_pos (by omega),← List.getD_eq_getElem?_getD,← List.getD_eq_getElem?_getD] at e
  exact hne e
 have hu : (a.drop (i - 2 * R)).take (2 * R) = (b.drop (i - 2 * R)).take (2 * R):=ext_getD (by simp only [List.length_take,List.length_drop]; omega) fun k hk => by
  rw [List.length_take,List.length_drop] at hk
  rw [sub_get (by omega),sub_get (by omega)]
  exact heq _ (by omega)
 have win : ∀ c : List Int,c.length = a.length → (c.drop (i - 2 * R)).take (2 * R + 1) = (c.drop (i - 2 * R)).take (2 * R) ++ [c.getD i 0]:=fun c hc => by
  have hk : 2 * R < (c.drop (i - 2 * R)).length:=by rw [List.length_drop]; omega
  rw [List.take_succ_eq_append_getElem hk]
  congr 2
  rw [List.getElem_drop]
  have : i - 2 * R + 2 * R = i:=by omega
  simp [this,List.getD,show i < c.length by omega]
 have e:=congrArg (fun l : List Int => l.getD (i - 2 * R) 0) t.img
 rw [imgP_getD _ _ _ _ _ (by omega),imgP_getD _ _ _ _ _ (by omega),win a rfl,win b hl.symm,hu] at e
 have ga:=getD_syms t.sa hi
 have gb:=getD_syms t.sb (i:=i) (by omega)
 exact hw _ (syms_take (syms_drop t.sb _) _) (by rw [List.length_take,List.length_drop]; omega) _ _ ga.1 ga.2 gb.1 gb.2 hne e
theorem side_no_twins {K R : Nat} {T : List Int} (h : RuleOk K R T) (hp : unlikeP K T (T.length / K) = true ∨ unlikeP K T 1 = true) (a b : List Int) : ¬ IsTwins K R T a b:=fun t => by
 rcases hp with hp | hp
 ·exact right_no_twins (mirT_ok h) (by rw [(mir_sides h).2]; exact hp) _ _ (mir_twins h t)
 ·exact right_no_twins h hp a b t
/-- Words all of whose windows have one answer. -/
def AllAt (K R : Nat) (T : List Int) (z : Int) (x : List Int) : Prop:=∀ j,j + 2 * R < x.length → T.getD (numW K ((x.drop j).take (2 * R + 1))) 0 = z
theorem all_right {K R : Nat} {T : List Int} (h : RuleOk K R T) (hp : unlikeP K T 1 = true) {z : Int} (z0 : 0 ≤ z) (z1 : z < K) {x : List Int} (sx : Syms K x) (hx : AllAt K R T z x) (hl : 2 * R ≤ x.length) : ∃ v : Int,0 ≤ v ∧ v < K ∧ AllAt K R T z (x ++ [v]):=by
 obtain ⟨v,v0,v1,e⟩:=right_ext h hp (u:=x.drop (x.length - 2 * R)) (syms_drop sx _) (by rw [List.length_drop]; omega) z0 z1
 refine ⟨v,v0,v1,fun j hj => ?_⟩
 rw [List.length_append,List.length_singleton] at hj
 by_cases q : j + 2 * R < x.length
 ·rw [List.drop_append_of_le_length (by omega),List.take_append_of_le_length (by rw [List.length_drop]; omega)]
  exact hx j q
 ·obtain rfl : j = x.length - 2 * R:=by omega
  rw [List.drop_append_of_le_length (by omega),List.take_of_length_le (by simp; omega)]
  exact e
theorem all_left {K R : Nat} {T : List Int} (h : RuleOk K R T) (hp : unlikeP K T (T.length / K) = true) {z : Int} (z0 : 0 ≤ z) (z1 : z < K) {x : List Int} (sx : Syms K x) (hx : AllAt K R T z x) (hl : 2 * R ≤ x.length) : ∃ v : Int,0 ≤ v ∧ v < K ∧ AllAt K R T z (v :: x):=by
 obtain ⟨v,v0,v1,e⟩:=left_ext h hp (u:=x.take (2 * R)) (syms_take sx _) (by rw [List.length_take]; omega) z0 z1
 refine ⟨v,v0,v1,fun j hj => ?_⟩
 rw [List.length_cons] at hj
 cases j with
 | zero => rw [List.drop_zero,List.take_succ_cons]; exact e
 | succ j => rw [List.drop_succ_cons]; exact hx j (by omega)
theorem all_word {K R : Nat} {T : List Int} (h : RuleOk K R T) (hl : unlikeP K T (T.length / K) = true) (hr : unlikeP K T 1 = true) (hK : 2 ≤ K) (hR : 1 ≤ R) {z : Int} (z0 : 0 ≤ z) (z1 : z < K) : ∀ L M,∃ x,Syms K x ∧ AllAt K R T z x ∧ x.length = L + 2 * R + M ∧ x.getD L 0 = 1:=by
 intro L
 have left : ∃ x,Syms K x ∧ AllAt K R T z x ∧ x.length = L + 2 * R ∧ x.getD L 0 = 1:=by
  induction L with
  | zero =>
   refine ⟨1 :: List.replicate (2 * R - 1) 0,fun q hq => ?_,fun j hj => ?_,by simp; omega,rfl⟩
   ·rcases List.mem_cons.1 hq with rfl | hq
    ·omega
    ·rw [List.eq_of_mem_replicate hq]; omega
   ·rw [List.length_cons,List.length_replicate] at hj; omega
  | succ L ih =>
   obtain ⟨x,sx,ax,lx,dx⟩:=ih
   obtain ⟨v,v0,v1,av⟩:=all_left h hl z0 z1 sx ax (by omega)
   exact ⟨v :: x,syms_cons v0 v1 sx,av,by simp [lx]; omega,by rw [List.getD_cons_succ]; exact dx⟩
 intro M
 induction M with
 | zero => exact left
 | succ M ih =>
  obtain ⟨x,sx,ax,lx,dx⟩:=ih
  obtain ⟨v,v0,v1,av⟩:=all_right h hr z0 z1 sx ax (by omega)
  refine ⟨x ++ [v],syms_snoc v0 v1 sx,av,by simp [lx]; omega,?_⟩
  rw [← dx]
  simp [List.getD,List.getElem?_append_left (show L < x.length by omega)]
/-- A rule that permutes at both sides is not one to one, but for one symbol or radius 0. -/
theorem sides_not_one {K R : Nat} {T : List Int} (h : RuleOk K R T) (hl : unlikeP K T (T.length / K) = true) (hr : unlikeP K T 1 = true) (hK : 2 ≤ K) (hR : 1 ≤ R) : NotOne K R T:=fun n => by
 have hT : 0 < T.length:=by rw [h.len]; exact pw_pos _ h.k1
 have gz:=getD_syms h.syms hT
 obtain ⟨x,sx,ax,lx,dx⟩:=all_word h hl hr hK hR gz.1 gz.2 n (n + 1)
 have sO : Syms K (List.replicate (2 * n + 1) (0 : Int)):=fun q hq => by rw [List.eq_of_mem_replicate hq]; omega
 refine ⟨x.take (2 * n + 1),List.replicate (2 * n + 1) 0,syms_take sx _,sO,by rw [List.length_take]; omega,by simp,?_,?_⟩
 ·rw [List.getD_eq_getElem?_getD,List.getElem?_take,if_pos (by omega),← List.getD_eq_getElem?_getD,dx]
  simp [List.getD,show n < 2 * n + 1 by omega]
 ·refine ext_getD (by rw [imgP_length,imgP_length,List.length_take]; simp; omega) fun j hj => ?_
  rw [imgP_length,List.length_take] at hj
  rw [imgP_getD _ _ _ _ _ (by rw [List.length_take]; omega),imgP_getD _ _ _ _ _ (by simp; omega)]
  have e1 : ((x.take (2 * n + 1)).drop j).take (2 * R + 1) = (x.drop j).take (2 * R + 1):=by rw [List.drop_take,List.take_take,Nat.min_eq_left (by omega)]
  rw [e1,ax j (by omega),List.drop_replicate,List.take_replicate]
  congr 1
  have key : ∀ m,numW K (List.replicate m (0 : Int)) = 0:=fun m => by
   induction m with
   | zero => rfl
   | succ m ih => rw [List.replicate_succ',numW_snoc,ih]; simp
  exact (key _).symm
open Go.RowKit
set_option maxRecDepth 100000
def sLab : ByteArray:=⟨#[108,97,98]⟩
/-- The report that tells nothing. -/
abbrev zRep : Value:=.agg #[.int .i64 0,.slice none 0 0,.bool false,.bool false,.int .i64 0,.bool false,.slice none 0 0,.bool false,.bool false]
/-- A report's cells. -/
structure Cells9 (w : World) (g : Nat) (v0 v1 v2 v3 v4 v5 v6 v7 v8 : Value) : Prop where
 c0 : w.cell? ⟨g,0,none⟩ = some v0
 c1 : w.cell? ⟨g,1,none⟩ = some v1
 c2 : w.cell? ⟨g,2,none⟩ = some v2
 c3 : w.cell? ⟨g,3,none⟩ = some v3
 c4 : w.cell? ⟨g,4,none⟩ = some v4
 c5 : w.cell? ⟨g,5,none⟩ = some v5
 c6 : w.cell? ⟨g,6,none⟩ = some v6
 c7 : w.cell? ⟨g,7,none⟩ = some v7
 c8 : w.cell? ⟨g,8,none⟩ = some v8
theorem Cells9.below {w w' : World} {g : Nat} {v0 v1 v2 v3 v4 v5 v6 v7 v8 : Value} (h : Cells9 w g v0 v1 v2 v3 v4 v5 v6 v7 v8) (hb : Below w.heap.size w w') : Cells9 w' g v0 v1 v2 v3 v4 v5 v6 v7 v8 :=
 ⟨cell_keep hb h.c0,cell_keep hb h.c1,cell_keep hb h.c2,cell_keep hb h.c3,cell_keep hb h.c4,cell_keep hb h.c5,cell_keep hb h.c6,cell_keep hb h.c7,cell_keep hb h.c8⟩
theorem Cells9.alloc (w : World) (T : TypeId) (v0 v1 v2 v3 v4 v5 v6 v7 v8 : Value) : Cells9 (w.alloc (.cells #[v0,v1,v2,v3,v4,v5,v6,v7,v8] T)) w.heap.size v0 v1 v2 v3 v4 v5 v6 v7 v8:=by
 refine ⟨?_,?_,?_,?_,?_,?_,?_,?_,?_⟩ <;> simp [go_sem]
set_option maxHeartbeats 1000000 in
theorem look_bad (r : Nat → Addr) (k R : Int) (va : Option Addr) (vn vc : Nat) (T : List Int) (t : Int × List (ByteArray × Int)) (w : World) (hg : Glob r w) (h : IntsAt w (.slice va vn vc) T) (hc : smallP k R T = some t) :
 Calls Tryz.prog 23 #[.agg #[.int .i64 k,.int .i64 R,.slice va vn vc]] w (Ret2 (fun x y w' => x = zRep ∧ ErrIs r w' (under sLab 0 (some t)) y) w):=by
 have b0:=belowAlloc w (.cells #[.int .i64 k,.int .i64 R,.slice va vn vc] 24)
 have b1:=belowAlloc (w.alloc (.cells #[.int .i64 k,.int .i64 R,.slice va vn vc] 24)) (.cells #[.int .i64 0,.slice none 0 0,.bool false,.bool false,.int .i64 0,.bool false,.slice none 0 0,.bool false,.bool false] 46)
 have b01:=Below.step b0 b1
 have q : Box3 (w.alloc (.cells #[.int .i64 k,.int .i64 R,.slice va vn vc] 24)) w.heap.size (.int .i64 k) (.int .i64 R) (.slice va vn vc):=by simp [Box3,go_sem]
 replace q:=q.below b1
 obtain ⟨f1,hR1,n42,-⟩:=((Rows.void w.heap.size w).below b0).mkN (42,0) (by simp) 46 9 #[.int .i64 0,.slice none 0 0,.bool false,.bool false,.int .i64 0,.bool false,.slice none 0 0,.bool false,.bool false] rfl
 have hsz : (w.alloc (.cells #[.int .i64 k,.int .i64 R,.slice va vn vc] 24)).heap.size = w.heap.size + 1:=by simp
 rw [hsz] at n42
 obtain ⟨w1,hw1⟩ : ∃ W : World,(w.alloc (.cells #[.int .i64 k,.int .i64 R,.slice va vn vc] 24)).alloc (.cells #[.int .i64 0,.slice none 0 0,.bool false,.bool false,.int .i64 0,.bool false,.slice none 0 0,.bool false,.bool false] 46) = W:=⟨_,rfl⟩
 rw [hw1] at q b01 hR1
 replace hg:=Hd (hg.below b01)
 replace h:=Hd (h.below b01)
 replace hc:=Hd hc
 replace hR1:=Hd hR1
 obtain ⟨o,ho⟩ : ∃ o,w.heap.size + 1 = o:=⟨_,rfl⟩
 rw [ho] at n42
 replace ho:=Hd ho
 replace n42:=Hd n42
 replace hw1:=Hd hw1
 clear b0 b1 hsz
 obtain ⟨⟨z0,z1,z2⟩,-,-,-⟩:=q
 go_enter Tryz.func23,Tryz.ntmps23
 go_upto_region 1 with fail
 rw [hw1.out,ho.out]
 go_wp2_with fail
 refine (small_any r k R va vn vc T w1 hg.out h.out).mono ?_
 rintro e w2 ⟨x,rfl,b2,he⟩
 rw [hc.out] at he
 obtain ⟨T2,p2,rfl⟩:=he.some_shape
 clear z0 z1 z2
 have b12:=Below.step b01 b2
 have hund:=under_any r sLab 0 (some t) _ w2 he
 replace he:=Hd he
 go_wp2_with fail
 refine hund.mono ?_
 rintro e w3 ⟨y,rfl,b3,hy⟩
 clear hund
 have b13:=Below.step b12 b3
 have R3:=(hR1.out.below b2).below b3
 have co0:=R3.cellN n42.out 0 (by decide)
 have cf0:=R3.frzN n42.out 0
 have co1:=R3.cellN n42.out 1 (by decide)
 have cf1:=R3.frzN n42.out 1
 have co2:=R3.cellN n42.out 2 (by decide)
 have cf2:=R3.frzN n42.out 2
 have co3:=R3.cellN n42.out 3 (by decide)
 have cf3:=R3.frzN n42.out 3
 have co4:=R3.cellN n42.out 4 (by decide)
 have cf4:=R3.frzN n42.out 4
 have co5:=R3.cellN n42.out 5 (by decide)
 have cf5:=R3.frzN n42.out 5
 have co6:=R3.cellN n42.out 6 (by decide)
 have cf6:=R3.frzN n42.out 6
 have co7:=R3.cellN n42.out 7 (by decide)
 have cf7:=R3.frzN n42.out 7
 have co8:=R3.cellN n42.out 8 (by decide)
 have cf8:=R3.frzN n42.out 8
 have lo:=(R3.lowN n42.out).1
 have bF:=(((((((((b13.setCell (p:=⟨o,0,none⟩) lo (.int .i64 0)).setCell (p:=⟨o,1,none⟩) lo (.slice none 0 0)).setCell (p:=⟨o,2,none⟩) lo (.bool false)).setCell (p:=⟨o,3,none⟩) lo (.bool false)).setCell (p:=⟨o,4,none⟩) lo (.int .i64 0)).setCell (p:=⟨o,5,none⟩) lo (.bool false)).setCell (p:=⟨o,6,none⟩) lo (.slice none 0 0)).setCell (p:=⟨o,7,none⟩) lo (.bool false)).setCell (p:=⟨o,8,none⟩) lo (.bool false))
 obtain ⟨g0,Q0,m0,-⟩:=R3.stN n42.out 0 (.int .i64 0)
 obtain ⟨g1,Q1,m1,-⟩:=Q0.stN m0 1 (.slice none 0 0)
 obtain ⟨g2,Q2,m2,-⟩:=Q1.stN m1 2 (.bool false)
 obtain ⟨g3,Q3,m3,-⟩:=Q2.stN m2 3 (.bool false)
 obtain ⟨g4,Q4,m4,-⟩:=Q3.stN m3 4 (.int .i64 0)
 obtain ⟨g5,Q5,m5,-⟩:=Q4.stN m4 5 (.bool false)
 obtain ⟨g6,Q6,m6,-⟩:=Q5.stN m5 6 (.slice none 0 0)
 obtain ⟨g7,Q7,m7,-⟩:=Q6.stN m6 7 (.bool false)
 obtain ⟨g8,Q8,m8,-⟩:=Q7.stN m7 8 (.bool false)
 have hyF : ErrIs r (((((((((w3.setCell ⟨o,0,none⟩ (.int .i64 0)).setCell ⟨o,1,none⟩ (.slice none 0 0)).setCell ⟨o,2,none⟩ (.bool false)).setCell ⟨o,3,none⟩ (.bool false)).setCell ⟨o,4,none⟩ (.int .i64 0)).setCell ⟨o,5,none⟩ (.bool false)).setCell ⟨o,6,none⟩ (.slice none 0 0)).setCell ⟨o,7,none⟩ (.bool false)).setCell ⟨o,8,none⟩ (.bool false)) (under sLab 0 (some t)) y:=by
  have cs : ∀ (W : World) (f : Names) (cs : List Value) (c0 : ∀ s,cs[0]? ≠ some (.string s)) (R : Rows w.heap.size W f) (n : f (42,0) = some (boxN 46 9 o cs)) (k : Nat) (u : Value),ErrIs r W (under sLab 0 (some t)) y → ErrIs r (W.setCell ⟨o,k,none⟩ u) (under sLab 0 (some t)) y:=fun W f cs c0 R n k u h => h.set (b:=o) (i:=k) (fun s q => c0 s ((R.cellN n 0 (by decide)).symm.trans q)) u
  exact (cs _ _ _ (by intro s q; simp at q) Q7 m7 8 _ (cs _ _ _ (by intro s q; simp at q) Q6 m6 7 _ (cs _ _ _ (by intro s q; simp at q) Q5 m5 6 _ (cs _ _ _ (by intro s q; simp at q) Q4 m4 5 _ (cs _ _ _ (by intro s q; simp at q) Q3 m3 4 _ (cs _ _ _ (by intro s q; simp at q) Q2 m2 3 _ (cs _ _ _ (by intro s q; simp at q) Q1 m1 2 _ (cs _ _ _ (by intro s q; simp at q) Q0 m0 1 _ (cs _ _ _ (by intro s q; simp at q) R3 n42.out 0 _ hy)))))))))
 obtain ⟨WF,hWF⟩ : ∃ W : World,(((((((((w3.setCell ⟨o,0,none⟩ (.int .i64 0)).setCell ⟨o,1,none⟩ (.slice none 0 0)).setCell ⟨o,2,none⟩ (.bool false)).setCell ⟨o,3,none⟩ (.bool false)).setCell ⟨o,4,none⟩ (.int .i64 0)).setCell ⟨o,5,none⟩ (.bool false)).setCell ⟨o,6,none⟩ (.slice none 0 0)).setCell ⟨o,7,none⟩ (.bool false)).setCell ⟨o,8,none⟩ (.bool false)) = W:=⟨_,rfl⟩
 rw [hWF] at bF hyF Q8
 have cr0:=Hd (Q8.cellN m8 0 (by decide))
 have cr1:=Hd (Q8.cellN m8 1 (by decide))
 have cr2:=Hd (Q8.cellN m8 2 (by decide))
 have cr3:=Hd (Q8.cellN m8 3 (by decide))
 have cr4:=Hd (Q8.cellN m8 4 (by decide))
 have cr5:=Hd (Q8.cellN m8 5 (by decide))
 have cr6:=Hd (Q8.cellN m8 6 (by decide))
 have cr7:=Hd (Q8.cellN m8 7 (by decide))
 have cr8:=Hd (Q8.cellN m8 8 (by decide))
 replace hyF:=Hd hyF
 replace hWF:=Hd hWF
 replace bF:=Hd bF
 clear R3 n42 hR1 hg h hy he Q0 m0 Q1 m1 Q2 m2 Q3 m3 Q4 m4 Q5 m5 Q6 m6 Q7 m7 Q8 m8 b01 b2 b12 b3 b13 lo
 obtain ⟨T3,p3,rfl⟩ : ∃ T a,y = .iface T (.pointer (some a)):=by
  have hh:=hyF.out
  unfold under at hh
  exact hh.some_shape
 go_wp2
 rw [hWF.out]
 exact bodyPost_ret (v:=.tuple #[zRep,.iface T3 (.pointer (some p3))]) (by simp [results,Tryz.results23,go_sem,cr0.out,cr1.out,cr2.out,cr3.out,cr4.out,cr5.out,cr6.out,cr7.out,cr8.out]) rfl ⟨_,_,rfl,bF.out,rfl,hyF.out⟩
/-- A report's kind. -/
def kindB (Y F : Bool) : ByteArray:=if Y = true then ⟨#[114,101,118,101,114,115,105,98,108,101]⟩ else if F = true then ⟨#[111,110,116,111]⟩ else ⟨#[108,111,115,115,121]⟩
theorem kind_any (v0 v1 v4 v5 v6 v7 v8 : Value) (Y F : Bool) (w : World) :
 Calls Tryz.prog 31 #[.agg #[v0,v1,.bool Y,.bool F,v4,v5,v6,v7,v8]] w (Ret1 (fun x _ => x = .string (kindB Y F)) w):=by
 have b0:=belowAlloc w (.cells #[v0,v1,.bool Y,.bool F,v4,v5,v6,v7,v8] 46)
 cases Y <;> cases F <;> (go_enter Tryz.func31,Tryz.ntmps31; go_wp2; go_ret; exact ⟨_,rfl,b0,rfl⟩)
theorem heavy26 (r : Nat → Addr) (k R : Int) (va : Option Addr) (vn vc : Nat) (T : List Int) (w : World) (hg : Glob r w) (h : IntsAt w (.slice va vn vc) T) :
 Calls Tryz.prog 22 #[.agg #[.int .i64 k,.int .i64 R,.slice va vn vc]] w (Ret1 (fun x _ => ∃ b,x = .bool b ∧ (b = true ↔ 64 < T.length ∧ smallP k R T = none)) w):=by
 have b0:=belowAlloc w (.cells #[.int .i64 k,.int .i64 R,.slice va vn vc] 24)
 have q : Box3 (w.alloc (.cells #[.int .i64 k,.int .i64 R,.slice va vn vc] 24)) w.heap.size (.int .i64 k) (.int .i64 R) (.slice va vn vc):=by simp [Box3,go_sem]
 have lT:=h.len
 obtain ⟨tl,htl⟩ : ∃ t,T.length = t:=⟨_,rfl⟩
 rw [htl] at lT ⊢
 replace htl:=Hd htl
 replace hg:=Hd (hg.below b0)
 replace h:=Hd (h.below b0)
 obtain ⟨⟨z0,z1,z2⟩,-,-,-⟩:=q
 by_cases c : 64 < tl
 ·have d : decide (64 < (tl : Int)) = true:=decide_eq_true (by omega)
  have d' : decide ((tl : Int) > 64) = true:=decide_eq_true (by omega)
  go_enter Tryz.func22,Tryz.ntmps22
  go_wp2_with fail
  refine (small_any r k R va vn vc T _ hg.out h.out).mono ?_
  rintro e w1 ⟨x,rfl,b1,he⟩
  have b01:=Below.step b0 b1
  clear z0 z1 z2
  cases hc : smallP k R T with
  | none =>
   rw [hc] at he
   obtain rfl:=he.none_eq
   clear he
   go_wp2
   go_ret
   exact ⟨_,rfl,b01,true,rfl,⟨fun _ => ⟨c,hc⟩,fun _ => rfl⟩⟩
  | some t =>
   rw [hc] at he
   obtain ⟨T4,p4,rfl⟩:=he.some_shape
   clear he
   go_wp2
   go_ret
   exact ⟨_,rfl,b01,false,rfl,⟨fun q => (by cases q),fun q => (by rw [hc] at q; cases q.2)⟩⟩
 ·have d : decide (64 < (tl : Int)) = false:=decide_eq_false (by omega)
  have d' : decide ((tl : Int) > 64) = false:=decide_eq_false (by omega)
  go_enter Tryz.func22,Tryz.ntmps22
  go_wp2
  go_ret
  exact ⟨_,rfl,b0,false,rfl,⟨fun q => (by cases q),fun q => absurd q.1 c⟩⟩
/-- Rule 90. -/
def tab26 : List Int:=[0,1,0,1,1,0,1,0]
theorem tab26_ok : RuleOk 2 1 tab26:=⟨by decide,by decide,by decide,by decide,by intro x hx; simp [tab26] at hx; omega⟩
theorem tab26_u1 : unlikeP 2 tab26 1 = true:=by decide +kernel
theorem tab26_u4 : unlikeP 2 tab26 (tab26.length / 2) = true:=by decide +kernel
theorem tab26_not : NotOne 2 1 tab26:=sides_not_one tab26_ok tab26_u4 tab26_u1 (by decide) (by decide)
theorem tab26_on : ontoN (subR 2 (pw 2 (2 * 1)) tab26) = 1:=by decide +kernel
theorem tab26_rad : radL 2 1 tab26 = -1:=by
 unfold radL
 rw [(invE_ok tab26_ok (by decide)).1 tab26_not,if_neg (by unfold fresh; simp)]
set_option maxHeartbeats 2000000 in
theorem awake26 (r : Nat → Addr) (w : World) (hg : Glob r w) (hG : GlobE w) : Calls Tryz.prog 21 #[] w (Ret1 (fun x _ => x = .bool true) w):=by
 have bl:=belowAlloc w (.cells #[.int .i64 0,.int .i64 1,.int .i64 0,.int .i64 1,.int .i64 1,.int .i64 0,.int .i64 1,.int .i64 0] 3)
 have hlit:=lit_ints w tab26 #[.int .i64 0,.int .i64 1,.int .i64 0,.int .i64 1,.int .i64 1,.int .i64 0,.int .i64 1,.int .i64 0] rfl (by decide)
 replace hg:=hg.below bl
 replace hG:=hG.below bl
 have look:=look_ok r 2 1 (some ⟨w.heap.size,0,none⟩) 8 8 tab26 _ hg hG hlit tab26_ok (by decide)
 clear hlit
 replace hg:=Hd hg
 replace hG:=Hd hG
 go_enter Tryz.func21,Tryz.ntmps21
 go_wp2_with fail
 refine look.mono ?_
 clear look
 rintro e w2 ⟨_,_,rfl,b2,rfl,Y,F,a1,a2,a3,b1,c2,c3,hY,hF,rfl,-,-,-⟩
 obtain rfl : Y = false:=by
  cases Y with
  | false => rfl
  | true => exact absurd tab26_not (hY.1 rfl)
 obtain rfl : F = true:=hF.2 (side_no_twins tab26_ok (.inl tab26_u4))
 rw [tab26_on,tab26_rad,tab26_u4,tab26_u1]
 obtain ⟨S,hS⟩ : ∃ S,isSum 2 1 tab26 = S:=⟨_,rfl⟩
 rw [hS]
 clear hS hY hF
 have b3:=belowAlloc w2 (.cells #[.int .i64 1,.slice a1 a2 a3,.bool false,.bool true,.int .i64 (-1),.bool S,.slice b1 c2 c3,.bool true,.bool true] 46)
 have q:=Cells9.alloc w2 46 (.int .i64 1) (.slice a1 a2 a3) (.bool false) (.bool true) (.int .i64 (-1)) (.bool S) (.slice b1 c2 c3) (.bool true) (.bool true)
 have bE:=Below.step bl (Below.step b2 b3)
 obtain ⟨z0,z1,z2,z3,z4,z5,z6,z7,z8⟩:=q
 go_wp2_with fail
 refine (kind_any _ _ _ _ _ _ _ _ _ _).mono ?_
 rintro e w4 ⟨_,rfl,b4,rfl⟩
 have bF:=Below.step bE b4
 rw [show kindB false true = ⟨#[111,110,116,111]⟩ from rfl]
 go_wp2
 go_ret
 exact ⟨_,rfl,bF,rfl⟩
/-- A rule that is taken back is one to one. -/
theorem TakesBack.one {K R d : Nat} {T S : List Int} (h : TakesBack K R T d S) : ¬ NotOne K R T:=fun hn => by
 obtain ⟨x,y,sx,sy,lx,ly,hne,e⟩:=hn (R + d)
 refine hne ?_
 rw [← h x sx lx,← h y sy ly,e]
theorem find_one {K R : Nat} {T : List Int} {d : Nat} {S : List Int} (hr : RuleOk K R T) (h : findP K R T = some (d,S)) : ¬ NotOne K R T:=by
 obtain ⟨_,_,h1,_,_⟩:=find_some 4 0 h
 exact (try_takes hr h1).one
/-- A rule and the inverse that is found. -/
structure Found (K R : Nat) (T : List Int) (d : Nat) (S : List Int) : Prop where
 rule : RuleOk K R T
 inv : RuleOk K d S
 one : ¬ NotOne K R T
 find : findP K R T = some (d,S)
 takes : TakesBack K R T d S
 back : TakesBack K d S R T
theorem Found.of {K R d : Nat} {T S : List Int} (hr : RuleOk K R T) (h : findP K R T = some (d,S)) : Found K R T d S:=by
 have ho:=find_one hr h
 have hon:=onto_of_one hr ho
 obtain ⟨-,hd,h1,rfl,-⟩:=find_some 4 0 h
 have ht:=try_takes hr h1
 exact ⟨hr,takes_ok hr hon (by omega) (tryF_len ..) ht,ho,h,ht,takes_sym hon ht⟩
theorem InvIs.found {B : Nat} {w : World} {k R : Int} {T : List Int} {x : Value} (h : InvIs B w k R T x) (e : invE k R T = none) :
 ∃ (K Q d : Nat) (S : List Int),∃ a n c,k = K ∧ R = Q ∧ T.length ≤ 256 ∧ x = .agg #[.int .i64 K,.int .i64 d,.slice a n c] ∧ OwnI B w (.slice a n c) S ∧ Found K Q T d S:=by
 obtain ⟨d,S,a,n,c,hf,hx,ho⟩:=h.1 e
 have hsm : smallP k R T = none:=by
  cases hs : smallP k R T with
  | none => rfl
  | some t => rw [invE_bad hs] at e; cases e
 obtain ⟨K,Q,rfl,rfl,hr,hl⟩:=smallP_of hsm
 rw [Int.toNat_natCast,Int.toNat_natCast] at hf
 exact ⟨K,Q,d,S,a,n,c,rfl,rfl,hl,hx,ho,Found.of hr hf⟩
theorem invE_of {K R d : Nat} {T S : List Int} (hr : RuleOk K R T) (hl : T.length ≤ 256) (h : findP K R T = some (d,S)) : invE K R T = none :=
 (invE_ok hr hl).2.2 (find_one hr h) (by rw [h]; simp)
theorem Found.twice {K R d Q : Nat} {T S N : List Int} (h : Found K R T d S) (hn : NarrIs K R T Q N) (hl : S.length ≤ 256) : invE K d S = none ∧ findP K d S = some (Q,N):=by
 have hf:=find_twice h.rule (onto_of_one h.rule h.one) h.find hn
 exact ⟨invE_of h.inv hl hf,hf⟩
theorem radL_of {K R d : Nat} {T S : List Int} (hr : RuleOk K R T) (hl : T.length ≤ 256) (h : findP K R T = some (d,S)) : radL K R T = d:=by
 have e:=invE_of hr hl h
 unfold radL radN
 rw [if_pos e,e]
 simp only [Int.toNat_natCast]
 rw [h]
theorem radL_none {K R : Nat} {T : List Int} (h : 0 ≤ radL K R T) : invE K R T = none:=by
 unfold radL at h
 by_cases e : invE K R T = none
 ·exact e
 ·rw [if_neg e] at h; omega
theorem onto_not_two {K R : Nat} {T : List Int} (hr : RuleOk K R T) (h : ¬ NotOne K R T) : ontoN (subR K (pw K (2 * R)) T) ≠ 2:=fun q => by
 cases hs : subR K (pw K (2 * R)) T with
 | on a b => rw [hs] at q; cases q
 | orphan w => exact sub_not_onto hr hs (onto_of_one hr h)
 | big => rw [hs] at q; cases q
set_option maxHeartbeats 4000000 in
theorem labBack_bad (r : Nat → Addr) (k R : Int) (va : Option Addr) (vn vc : Nat) (T : List Int) (w : World) (hg : Glob r w) (hG : GlobE w) (h : IntsAt w (.slice va vn vc) T) (t : Int × List (ByteArray × Int)) (hc : smallP k R T = some t) :
 Calls Tryz.prog 7 #[.agg #[.int .i64 k,.int .i64 R,.slice va vn vc]] w (Ret1 (fun x _ => x = .bool true) w):=by
 have b0:=belowAlloc w (.cells #[.int .i64 k,.int .i64 R,.slice va vn vc] 24)
 have q : Box3 (w.alloc (.cells #[.int .i64 k,.int .i64 R,.slice va vn vc] 24)) w.heap.size (.int .i64 k) (.int .i64 R) (.slice va vn vc):=by simp [Box3,go_sem]
 replace hg:=Hd (hg.below b0)
 replace hG:=Hd (hG.below b0)
 replace h:=Hd (h.below b0)
 replace hc:=Hd hc
 go_enter Tryz.func7,Tryz.ntmps7
 go_wp2_with fail
 refine (awake26 r _ hg.out hG.out).mono ?_
 rintro e w1 ⟨_,rfl,b1,rfl⟩
 obtain ⟨⟨q_0,q_1,q_2⟩,-,-,-⟩:=(q.below b1)
 go_wp2_with fail
 refine (heavy26 r k R va vn vc T _ (hg.out.below b1) (h.out.below b1)).mono ?_
 rintro e w2 ⟨_,rfl,b2,hv,rfl,hvi⟩
 clear q_0 q_1 q_2
 obtain rfl : hv = false:=by
  cases hv with
  | false => rfl
  | true => have:=(hvi.1 rfl).2; rw [hc.out] at this; cases this
 clear hvi
 have c0_2:=Below.step b1 b2
 obtain ⟨⟨q_0,q_1,q_2⟩,-,-,-⟩:=(q.below c0_2)
 go_wp2_with fail
 refine (look_bad r k R va vn vc T t _ (hg.out.below c0_2) (h.out.below c0_2) hc.out).mono ?_
 rintro e w3 ⟨_,y3,rfl,b3,rfl,he3⟩
 obtain ⟨T3,p3,rfl⟩ : ∃ T a,y3 = .iface T (.pointer (some a)):=by
  unfold under at he3
  exact he3.some_shape
 clear he3
 clear q_0 q_1 q_2
 have al3:=(belowAlloc w3 (.cells #[.int .i64 0,.slice none 0 0,.bool false,.bool false,.int .i64 0,.bool false,.slice none 0 0,.bool false,.bool false] 46))
 have d3:=Below.step b3 al3
 have c0_3:=Below.step c0_2 d3
 have bE:=Below.step b0 c0_3
 go_wp2
 go_ret
 exact ⟨_,rfl,bE,rfl⟩
set_option maxHeartbeats 4000000 in
theorem labBack_ok (r : Nat → Addr) (K R : Nat) (va : Option Addr) (vn vc : Nat) (T : List Int) (w : World) (hg : Glob r w) (hG : GlobE w) (h : IntsAt w (.slice va vn vc) T) (hr : RuleOk K R T) (hl : T.length ≤ 256) :
 Calls Tryz.prog 7 #[.agg #[.int .i64 K,.int .i64 R,.slice va vn vc]] w (Ret1 (fun x _ => x = .bool true) w):=by
 have b0:=belowAlloc w (.cells #[.int .i64 K,.int .i64 R,.slice va vn vc] 24)
 have q : Box3 (w.alloc (.cells #[.int .i64 K,.int .i64 R,.slice va vn vc] 24)) w.heap.size (.int .i64 K) (.int .i64 R) (.slice va vn vc):=by simp [Box3,go_sem]
 replace hg:=Hd (hg.below b0)
 replace hG:=Hd (hG.below b0)
 replace h:=Hd (h.below b0)
 replace hr:=Hd hr
 go_enter Tryz.func7,Tryz.ntmps7
 go_wp2_with fail
 refine (awake26 r _ hg.out hG.out).mono ?_
 rintro e w1 ⟨_,rfl,b1,rfl⟩
 obtain ⟨⟨q_0,q_1,q_2⟩,-,-,-⟩:=(q.below b1)
 go_wp2_with fail
 refine (heavy26 r K R va vn vc T _ (hg.out.below b1) (h.out.below b1)).mono ?_
 rintro e w2 ⟨_,rfl,b2,hv,rfl,hvi⟩
 clear q_0 q_1 q_2
 clear hvi
 cases hv with
 | true =>
  have c0_2:=Below.step b1 b2
  have bE:=Below.step b0 c0_2
  go_wp2
  go_ret
  exact ⟨_,rfl,bE,rfl⟩
 | false =>
  have c0_2:=Below.step b1 b2
  obtain ⟨⟨q_0,q_1,q_2⟩,-,-,-⟩:=(q.below c0_2)
  go_wp2_with fail
  refine (look_ok r K R va vn vc T _ (hg.out.below c0_2) (hG.out.below c0_2) (h.out.below c0_2) hr.out hl).mono ?_
  rintro e w3 ⟨_,_,rfl,b3,rfl,Y,F,oa,on,oc,fa,fn,fc,hY,hF,rfl,-,-,-⟩
  clear q_0 q_1 q_2
  obtain ⟨N,hN⟩ : ∃ N,ontoN (subR K (pw K (2 * R)) T) = N:=⟨_,rfl⟩
  obtain ⟨X,hX⟩ : ∃ N,radL K R T = N:=⟨_,rfl⟩
  obtain ⟨Z,hZ⟩ : ∃ N,isSum K R T = N:=⟨_,rfl⟩
  obtain ⟨L,hL⟩ : ∃ N,unlikeP K T (T.length / K) = N:=⟨_,rfl⟩
  obtain ⟨P,hP⟩ : ∃ N,unlikeP K T 1 = N:=⟨_,rfl⟩
  rw [hN,hX,hZ,hL,hP]
  clear hF hZ hL hP hN
  have al3:=(belowAlloc w3 (.cells #[.int .i64 N,.slice oa on oc,.bool Y,.bool F,.int .i64 X,.bool Z,.slice fa fn fc,.bool L,.bool P] 46))
  have d3:=Below.step b3 al3
  have u3:=Cells9.alloc w3 46 (.int .i64 N) (.slice oa on oc) (.bool Y) (.bool F) (.int .i64 X) (.bool Z) (.slice fa fn fc) (.bool L) (.bool P)
  obtain ⟨u3_0,u3_1,u3_2,u3_3,u3_4,u3_5,u3_6,u3_7,u3_8⟩:=id u3
  by_cases hX0 : X < 0
  ·have d0 : decide (X < 0) = true:=decide_eq_true hX0
   replace hX:=Hd hX
   replace hY:=Hd hY
   have c0_3:=Below.step c0_2 d3
   have bE:=Below.step b0 c0_3
   go_wp2
   go_ret
   exact ⟨_,rfl,bE,rfl⟩
  ·have d0 : decide (X < 0) = false:=decide_eq_false hX0
   have hE : invE K R T = none:=radL_none (by omega)
   replace hX:=Hd hX
   replace hY:=Hd hY
   replace hE:=Hd hE
   have c0_3:=Below.step c0_2 d3
   obtain ⟨⟨q_0,q_1,q_2⟩,-,-,-⟩:=(q.below c0_3)
   go_wp2_with fail
   refine (inv_rule r K R va vn vc T _ (hg.out.below c0_3) (h.out.below c0_3)).mono ?_
   rintro e w4 ⟨x4,y4,rfl,b4,hy4,hx4⟩
   clear u3_0 u3_1 u3_2 u3_3 u3_4 u3_5 u3_6 u3_7 u3_8 q_0 q_1 q_2
   rw [hE.out] at hy4
   obtain rfl:=hy4.none_eq
   clear hy4
   obtain ⟨_,_,d,S,a4,n4,m4,q1,q2,-,rfl,ho,hFd⟩:=hx4.found hE.out
   obtain rfl:=Int.ofNat.inj q1
   obtain rfl:=Int.ofNat.inj q2
   clear q1 q2 hx4
   have al4:=(belowAlloc w4 (.cells #[.int .i64 K,.int .i64 d,.slice a4 n4 m4] 24))
   have d4:=Below.step b4 al4
   have s : Box3 (w4.alloc (.cells #[.int .i64 K,.int .i64 d,.slice a4 n4 m4] 24)) w4.heap.size (.int .i64 K) (.int .i64 d) (.slice a4 n4 m4):=by simp [Box3,go_sem]
   replace ho:=ho.below al4
   obtain rfl : X = (d : Int):=hX.out.symm.trans (radL_of hr.out hl hFd.find)
   obtain rfl : Y = true:=hY.out.2 hFd.one
   have lS:=ho.at.len
   obtain ⟨sl,hsl⟩ : ∃ t,S.length = t:=⟨_,rfl⟩
   rw [hsl] at lS
   have dne : ((d : Int) != (d : Int)) = false:=by simp
   replace ho:=Hd ho
   replace hFd:=Hd hFd
   replace hsl:=Hd hsl
   obtain ⟨⟨s_0,s_1,s_2⟩,-,-,-⟩:=id s
   obtain ⟨u3_0,u3_1,u3_2,u3_3,u3_4,u3_5,u3_6,u3_7,u3_8⟩:=(u3.below d4)
   go_wp2_with fail
   refine (kind_any _ _ _ _ _ _ _ _ _ _).mono ?_
   rintro e w5 ⟨_,rfl,b5,rfl⟩
   rw [show kindB true F = ⟨#[114,101,118,101,114,115,105,98,108,101]⟩ from rfl]
   clear s_0 s_1 s_2 u3_0 u3_1 u3_2 u3_3 u3_4 u3_5 u3_6 u3_7 u3_8
   obtain ⟨⟨s_0,s_1,s_2⟩,-,-,-⟩:=(s.below b5)
   have c3_5:=Below.step d4 b5
   obtain ⟨u3_0,u3_1,u3_2,u3_3,u3_4,u3_5,u3_6,u3_7,u3_8⟩:=(u3.below c3_5)
   by_cases h64 : 64 < sl
   ·have d1 : decide ((64 : Int) < (sl : Int)) = true:=decide_eq_true (by omega)
    have c0_4:=Below.step c0_3 d4
    have c0_5:=Below.step c0_4 b5
    have bE:=Below.step b0 c0_5
    go_wp2
    go_ret
    exact ⟨_,rfl,bE,rfl⟩
   ·have d1 : decide ((64 : Int) < (sl : Int)) = false:=decide_eq_false (by omega)
    have c0_4:=Below.step c0_3 d4
    have c0_5:=Below.step c0_4 b5
    go_wp2_with fail
    refine (look_ok r K d a4 n4 m4 S _ (hg.out.below c0_5) (hG.out.below c0_5) (ho.out.below b5).at hFd.out.inv (by rw [hsl.out]; omega)).mono ?_
    rintro e w6 ⟨_,_,rfl,b6,rfl,Y6,F6,oa6,on6,oc6,fa6,fn6,fc6,hY6,-,rfl,-,-,-⟩
    clear s_0 s_1 s_2 u3_0 u3_1 u3_2 u3_3 u3_4 u3_5 u3_6 u3_7 u3_8
    obtain rfl : Y6 = true:=hY6.2 hFd.out.back.one
    clear hY6
    obtain ⟨N6,hN6⟩ : ∃ N,ontoN (subR K (pw K (2 * d)) S) = N:=⟨_,rfl⟩
    obtain ⟨X6,hX6⟩ : ∃ N,radL K d S = N:=⟨_,rfl⟩
    obtain ⟨Z6,hZ6⟩ : ∃ N,isSum K d S = N:=⟨_,rfl⟩
    obtain ⟨L6,hL6⟩ : ∃ N,unlikeP K S (S.length / K) = N:=⟨_,rfl⟩
    obtain ⟨P6,hP6⟩ : ∃ N,unlikeP K S 1 = N:=⟨_,rfl⟩
    rw [hN6,hX6,hZ6,hL6,hP6]
    clear hZ6 hL6 hP6
    have hn2 : decide (N6 = 2) = false:=decide_eq_false (fun q => onto_not_two hFd.out.inv hFd.out.back.one (hN6.trans q))
    have hn2' : (N6 != 2) = true:=by simpa using hn2
    replace hN6:=Hd hN6
    replace hX6:=Hd hX6
    have al6:=(belowAlloc w6 (.cells #[.int .i64 N6,.slice oa6 on6 oc6,.bool true,.bool F6,.int .i64 X6,.bool Z6,.slice fa6 fn6 fc6,.bool L6,.bool P6] 46))
    have d6:=Below.step b6 al6
    have u6:=Cells9.alloc w6 46 (.int .i64 N6) (.slice oa6 on6 oc6) (.bool true) (.bool F6) (.int .i64 X6) (.bool Z6) (.slice fa6 fn6 fc6) (.bool L6) (.bool P6)
    have c0_6:=Below.step c0_5 d6
    obtain ⟨⟨q_0,q_1,q_2⟩,-,-,-⟩:=(q.below c0_6)
    go_wp2_with fail
    refine (narrow_ok r K R va vn vc T _ (hg.out.below c0_6) (h.out.below c0_6) hr.out).mono ?_
    rintro e w7 ⟨_,_,rfl,b7,rfl,Q7,N7,a7,n7,m7,rfl,-,hN7⟩
    clear q_0 q_1 q_2
    obtain ⟨hE2,hf2⟩:=hFd.out.twice hN7 (by rw [hsl.out]; omega)
    obtain rfl : X6 = (Q7 : Int):=hX6.out.symm.trans (radL_of hFd.out.inv (by rw [hsl.out]; omega) hf2)
    clear hE2 hf2 hN7
    have al7:=(belowAlloc w7 (.cells #[.int .i64 K,.int .i64 Q7,.slice a7 n7 m7] 24))
    have d7:=Below.step b7 al7
    have m : Box3 (w7.alloc (.cells #[.int .i64 K,.int .i64 Q7,.slice a7 n7 m7] 24)) w7.heap.size (.int .i64 K) (.int .i64 Q7) (.slice a7 n7 m7):=by simp [Box3,go_sem]
    obtain ⟨⟨m_0,m_1,m_2⟩,-,-,-⟩:=id m
    obtain ⟨u6_0,u6_1,u6_2,u6_3,u6_4,u6_5,u6_6,u6_7,u6_8⟩:=(u6.below d7)
    go_wp2_with fail
    refine (kind_any _ _ _ _ _ _ _ _ _ _).mono ?_
    rintro e w8 ⟨_,rfl,b8,rfl⟩
    rw [show kindB true F6 = ⟨#[114,101,118,101,114,115,105,98,108,101]⟩ from rfl]
    clear m_0 m_1 m_2 u6_0 u6_1 u6_2 u6_3 u6_4 u6_5 u6_6 u6_7 u6_8
    obtain ⟨⟨m_0,m_1,m_2⟩,-,-,-⟩:=(m.below b8)
    have c6_8:=Below.step d7 b8
    obtain ⟨u6_0,u6_1,u6_2,u6_3,u6_4,u6_5,u6_6,u6_7,u6_8⟩:=(u6.below c6_8)
    have c0_7:=Below.step c0_6 d7
    have c0_8:=Below.step c0_7 b8
    have bE:=Below.step b0 c0_8
    go_wp2
    go_ret
    exact ⟨_,rfl,bE,rfl⟩
/-- Any rule. -/
theorem labBack_any (r : Nat → Addr) (k R : Int) (v : Value) (T : List Int) (w : World) (hg : Glob r w) (hG : GlobE w) (h : IntsAt w v T) :
 Calls Tryz.prog 7 #[.agg #[.int .i64 k,.int .i64 R,v]] w (Ret1 (fun x _ => x = .bool true) w):=by
 obtain ⟨va,vn,vc,rfl⟩:=h.shape
 cases hc : smallP k R T with
 | some t => exact labBack_bad r k R va vn vc T w hg hG h t hc
 | none =>
  obtain ⟨K,Q,rfl,rfl,hr,hl⟩:=smallP_of hc
  exact labBack_ok r K Q va vn vc T w hg hG h hr hl
end Go.Proofs.YtncpnaoabkjegaaGreatDoor
namespace Go.Proofs.YtncpnaoabkjegaaGreatDoor
open Go.ChangeShapes Go.WideShapes Go.ChangeAt Go.RowKit Go.Joins
set_option maxRecDepth 100000
theorem own : ownKnob Tryz.prog.godebug = none:=by kernel_rfl
theorem laidOut : laidOutB Tryz.prog = true:=by kernel_rfl
theorem cellsInt : Tryz.prog.cellsOf 3 = 1:=by kernel_rfl
theorem uInt : Tryz.prog.underlying 3 = some (.int .i64):=by kernel_rfl
theorem bytesInt : Tryz.prog.bytesOf 3 = 8:=by kernel_rfl
theorem i64_of_wf {n : Int} (h : (Lit.int .i64 n).wf = true) : I64 n:=by
 have:=bounds_i64 h
 unfold I64
 omega
/-- A []int that came in. -/
theorem open_intsV {H : Type} {enc : TypeId × Value → H} {W : World} {held : Bool} {fuel : Nat} {v : Value} {y : DataW H × List MemPlace}
 (h : DataW.trod enc Tryz.prog W 0 (fun _ => true) held fuel 22 [v] = some y) (hw : ∀ n ∈ y.1.weights Tryz.prog 22,n ≤ reachBytes) :
 ∃ xs,IntsAt W v xs ∧ xs.length ≤ 17592186043904 ∧ ∀ x ∈ xs,I64 x:=by
 rcases open_ints uInts uInt cellsInt h with ⟨hcs,_⟩ | ⟨a,len,cap,zs,hcs,_,hl,hm,hz,hx,hcell,hwz⟩
 ·simp at hcs
  subst hcs
  exact ⟨[],(OwnI.nil 0 W).at,by simp,by simp⟩
 ·simp at hcs
  subst hcs
  simp only [if_true] at hz
  have hzl : (zs.take len).length = len:=by simp; omega
  refine ⟨zs.take len,⟨some a,cap,by rw [hzl],by rw [hzl]; exact hl,hm,(fun e => by cases e),fun i hi => ?_⟩,?_,fun x hx => i64_of_wf (hwz x (List.mem_of_mem_take hx))⟩
  ·have hi' : i < zs.length:=by rw [hzl] at hi; omega
   show W.cell? (a.add i) = _
   rw [hcell i hi']
   simp [List.getD,hi']
  ·rw [hx] at hw
   have:=hw ((lits (H:=H) .i64 (zs.take len)).length * 8 + (lits (H:=H) .i64 (zs.drop len)).length * 8) (by
    simp only [DataW.weights,uInts,bytesInt,List.mem_cons]
    left; omega)
   simp only [lits,List.length_map,reachBytes] at this
   omega
theorem weights_each3 {H : Type} {t0 t1 t2 : TypeId} {y0 y1 y2 : DataW H} {n : Nat} (h : n ∈ y2.weights Tryz.prog t2) : n ∈ DataW.weightsEach Tryz.prog [t0,t1,t2] [y0,y1,y2]:=by
 simp only [DataW.weightsEach,List.mem_append]
 exact .inr (.inr (.inl h))
/-- A rule that came in. -/
theorem open_ruleV {H : Type} {enc : TypeId × Value → H} {W : World} {held : Bool} {v : Value} {d : DataW H} {p : List MemPlace} {b0 : Nat}
 (hv : Value.okWide Tryz.prog W .any b0 24 v) (h : DataW.Trod enc Tryz.prog W 0 (fun _ => true) held 24 v d p) (hw : ∀ n ∈ d.weights Tryz.prog 24,n ≤ reachBytes) :
 ∃ (k R : Int) (u : Value) (xs : List Int),v = .agg #[.int .i64 k,.int .i64 R,u] ∧ IntsAt W u xs ∧ xs.length ≤ 17592186043904 ∧ (∀ x ∈ xs,I64 x) ∧ I64 k ∧ I64 R:=by
 obtain ⟨v0,v1,v2,y0,y1,y2,n,rfl,rfl,rfl,h0,h1,h2⟩:=open_agg3 Tryz.underlying24 (by kernel_rfl) (by kernel_rfl) hv h
 obtain ⟨a,e0,_,wa⟩:=DataW.trod_int uInt h0
 obtain ⟨b,e1,_,wb⟩:=DataW.trod_int uInt h1
 simp at e0 e1
 subst e0 e1
 obtain ⟨xs,hx,hl,hb⟩:=open_intsV h2 fun n hn => hw n (by
  simp only [DataW.weights,Tryz.underlying24]
  exact weights_each3 (t0:=3) (t1:=3) (t2:=22) hn)
 exact ⟨a,b,v2,xs,rfl,hx,hl,hb,i64_of_wf wa,i64_of_wf wb⟩
/-! The package-level errors. -/
theorem star : "*" ++ "errors.errorString" = "*errors.errorString" := by decide
theorem rowES (u : TypeId) (h : Tryz.prog.typeName? 3 u = some "*errors.errorString") : u = 322 :=
 typeName_ptr_named (nm := "errors.errorString") (by rw [star]; kernel_rfl) (by kernel_rfl) (by decide) u (by rw [star]; exact h)
theorem pES : Tryz.prog.underlying 322 = some (.pointer 340):=by kernel_rfl
theorem cES : Tryz.prog.cellsOf 340 = 1:=by kernel_rfl
theorem cStr : Tryz.prog.cellsOf 9 = 1:=by kernel_rfl
def laid12 : List (String × DataW Unit) := [("eden/api.BadRule", Rows.laid_eden_api_BadRule), ("eden/api.BadWord", Rows.laid_eden_api_BadWord), ("eden/api.BadArg", Rows.laid_eden_api_BadArg), ("eden/api.TooBig", Rows.laid_eden_api_TooBig), ("eden/api.NoBudget", Rows.laid_eden_api_NoBudget), ("eden/api.BadText", Rows.laid_eden_api_BadText), ("eden/api.BadPatch", Rows.laid_eden_api_BadPatch), ("eden/api.BadCert", Rows.laid_eden_api_BadCert), ("eden/api.NoInverse", Rows.laid_eden_api_NoInverse), ("eden/api.BadLine", Rows.laid_eden_api_BadLine), ("eden/api.BadState", Rows.laid_eden_api_BadState), ("eden/api.Unknown", Rows.laid_eden_api_Unknown)]
theorem sentinel {n : String} {text : List UInt8} {r : List (String × DataW Unit)} {W : World} {g : Nat}
 (h : laidMet Tryz.prog ((n, .iface "*errors.errorString" (.ptr (.agg [.lit (.string text)]))) :: r) W)
 (hg : Tryz.prog.globalNamed n = some g) (ht : (Tryz.prog.globals[g]?).map (·.type) = some 27) :
 (∃ a : Addr,W.cell? ⟨g,0,none⟩ = some (.iface 322 (.pointer (some a))) ∧ ∃ s,W.cell? a = some (.string s) ∧ s.data.toList = text ∧ ∃ c t,W.heap[a.block]? = some (.cells c t (0,0))) ∧ laidMet Tryz.prog r W:=by
 refine ⟨?_,h.tail⟩
 obtain ⟨ps,⟨g0,t0,cs0,f0,p0,q0,hg0,ht0,hv0,hd0,_,e0⟩,_,hrows⟩:=h
 obtain rfl:=Option.some.inj (hg.symm.trans hg0)
 obtain rfl:=Option.some.inj (ht.symm.trans ht0)
 subst e0
 obtain ⟨l0⟩:=cs0
 have ok0 : ∀ u v,l0 = [.iface u v] → Value.okWide Tryz.prog W .any 0 u v:=fun u v e => by
  subst e
  exact (hrows g 0 (by simp [MemPlace.row])).2 u v (by simpa using World.var?_cell hg hv0 0)
 obtain ⟨a0,s0,rfl,hc0,hs0,hz0,rfl⟩:=errorString_of_trod Tryz.underlying27 rowES pES Tryz.underlying340 rfl rfl Tryz.underlying9 cES cStr hd0 ok0
 exact ⟨a0,by simpa using World.var?_cell hg hv0 0,s0,hc0,hs0,(hrows a0.block a0.off (by simp [MemPlace.row])).1⟩
def txt : Nat → List UInt8
 | 1 => [98,97,100,32,114,117,108,101]
 | 2 => [98,97,100,32,119,111,114,100]
 | 3 => [98,97,100,32,97,114,103,117,109,101,110,116]
 | 4 => [116,111,111,32,98,105,103]
 | 5 => [110,111,32,98,117,100,103,101,116]
 | 6 => [98,97,100,32,116,101,120,116]
 | 7 => [98,97,100,32,112,97,116,99,104]
 | 8 => [98,97,100,32,99,101,114,116,105,102,105,99,97,116,101]
 | 9 => [110,111,32,105,110,118,101,114,115,101]
 | 10 => [98,97,100,32,108,105,110,101]
 | 11 => [98,97,100,32,115,116,97,116,101]
 | 99 => [117,110,107,110,111,119,110]
 | _ => []
theorem txt_apart : ∀ m n : Fin 12,1 ≤ m.val → 1 ≤ n.val → txt m.val = txt n.val → m = n:=by decide
theorem glob_of_laidR {W : World} {l : List (String × DataW Unit)} (h : laidMet Tryz.prog (laid12 ++ l) W) : ∃ r,Glob r W:=by
 obtain ⟨⟨a1,c1,s1,e1,t1,f1⟩,h⟩:=sentinel (text:=txt 1) h (g:=3) (by kernel_rfl) (by kernel_rfl)
 obtain ⟨⟨a2,c2,s2,e2,t2,f2⟩,h⟩:=sentinel (text:=txt 2) h (g:=4) (by kernel_rfl) (by kernel_rfl)
 obtain ⟨⟨a3,c3,s3,e3,t3,f3⟩,h⟩:=sentinel (text:=txt 3) h (g:=5) (by kernel_rfl) (by kernel_rfl)
 obtain ⟨⟨a4,c4,s4,e4,t4,f4⟩,h⟩:=sentinel (text:=txt 4) h (g:=0) (by kernel_rfl) (by kernel_rfl)
 obtain ⟨⟨a5,c5,s5,e5,t5,f5⟩,h⟩:=sentinel (text:=txt 5) h (g:=6) (by kernel_rfl) (by kernel_rfl)
 obtain ⟨⟨a6,c6,s6,e6,t6,f6⟩,h⟩:=sentinel (text:=txt 6) h (g:=7) (by kernel_rfl) (by kernel_rfl)
 obtain ⟨⟨a7,c7,s7,e7,t7,f7⟩,h⟩:=sentinel (text:=txt 7) h (g:=8) (by kernel_rfl) (by kernel_rfl)
 obtain ⟨⟨a8,c8,s8,e8,t8,f8⟩,h⟩:=sentinel (text:=txt 8) h (g:=9) (by kernel_rfl) (by kernel_rfl)
 obtain ⟨⟨a9,c9,s9,e9,t9,f9⟩,h⟩:=sentinel (text:=txt 9) h (g:=1) (by kernel_rfl) (by kernel_rfl)
 obtain ⟨⟨a10,c10,s10,e10,t10,f10⟩,h⟩:=sentinel (text:=txt 10) h (g:=10) (by kernel_rfl) (by kernel_rfl)
 obtain ⟨⟨a11,c11,s11,e11,t11,f11⟩,h⟩:=sentinel (text:=txt 11) h (g:=11) (by kernel_rfl) (by kernel_rfl)
 obtain ⟨⟨a99,c99,s99,e99,t99,f99⟩,h⟩:=sentinel (text:=txt 99) h (g:=12) (by kernel_rfl) (by kernel_rfl)
 clear h
 have key : ∀ n : Nat,(1 ≤ n ∧ n ≤ 11) ∨ n = 99 → ∃ s,W.cell? ((fun n : Nat => match n with | 1 => a1 | 2 => a2 | 3 => a3 | 4 => a4 | 5 => a5 | 6 => a6 | 7 => a7 | 8 => a8 | 9 => a9 | 10 => a10 | 11 => a11 | _ => a99) n) = some (.string s) ∧ s.data.toList = txt n ∧ ∃ c t,W.heap[((fun n : Nat => match n with | 1 => a1 | 2 => a2 | 3 => a3 | 4 => a4 | 5 => a5 | 6 => a6 | 7 => a7 | 8 => a8 | 9 => a9 | 10 => a10 | 11 => a11 | _ => a99) n).block]? = some (.cells c t (0,0)):=by
  intro n hn
  have : n = 1 ∨ n = 2 ∨ n = 3 ∨ n = 4 ∨ n = 5 ∨ n = 6 ∨ n = 7 ∨ n = 8 ∨ n = 9 ∨ n = 10 ∨ n = 11 ∨ n = 99:=by omega
  rcases this with rfl | rfl | rfl | rfl | rfl | rfl | rfl | rfl | rfl | rfl | rfl | rfl
  ·exact ⟨s1,e1,t1,f1⟩
  ·exact ⟨s2,e2,t2,f2⟩
  ·exact ⟨s3,e3,t3,f3⟩
  ·exact ⟨s4,e4,t4,f4⟩
  ·exact ⟨s5,e5,t5,f5⟩
  ·exact ⟨s6,e6,t6,f6⟩
  ·exact ⟨s7,e7,t7,f7⟩
  ·exact ⟨s8,e8,t8,f8⟩
  ·exact ⟨s9,e9,t9,f9⟩
  ·exact ⟨s10,e10,t10,f10⟩
  ·exact ⟨s11,e11,t11,f11⟩
  ·exact ⟨s99,e99,t99,f99⟩
 refine ⟨(fun n : Nat => match n with | 1 => a1 | 2 => a2 | 3 => a3 | 4 => a4 | 5 => a5 | 6 => a6 | 7 => a7 | 8 => a8 | 9 => a9 | 10 => a10 | 11 => a11 | _ => a99),c1,c2,c3,c4,c5,c6,c7,c8,c9,c10,c11,c99,(fun n hn => ?_),fun m n hm1 hm2 hn1 hn2 he => ?_,fun n hn => ?_⟩
 ·obtain ⟨s,hs,_⟩:=key n hn
  exact ⟨s,hs⟩
 ·obtain ⟨s,hs,ts,_⟩:=key m.toNat (by omega)
  obtain ⟨s',hs',ts',_⟩:=key n.toNat (by omega)
  have hss : s = s':=by
   have:=hs.symm.trans ((congrArg W.cell? he).trans hs')
   simpa using this
  subst hss
  have:=txt_apart ⟨m.toNat,by omega⟩ ⟨n.toNat,by omega⟩ (by simp; omega) (by simp; omega) (ts.symm.trans ts')
  have:=congrArg Fin.val this
  simp at this
  omega
 ·obtain ⟨_,_,_,hf⟩:=key n hn
  exact hf
theorem glob_of_laid {W : World} (h : laidMet Tryz.prog laid12 W) : ∃ r,Glob r W:=glob_of_laidR (l:=[]) h
end Go.Proofs.YtncpnaoabkjegaaGreatDoor
namespace Go.Proofs.YtncpnaoabkjegaaGreatDoor
open Go.RowKit
set_option maxRecDepth 100000
def laid13 : List (String × DataW Unit) := ("errors.errorType", Rows.laid_errors_errorType) :: laid12
theorem rtypeNo : (Tryz.prog.cutTypes.find? (·.1 == "internal/reflectlite.rtype")).map (·.2) = some 239 := by kernel_rfl
theorem errorTypeNo : Tryz.prog.globalNamed "errors.errorType" = some 2 := by kernel_rfl
theorem typesNo : Tryz.prog.types.size = 452 - 100:=by kernel_rfl
theorem oneError : ((List.range (452 - 100)).filter fun t => Tryz.prog.rowNamed t [101,114,114,111,114]) = [27]:=by kernel_rfl
theorem handleErr : typeHandle Tryz.prog 27 = .pointer (some ⟨17,27,none⟩):=by kernel_rfl
theorem glob_of_laidH {W : World} (h : laidMetH Tryz.prog laid13 W) : ∃ r,Glob r W ∧ GlobE W:=by
 have h' : laidMet Tryz.prog laid12 W ∧ handlesMet Tryz.prog [("errors.errorType", Rows.laid_errors_errorType)] W := h
 obtain ⟨r,hg⟩:=glob_of_laid h'.1
 refine ⟨r,hg,?_⟩
 obtain ⟨name,u,ty,e1,e2,e3,e4,e5⟩:=h'.2 _ (List.mem_cons_self ..)
 have en : name = [101,114,114,111,114]:=(Option.some.inj e1).symm
 subst en
 obtain rfl:=Option.some.inj (rtypeNo.symm.trans e2)
 have hm : ty ∈ (List.range (452 - 100)).filter fun t => Tryz.prog.rowNamed t [101,114,114,111,114]:=List.mem_filter.2 ⟨List.mem_range.2 (by rw [← typesNo]; exact e3),e4⟩
 rw [oneError] at hm
 obtain rfl:=List.mem_singleton.1 hm
 rw [handleErr] at e5
 simpa [GlobE] using World.var?_cell errorTypeNo e5 0
end Go.Proofs.YtncpnaoabkjegaaGreatDoor
namespace Go.Proofs.YtncpnaoabkjegaaGreatDoor
open Go.ChangeShapes Go.WideShapes Go.ChangeAt Go.RowKit Go.Joins
namespace LabBackP
set_option maxRecDepth 100000 in
theorem door_met (os : Os) (args : Array Value) : laidMetH Tryz.prog Rows.labBackRow.laid ((World.doorLaid Tryz.prog 400 os).forCall (fun _ _ => 0) ⟨#[],args,[]⟩).memory :=
 laidMetH_of_parts3 (fuel:=8) (laidMet_of_run' 8 (by kernel_rfl) (by kernel_rfl)) (by kernel_rfl) (by kernel_rfl)
set_option maxRecDepth 100000 in
theorem lifted (os : Os) (started : os.Started) (H : Type) (enc : TypeId × Value → H) :
 ReturnsInHanded {} Tryz.checked os 7 .any (fun w args => (Rows.labBackSpec.pre enc Tryz.prog Tryz.f7 [] false w args ∧ laidMetH Tryz.prog Rows.labBackRow.laid w) ∧ sizedMet enc Tryz.prog Tryz.f7 (OpenSpec.ofChange Rows.labBackSpec) false w args)
  (Rows.labBackSpec.post enc Tryz.prog Tryz.f7 false true false false):=by
 refine returnsInHanded_of_change_and (C:=Tryz.checked) (X:=fun w _ => laidMetH Tryz.prog Rows.labBackRow.laid w) (fun _ _ _ hh h => h.of_heap hh) own started (by kernel_rfl) Tryz.func7
  (ChangeSpec.witness_shaped (enc:=enc) (C:=Tryz.checked) (os:=os) (X:=fun w _ => laidMetH Tryz.prog Rows.labBackRow.laid w) false (World.doorLaid Tryz.prog 400 os) #[.agg #[.int .i64 0,.int .i64 0,.slice none 0 0]] 8 rfl (World.shaped_of_RefB (by kernel_rfl) (by kernel_rfl)) (by kernel_rfl) (by kernel_rfl) (by kernel_rfl) (door_met os _)) ?_
 intro W base args ds gs before hval0 hW _ hsz hL _
 have hval : ∀ (j : Nat) t v,Tryz.f7.params[j]? = some t → args[j]? = some v → Value.okWide Tryz.prog W .any base t v:=hval0
 have hW':=hW
 obtain ⟨p,q,hA0,hV,rfl,hfz,hnd⟩:=hW
 have hA : DataW.TrodAll enc Tryz.prog W 0 (fun _ => true) true Tryz.f7.params.toList args.toList ds p:=hA0
 rw [Tryz.params7] at hA hval hsz
 obtain ⟨v0,vs0,d0,ds0,p0,q0,hargs,rfl,rfl,g0,t0⟩:=trodAll_cons hA
 obtain ⟨rfl,rfl,rfl⟩:=trodAll_nil t0
 obtain rfl : args = #[v0]:=by cases args; simp_all
 obtain ⟨rfl,rfl⟩:=trodVars_none hV
 have kk0:=g0
 have lt0 : ∀ x ∈ p0,x.block < W.heap.size:=by obtain ⟨m,hm⟩:=kk0; exact DataW.trod_lt m _ _ _ hm
 obtain ⟨kr0,rr0,u0,x0,rfl,h0,l0,b0,bk0,br0⟩:=open_ruleV (hval 0 24 v0 rfl rfl) g0 (fun n hn => by
  have:=List.all_eq_true.1 hsz n (DataW.weights_mem_each (j:=0) (t:=24) rfl rfl n hn)
  simpa using this)
 obtain ⟨r,hg,hG⟩:=glob_of_laidH (W:=W) (by
  exact hL)
 clear hA0 hval0
 refine (labBack_any r _ _ _ _ _ hg hG h0).mono fun e W' ⟨x,he,bel,hxx⟩ => ?_
 subst he; subst hxx
 exact ⟨_,rfl,_,_,_,[],_,[],hW',trodAll_mk1 (shut_bool Tryz.underlying4 _),(trodAll_cons_mk (Below.trod laidOut (by kernel_rfl) (of_decide_eq_true (by kernel_rfl)) kk0 bel lt0) trodAll_mk0),rfl,bel.frame _,fun h => by cases h⟩
theorem and_t {a b : Bool} (h : a = true) (k : b = true) : (a && b) = true:=by rw [h,k]; rfl
theorem jf_wf : Rows.labBackRow.wf (OpenSpec.ofChange Rows.labBackSpec) = true:=by kernel_rfl
theorem jf_lo : laidOutB Tryz.prog = true:=by kernel_rfl
theorem jf_mr : mapsRowed Tryz.prog = true:=by kernel_rfl
theorem jf_nt : namedTie Tryz.prog Rows.labBackRow.named Rows.labBackSpec.vars = true:=by kernel_rfl
theorem jf_ip : (Rows.labBackRow.inPlace == Tryz.prog.inPlace 7) = true:=by kernel_rfl
theorem jf_uf : (Rows.labBackRow.unfollowed == Tryz.prog.unfollowed 7) = true:=by kernel_rfl
theorem jf_rc : (Rows.labBackRow.recurses == Tryz.prog.recurses 7) = true:=by kernel_rfl
theorem jf_nm : (Rows.labBackRow.named == Tryz.prog.varsNamed 7) = true:=by kernel_rfl
theorem jf_pk : (Rows.labBackRow.plainKeys == Tryz.prog.plainKeys) = true:=by kernel_rfl
theorem jf_sh : Tryz.prog.stopsHeard = true:=by kernel_rfl
theorem jf_me : Tryz.prog.mayEnter = true:=by kernel_rfl
theorem jf_lf : (Rows.labBackRow.lifted == Tryz.prog.liftsFinal) = true:=by kernel_rfl
theorem jf_mk : (Tryz.prog.make == some Rows.labBackRow.make) = true:=by kernel_rfl
theorem joined : joinedFacts Tryz.prog 7 Tryz.f7 Rows.labBackSpec Rows.labBackRow = true:=and_t (and_t (and_t (and_t (and_t (and_t (and_t (and_t (and_t (and_t (and_t (and_t (and_t (and_t (and_t (and_t (and_t (and_t (and_t (and_t (and_t (and_t (and_t (and_t (and_t (and_t (and_t (and_t (and_t (and_t (and_t jf_wf jf_lo) jf_mr) (by kernel_rfl)) jf_nt) (by kernel_rfl)) (by kernel_rfl)) (by kernel_rfl)) (by kernel_rfl)) jf_ip) jf_uf) jf_rc) jf_nm) (by kernel_rfl)) (by kernel_rfl)) (by kernel_rfl)) (by kernel_rfl)) (by kernel_rfl)) (by kernel_rfl)) (by kernel_rfl)) (by kernel_rfl)) (by kernel_rfl)) jf_pk) (by kernel_rfl)) jf_sh) jf_me) jf_lf) jf_mk) (by kernel_rfl)) (by kernel_rfl)) (by kernel_rfl)) (by kernel_rfl)
theorem fnamed : Tryz.prog.funcNamed Rows.labBackRow.func = some 7:=by kernel_rfl
theorem inst : Tryz.f7.isInstance Tryz.prog Rows.labBackRow.origin Rows.labBackRow.targs:=of_decide_eq_true (by kernel_rfl)
theorem wrapd : Tryz.f7.isWrapper Tryz.prog Rows.labBackRow.wrapper Rows.labBackRow.mainSum:=by unfold Func.isWrapper; first | (rw [if_pos (by decide +kernel)]; kernel_rfl) | (rw [if_neg (by decide +kernel)]; exact ⟨rfl,rfl⟩)
theorem over : Rows.LabBackSaid :=
 OpenClaim.holds_of_wide 7 Tryz.f7 rfl rfl rfl rfl rfl rfl rfl ⟨rfl,rfl,rfl,rfl,rfl⟩ rfl rfl rfl rfl rfl fnamed Tryz.func7 joined
  inst wrapd
  (fun os started H enc _ => lifted os started H enc)
theorem cw : Rows.labBackRow.wfByText (OpenSpec.ofChange Rows.labBackSpec) = true:=by kernel_rfl
theorem cm : Tryz.prog.mainIs = some (Rows.labBackCard.stood.harness.1,Rows.labBackCard.stood.harness.2.toList):=by kernel_rfl
theorem cl : Rows.labBackCard.stood.looks = Tryz.prog.looks []:=by kernel_rfl
theorem cg : false = Rows.labBackRow.goesBy Tryz.prog:=by kernel_rfl
theorem cs : ([24].all fun u => !Tryz.prog.wantsStandIn u) = true:=by kernel_rfl
/-- The tied card. -/
theorem card_holds : Rows.LabBackCardSaid :=
 Claim7.holds_tied_plain_at .later [] [.handle,.sentinel,.sentinel,.sentinel,.sentinel,.sentinel,.sentinel,.sentinel,.sentinel,.sentinel,.sentinel,.sentinel,.sentinel] true _ _
  over (fun _ h => by cases h) cw (fun _ h => by cases h) labBack_row_tie rfl ⟨rfl,rfl⟩ cm rfl
  (fun f fn hf hfn => by
    obtain rfl : f = 7:=Option.some.inj (fnamed.symm.trans hf) |>.symm
    obtain rfl : fn = Tryz.f7:=(Option.some.inj (Tryz.func7.symm.trans hfn)).symm
    exact ⟨cl,fun j t ht => by
     rw [Tryz.params7] at ht
     have hm : t ∈ [24]:=by simpa using Array.mem_of_getElem? ht
     exact (show Tryz.prog.wantsStandIn t = false by simpa using List.all_eq_true.1 cs t hm)⟩)
  cg
end LabBackP
#print axioms LabBackP.card_holds
end Go.Proofs.YtncpnaoabkjegaaGreatDoor
