/-
  Walk: graph's search goes through all that a vertex reaches.
  Walks: slices.ContainsFunc, graph.Check.
  Walk: slices.Repeat of a list of one number.
  Plain mathematics: numbers given one after another, as new ones come.
  A map from ints to ints that the call made: what is looked up, stored; how many keys it has (the kit's laws on maps, at these types).
  Walk: graph.Parts.
  Lists of ints of one's own: a row of slices, each a row of its own; what a new list, an append, a store does to them.
  Walk: graph.reach: what can be reached from the marked vertices.
  Walk: graph.back: the arrows the other way round.
-/
import Derived.Test.YtjiadfblphdchaaGreatDoorMVb3
import Derived.Deep.DeepCutAuto
import Derived.Ground.NamesProg
import Derived.Shelf.Bits.Mul64
import Derived.Maps.OwnSet
import Derived.WalkArith
import Derived.Deep.LoopGhost
namespace Go.Proofs.YtjiadfblphdchaaGreatDoor
open Go.RowKit
set_option maxRecDepth 100000
/-- What from leaves: the calls are done, what was found is found, and v. -/
def FromPost (B : Nat) (w : World) (d : Nat) (nv lv fv pv : Value) (n : Nat) (adj : Nat → List Nat) (S : TS) (v : Nat) (e : Ending) (w' : World) : Prop :=
 e = .returned (.tuple #[]) ∧ Below B w w' ∧ ∃ f' ov' cv' T,Rows B w' f' ∧ SN f' d nv lv fv pv ov' cv' n T ∧ TInv n adj T ∧ T.calls = [] ∧ ∀ x,S.found x ≠ 0 ∨ x = v → T.found x ≠ 0
theorem enter_keeps (S : TS) (v x : Nat) (h : S.found x ≠ 0 ∨ x = v) : (enterS S v).found x ≠ 0:=by
 show updN S.found v (S.time + 1) x ≠ 0
 by_cases e : x = v
 ·subst e; rw [updN_same]; omega
 ·rw [updN_other _ _ _ e]; exact h.resolve_right e
set_option maxHeartbeats 4000000 in
theorem from_any (w0 : World) (w : World) (f : Names) (d : Nat) (na : Option Addr) (nc : Nat) (lv fv pv ov cv : Value) (G : List (List Int)) (S : TS) (v : Nat) (hG : ListsAt w0 (.slice na G.length nc) G) (hok : GraphOk G) (hn : G.length ≤ 8192)
 (hb : Below w0.heap.size w0 w) (hr : Rows w0.heap.size w f) (h : SN f d (.slice na G.length nc) lv fv pv ov cv G.length S) (hI : TInv G.length (adjOf G) S) (hc : S.calls = []) (hv : v < G.length) (hf : S.found v = 0) :
 Calls Tryz.prog 152 #[.pointer (some ⟨d,0,none⟩),.int .i64 v] w (FromPost w0.heap.size w d (.slice na G.length nc) lv fv pv G.length (adjOf G) S v):=by
 have hlen : ∀ x,x < G.length → (G.getD x []).length ≤ 9223372036854775807:=by
  intro x hx
  obtain ⟨_,_,_,hm⟩:=hG.row x hx
  exact hm.len_le
 have hE:=enter_any w0.heap.size w f d (.slice na G.length nc) lv fv pv ov cv G.length S v hr h hb.size hv (by rw [hc]; simp) (by rw [h.opnNil hI hc]; simp) (by rw [hc]; simp) (by have:=hI.time_le; omega)
 have hI1:=hI.enterRoot hc hv hf
 have hkeep:=enter_keeps S v
 replace hG:=Lib.hid hG
 replace hok:=Lib.hid hok
 replace hI:=Lib.hid hI
 replace hlen:=Lib.hid hlen
 replace hr:=Lib.hid hr
 go_enter Tryz.func152,Tryz.ntmps152
 go_wp2_with fail
 refine hE.mono ?_
 rintro e w1 ⟨rfl,b1,f1,ov1,cv1,hr1,h1⟩
 generalize enterS S v = S1 at *
 replace hE:=()
 clear hE
 replace hkeep:=Lib.hid hkeep
 replace hI1:=Lib.hid hI1
 replace hr1:=Lib.hid hr1
 go_wp2_with fail
 go_loopg [] (phi G.length (adjOf G) S1) (fun k wr => ∃ Sx f' ov' cv',k = phi G.length (adjOf G) Sx ∧ TInv G.length (adjOf G) Sx ∧ (∀ x,S1.found x ≠ 0 → Sx.found x ≠ 0) ∧ Rows w0.heap.size wr f' ∧ Below w0.heap.size w wr ∧ SN f' d (.slice na G.length nc) lv fv pv ov' cv' G.length Sx)
 case atStart => exact ⟨S1,f1,ov1,cv1,rfl,hI1.out,fun _ h => h,hr1.out,b1,h1⟩
 case round =>
  obtain ⟨Sx,f2,ov2,cv2,rfl,hI2,hk2,hr2,b2,h2⟩:=hrel
  obtain ⟨wo,rfl⟩ : ∃ wo : World,wo = wr:=⟨_,rfl⟩
  have x5:=h2.cell hr2 5 (by decide)
  simp only [List.getElem?_cons_succ,List.getElem?_cons_zero] at x5
  cases hc2 : Sx.calls with
  | nil =>
   obtain ⟨ca,cc,rfl⟩:=h2.callsLen hr2
   rw [hc2,List.length_nil] at h2 x5
   have hfin:=Lib.hid (show ∀ x,S.found x ≠ 0 ∨ x = v → Sx.found x ≠ 0 from fun x hx => hk2 x (hkeep.out x hx))
   replace hI2:=Lib.hid hI2
   replace hc2:=Lib.hid hc2
   replace hr2:=Lib.hid hr2
   clear hk2
   go_wp2
   go_end0
   exact ⟨rfl,b2,f2,ov2,_,Sx,hr2.out,h2,hI2.out,hc2.out,hfin.out⟩
  | cons x r =>
   obtain ⟨g,c,rfl,hcap⟩:=h2.callsShape hr2 (by rw [hc2]; simp)
   rw [hc2,List.length_cons] at h2 x5 hcap
   have hxc : x ∈ Sx.calls:=by rw [hc2]; exact List.mem_cons_self
   have hxn:=hI2.seenLt x (hI2.callsSeen hxc).1
   have hrl:=hI2.calls_len
   rw [hc2,List.length_cons] at hrl
   have hxr : x ∉ r:=fun hm => by
    have:=hI2.callsSorted
    rw [hc2] at this
    exact absurd ((List.pairwise_cons.1 this).1 x hm) (Nat.lt_irrefl _)
   have hil:=hI2.idxLe x (hI2.callsOpen x hxc)
   have hal:=adjOf_len G x
   have hll:=hlen.out x hxn
   have hphi:=hI2.phi_step hc2
   have hI3:=hI2.step
   have hk3:=fun y (hy : S1.found y ≠ 0) => (keepsS (adjOf G) Sx (hk2 y hy)).symm ▸ hk2 y hy
   obtain ⟨t0,t1,t1f⟩:=h2.callTop hc2 hr2
   have x0:=h2.cell hr2 0 (by decide)
   simp only [List.getElem?_cons_zero] at x0
   have hb2:=hb.trans b2
   obtain ⟨mv,iR,cR,hM⟩:=(hG.out.below hb2).row x hxn
   have hget:=fun (i : Nat) (hi : i < (G.getD x []).length) => hok.out.get hxn hi
   obtain ⟨gx,hgx⟩ : ∃ gx,G.getD x [] = gx:=⟨_,rfl⟩
   rw [hgx] at hM hal hll hget
   replace hgx:=Lib.hid hgx
   replace hget:=Lib.hid hget
   have lenM:=hM.len
   have hwr : IntKind.i64.wrap (r.length : Int) = r.length:=wrapK (by omega) (by omega)
   obtain ⟨ra,hra⟩ : ∃ ra,valAt (.slice na G.length nc) x = ra:=⟨_,rfl⟩
   rw [hra] at iR cR
   replace hra:=Lib.hid hra
   replace hphi:=Lib.hid hphi
   replace hI3:=Lib.hid hI3
   replace hk3:=Lib.hid hk3
   replace hM:=Lib.hid hM
   replace hI2:=Lib.hid hI2
   replace hr2:=Lib.hid hr2
   replace hk2:=Lib.hid hk2
   replace hxr:=Lib.hid hxr
   have hstep:=Lib.hid (stepS_cons (adj:=adjOf G) hc2)
   by_cases hi : Sx.idx x = (adjOf G x).length
   ·have hieq : ((Sx.idx x : Int) == (gx.length : Int)) = true:=by rw [beq_iff_eq]; omega
    rw [if_pos hi] at hstep
    have hL:=fun (w' : World) (hr' : Rows w0.heap.size w' f2) => leave_any w0.heap.size w' f2 d (.slice na G.length nc) lv fv pv ov2 _ G.length (adjOf G) Sx x r hr' h2 hI2.out hc2 hn
    replace hL:=Lib.hid hL
    replace hc2:=Lib.hid hc2
    replace hi:=Lib.hid hi
    go_upto_region 2 with fail
    go_quiet (fail)
    go_upto_region 3 with fail
    go_quiet (fail)
    go_wp2_with fail
    clear t0 t1 t1f x0 x5 iR cR lenM
    refine (hL.out _ (hr2.out.drewN _)).mono ?_
    rintro e w3 ⟨rfl,b3,f3,ov3,cv3,hr3,h3⟩
    replace hr3:=Lib.hid hr3
    go_wp2
    go_roundg (phi G.length (adjOf G) (stepS (adjOf G) Sx))
    case measure => exact hphi.out
    case rel => exact ⟨stepS (adjOf G) Sx,f3,ov3,cv3,rfl,hI3.out,hk3.out,hr3.out,b2.trans (Below.trans (below_drewN (Below.refl _ _) _) b3),by rw [hstep.out]; exact h3⟩
   ·have hine : ((Sx.idx x : Int) == (gx.length : Int)) = false:=by rw [beq_eq_false_iff_ne]; omega
    have hilt : Sx.idx x < gx.length:=by omega
    rw [if_neg hi] at hstep
    have hg1:=hget.out _ hilt
    obtain ⟨t,ht⟩ : ∃ t,(adjOf G x).getD (Sx.idx x) 0 = t:=⟨_,rfl⟩
    rw [ht] at hg1 hstep
    have htn:=(hI2.out.idx_get hc2 hi).2.2
    rw [ht] at htn
    have iT:=hM.out.idx _ hilt
    have cT:=hM.out.cellD _ hilt
    rw [hg1] at cT
    generalize valAt mv (Sx.idx x) = ta at *
    replace hg1:=Lib.hid hg1
    replace ht:=Lib.hid ht
    replace hi:=Lib.hid hi
    have e1 : ((Sx.idx x + 1 : Nat) : Int) = (Sx.idx x : Int) + 1:=by omega
    have hbump:=fun (w' : World) (hr' : Rows w0.heap.size w' f2) => h2.bump hc2 hxr.out hr' (Sx.idx x + 1)
    rw [e1] at hbump
    replace e1:=Lib.hid e1
    replace hbump:=Lib.hid hbump
    have hgB:=((hr2.out.lt h2.calls) g rfl).1
    have hcb:=Lib.hid (show t ∉ Sx.calls ∨ Sx.found t ≠ 0 from by
     by_cases q : Sx.found t = 0
     ·exact .inl fun hm => (hI2.out.callsSeen hm).1 q
     ·exact .inr q)
    have hlens:=Lib.hid (show Sx.opn.length < 10000 ∧ Sx.calls.length < 10000 ∧ Sx.time < 100000 from ⟨by have:=hI2.out.opn_len; omega,by have:=hI2.out.calls_len; omega,by have:=hI2.out.time_le; omega⟩)
    replace hc2:=Lib.hid hc2
    go_upto_region 2 with fail
    go_quiet (fail)
    revert nq
    intro q1
    go_upto_region 3 with fail
    go_quiet (fail)
    revert nq
    intro q2
    go_upto_region 5 with fail
    go_quiet (fail)
    go_upto_region 7 with fail
    obtain ⟨WN,hWN⟩ : ∃ WN : World,WN = wo.drewN (q1 + q2 + nq):=⟨_,rfl⟩
    rw [← hWN]
    have hrN : Rows w0.heap.size WN f2:=by rw [hWN]; exact hr2.out.drewN _
    have bN : Below w0.heap.size w WN:=by rw [hWN]; exact b2.trans (below_drewN (Below.refl _ _) _)
    clear hWN t0 t1 t1f x0 x5 iR cR lenM iT cT
    obtain ⟨f3,hr3,h3⟩:=hbump.out _ hrN
    have b3 : Below w0.heap.size w (WN.setCell ⟨g,r.length * 2 + 1,none⟩ (.int .i64 ((Sx.idx x : Int) + 1))):=bN.setCell hgB _
    obtain ⟨W3,hW3⟩ : ∃ W3 : World,W3 = WN.setCell ⟨g,r.length * 2 + 1,none⟩ (.int .i64 ((Sx.idx x : Int) + 1)):=⟨_,rfl⟩
    rw [← hW3]
    rw [← hW3] at hr3 b3
    clear hW3 hrN bN
    have x2:=h3.cell hr3 2 (by decide)
    simp only [List.getElem?_cons_succ,List.getElem?_cons_zero] at x2
    have oF:=(hr3.ownI h3.fnd).at
    have iF:=fun w' => oF.idx t (by rw [tab_len]; exact htn) w'
    have cF:=oF.cellD t (by rw [tab_len]; exact htn)
    rw [tab_get _ _ _ htn] at cF
    dsimp only at cF
    replace hr3:=Lib.hid hr3
    clear oF
    obtain ⟨fa,hfa⟩ : ∃ fa,valAt fv t = fa:=⟨_,rfl⟩
    rw [hfa] at iF cF
    replace hfa:=Lib.hid hfa
    by_cases hft : Sx.found t = 0
    ·rw [if_pos hft] at hstep
     have hE3:=enter_any w0.heap.size W3 f3 d (.slice na G.length nc) lv fv pv ov2 _ G.length _ t hr3.out h3 (Nat.le_trans hb.size (Nat.le_trans b3.size (Nat.le_refl _))) htn (by show t ∉ Sx.calls; exact hcb.out.resolve_right (fun q => q hft)) hlens.out.1 hlens.out.2.1 hlens.out.2.2
     replace hE3:=Lib.hid hE3
     rw [hft] at cF
     replace hft:=Lib.hid hft
     go_wp2_with fail
     clear x2 iF cF
     refine hE3.out.mono ?_
     rintro e w4 ⟨rfl,b4,f4,ov4,cv4,hr4,h4⟩
     replace hr4:=Lib.hid hr4
     go_wp2
     go_roundg (phi G.length (adjOf G) (stepS (adjOf G) Sx))
     case measure => exact hphi.out
     case rel => exact ⟨stepS (adjOf G) Sx,f4,ov4,cv4,rfl,hI3.out,hk3.out,hr4.out,b3.trans b4,by rw [hstep.out]; exact h4⟩
    ·have hne : ((Sx.found t : Int) == 0) = false:=by rw [beq_eq_false_iff_ne]; omega
     rw [if_neg hft] at hstep
     replace hft:=Lib.hid hft
     have x4:=h3.cell hr3.out 4 (by decide)
     simp only [List.getElem?_cons_succ,List.getElem?_cons_zero] at x4
     have oP:=(hr3.out.ownI h3.part).at
     have iP:=fun w' => oP.idx t (by rw [tabI_len]; exact htn) w'
     have cP:=oP.cellD t (by rw [tabI_len]; exact htn)
     rw [tabI_get _ _ _ htn] at cP
     dsimp only at cP
     clear oP
     generalize valAt pv t = pa at *
     by_cases hpt : Sx.part t < 0
     ·rw [if_pos hpt] at hstep
      have hcx : Sx.calls = x :: r:=hc2.out
      have hT0:=fun (w' : World) (hr' : Rows w0.heap.size w' f3) => (h3.callTop hcx hr').1
      replace hcx:=Lib.hid hcx
      replace hT0:=Lib.hid hT0
      go_upto_region 10 with fail
      clear x4 iP cP x2
      refine wp_region_plan (fun w' => w'.cell? ⟨d,1,none⟩ = some lv ∧ w'.cell? ⟨d,2,none⟩ = some fv ∧ w'.cell? ⟨g,r.length * 2,none⟩ = some (.int .i64 (x : Int)) ∧ w'.cell? (valAt lv x) = some (.int .i64 (Sx.low x : Int)) ∧ w'.cell? fa = some (.int .i64 (Sx.found t : Int))) 27 [(0,true),(1,true),(2,true),(3,true),(4,true),(5,true),(6,true),(7,true),(8,true),(9,true),(10,true),(11,true),(12,true),(13,true),(14,true),(15,true),(16,true),(17,true),(18,true),(19,true),(20,true),(21,true),(22,true),(23,true),(24,true),(25,false),(26,true)] (by kernel_rfl) (by kernel_rfl) ?_
      obtain ⟨W5,hW5⟩ : ∃ W5 : World,W5 = W3.drew:=⟨_,rfl⟩
      rw [← hW5]
      have hr5 : Rows w0.heap.size W5 f3:=by rw [hW5]; exact hr3.out.drew
      have b5 : Below w0.heap.size w W5:=by rw [hW5]; exact b3.drew
      have cF5 : W5.cell? fa = some (.int .i64 (Sx.found t : Int)):=by rw [hW5]; exact cF
      clear hW5 cF
      have oL:=hr5.ownI h3.low
      have iX:=fun w' => oL.at.idx x (by rw [tab_len]; exact hxn) w'
      have cX:=oL.at.cellD x (by rw [tab_len]; exact hxn)
      rw [tab_get _ _ _ hxn] at cX
      dsimp only at cX
      have fX:=oL.frz x (by rw [tab_len]; exact hxn)
      have kX:=(oL.toV.blkB x (by rw [List.length_map,tab_len]; exact hxn)).2
      have hS : W5.cell? ⟨d,1,none⟩ = some lv ∧ W5.cell? ⟨d,2,none⟩ = some fv ∧ W5.cell? ⟨g,r.length * 2,none⟩ = some (.int .i64 (x : Int)) ∧ W5.cell? (valAt lv x) = some (.int .i64 (Sx.low x : Int)) ∧ W5.cell? fa = some (.int .i64 (Sx.found t : Int)):=⟨h3.cell hr5 1 (by decide),h3.cell hr5 2 (by decide),hT0.out _ hr5,cX,cF5⟩
      obtain ⟨f6,hr6,h6⟩:=h3.setLow hr5 x hxn (min (Sx.low x) (Sx.found t))
      have b6 : Below w0.heap.size w (W5.setCell (valAt lv x) (.int .i64 ((min (Sx.low x) (Sx.found t) : Nat) : Int))):=b5.setCell kX _
      replace hr6:=Lib.hid hr6
      replace hr5:=Lib.hid hr5
      clear oL cF5
      generalize valAt lv x = la at *
      refine pqY 92 hS ?_
      refine pqY 93 hS ?_
      refine pqY 94 hS ?_
      refine pqY 95 hS ?_
      refine pqY 96 hS ?_
      refine pqY 97 hS ?_
      refine pqY 98 hS ?_
      refine pqY 99 hS ?_
      refine pqY 100 hS ?_
      refine pqY 101 hS ?_
      refine pqY 102 hS ?_
      refine pqY 103 hS ?_
      refine pqY 104 hS ?_
      refine pqY 105 hS ?_
      refine pqY 106 hS ?_
      refine pqY 107 hS ?_
      refine pqY 108 hS ?_
      refine pqY 109 hS ?_
      refine pqY 110 hS ?_
      refine pqY 111 hS ?_
      refine pqY 112 hS ?_
      refine pqY 113 hS ?_
      refine pqY 114 hS ?_
      refine pqY 115 hS ?_
      refine pqY 116 hS ?_
      refine headC rfl (fun KK hK => ?_)
      -- CALL 25 slot (some 117)
      go_simp
      refine hK _ _ hS ?_
      clear hK KK
      refine pqY 118 hS ?_
      refine head0 ?_
      simp only [List.drop_succ_cons,List.drop_zero]
      clear hS iX iF
      go_wp2
      all_goals
       first
       | rw [show min (Sx.low x) (Sx.found t) = Sx.found t by omega] at b6 hr6
       | rw [show min (Sx.low x) (Sx.found t) = Sx.low x by omega] at b6 hr6
       | rw [show ((min (Sx.low x) (Sx.found t) : Nat) : Int) = min (Sx.low x : Int) (Sx.found t : Int) by omega] at b6 hr6
       refine NoPanic.normal ?_
       go_wp2
       go_roundg (phi G.length (adjOf G) (stepS (adjOf G) Sx))
       case measure => exact hphi.out
       case rel => exact ⟨stepS (adjOf G) Sx,f6,ov2,_,rfl,hI3.out,hk3.out,hr6.out,b6,by rw [hstep.out]; exact h6⟩
     ·rw [if_neg hpt] at hstep
      go_wp2
      go_roundg (phi G.length (adjOf G) (stepS (adjOf G) Sx))
      case measure => exact hphi.out
      case rel => exact ⟨stepS (adjOf G) Sx,f3,ov2,_,rfl,hI3.out,hk3.out,hr3.out,b3,by rw [hstep.out]; exact h3⟩
end Go.Proofs.YtjiadfblphdchaaGreatDoor
namespace Go.Proofs.YtjiadfblphdchaaGreatDoor
open Go.RowKit
set_option maxRecDepth 100000
def sGraph : ByteArray:=⟨#[103,114,97,112,104]⟩
/-- No vertex of n. -/
def oddT (n : Nat) (t : Int) : Bool:=decide (t < 0) || decide ((n : Int) ≤ t)
def arrowsTo (G : List (List Int)) : Nat → Nat
 | 0 => 0
 | k + 1 => arrowsTo G k + (G.getD k []).length
def oddTo (G : List (List Int)) : Nat → Int
 | 0 => -1
 | k + 1 => if oddTo G k < 0 then (if 0 ≤ idxOf (oddT G.length) (G.getD k []) then (k : Int) else oddTo G k) else oddTo G k
/-- What Check tells. -/
def checkG (G : List (List Int)) : PErr :=
 if 8192 < G.length then fresh sGraph 0 4
 else if 262144 < arrowsTo G G.length then fresh sGraph 1 4
 else if 0 ≤ oddTo G G.length then fresh sGraph (oddTo G G.length) 1
 else none
theorem arrowsTo_mono (G : List (List Int)) {k l : Nat} (h : k ≤ l) : arrowsTo G k ≤ arrowsTo G l:=by
 induction l with
 | zero => obtain rfl : k = 0:=by omega
           exact Nat.le_refl _
 | succ l ih =>
  by_cases e : k = l + 1
  ·subst e; exact Nat.le_refl _
  ·have:=ih (by omega); simp only [arrowsTo]; omega
theorem oddTo_neg (G : List (List Int)) : ∀ k,oddTo G k < 0 → ∀ v,v < k → ∀ t ∈ G.getD v [],oddT G.length t = false
 | 0,_,v,hv => by omega
 | k + 1,h,v,hv => by
  simp only [oddTo] at h
  by_cases hk : oddTo G k < 0
  ·rw [if_pos hk] at h
   by_cases hj : 0 ≤ idxOf (oddT G.length) (G.getD k [])
   ·rw [if_pos hj] at h; omega
   ·by_cases e : v = k
    ·subst e
     intro t ht
     rcases idxOf_cases (oddT G.length) (G.getD v []) with ⟨_,q⟩ | ⟨i,q,_⟩
     ·exact q t ht
     ·omega
    ·exact oddTo_neg G k hk v (by omega)
  ·rw [if_neg hk] at h; exact absurd h hk
theorem checkG_none {G : List (List Int)} (h : checkG G = none) : G.length ≤ 8192 ∧ arrowsTo G G.length ≤ 262144 ∧ GraphOk G:=by
 unfold checkG at h
 by_cases h1 : 8192 < G.length
 ·rw [if_pos h1] at h; cases h
 rw [if_neg h1] at h
 by_cases h2 : 262144 < arrowsTo G G.length
 ·rw [if_pos h2] at h; cases h
 rw [if_neg h2] at h
 by_cases h3 : 0 ≤ oddTo G G.length
 ·rw [if_pos h3] at h; cases h
 refine ⟨by omega,by omega,fun v hv t ht => ?_⟩
 have:=oddTo_neg G G.length (by omega) v hv t ht
 simp [oddT] at this
 omega
theorem graph_wrong (r : Nat → Addr) (at_ n : Int) (w : World) (hg : Glob r w) (h1 : 1 ≤ n) (h2 : n ≤ 11) :
 Calls Tryz.prog 124 #[.int .i64 at_,.int .i64 n] w (Ret1 (fun v w' => ErrIs r w' (fresh sGraph at_ n) v) w):=by
 go_enter Tryz.func124,Tryz.ntmps124
 go_wp2_with fail
 refine (new_any r _ at_ n w hg h1 h2).mono ?_
 rintro e w' ⟨v,rfl,hb,he⟩
 go_wp2
 go_ret
 exact ⟨_,rfl,hb,he⟩
theorem check1_any (x : Int) (na : Option Addr) (n nc : Nat) (b : Addr) (w : World) (hb : w.cell? b = some (.slice na n nc)) :
 Calls Tryz.prog 154 #[.int .i64 x,.pointer (some b)] w fun e w' => e = .returned (.bool (oddT n x)) ∧ w = w':=by
 by_cases h : x < 0
 ·have e : oddT n x = true:=by simp [oddT,h]
  rw [e]
  go_enter Tryz.func154,Tryz.ntmps154
  go_wp2
  go_ret
  exact ⟨rfl,rfl⟩
 ·have e : oddT n x = decide ((n : Int) ≤ x):=by simp [oddT,h]
  rw [e]
  go_enter Tryz.func154,Tryz.ntmps154
  go_wp2
  go_ret
  exact ⟨ret_bool (by simp),rfl⟩
theorem eg_check1 (args : Array Value) (w : World) : (callFunc 154 args).run Tryz.prog w = .ok (.enter 154 args) w:=by kernel_rfl
theorem containsFunc_any (v b : Value) (F : Nat) (xs : List Int) (p : Int → Bool) (w : World) (h : IntsAt w v xs)
 (eg : ∀ args w,(callFunc F args).run Tryz.prog w = .ok (.enter F args) w)
 (hF : ∀ x : Int,x ∈ xs → Calls Tryz.prog F #[.int .i64 x,b] w fun e w' => e = .returned (.bool (p x)) ∧ w = w') :
 Calls Tryz.prog 121 #[v,.func (.func F) #[] #[b]] w fun e w' => e = .returned (.bool (decide (0 ≤ idxOf p xs))) ∧ w = w':=by
 have hI:=indexFunc_any v b F xs p w h eg hF
 clear hF eg
 go_enter Tryz.func121,Tryz.ntmps121
 go_wp2_with fail
 refine hI.mono ?_
 rintro e w' ⟨rfl,rfl⟩
 go_wp2
 go_ret
 exact ⟨ret_bool (by simp),rfl⟩
set_option maxHeartbeats 2000000 in
theorem graph_check (r : Nat → Addr) (na : Option Addr) (nc : Nat) (G : List (List Int)) (w : World) (hg : Glob r w) (h : ListsAt w (.slice na G.length nc) G) (hsz : ∀ k,k < G.length → (G.getD k []).length ≤ 17592186044416) :
 Calls Tryz.prog 123 #[.slice na G.length nc] w (Ret1 (fun v w' => ErrIs r w' (checkG G) v) w):=by
 have b0 : Below w.heap.size w (w.alloc (.cells #[.slice na G.length nc] 74)):=(Below.refl _ _).alloc (Nat.le_refl _) _
 obtain ⟨w0,hw0⟩ : ∃ w0,w0 = w.alloc (.cells #[.slice na G.length nc] 74):=⟨_,rfl⟩
 have c0 : w0.cell? ⟨w.heap.size,0,none⟩ = some (.slice na G.length nc):=by simp [hw0,go_sem]
 rw [← hw0] at b0
 replace hsz:=Lib.hid hsz
 replace hg:=Lib.hid (hg.below b0)
 replace h:=Lib.hid (h.below b0)
 have hn63 : G.length ≤ 9223372036854775807:=by
  obtain ⟨vs,h1,h2,_⟩:=h.out
  have:=h1.len_le; omega
 by_cases hbig : 8192 < G.length
 ·have hp : checkG G = fresh sGraph 0 4:=by unfold checkG; rw [if_pos hbig]
  rw [hp]
  replace hp:=Lib.hid hp
  go_enter Tryz.func123,Tryz.ntmps123
  go_wp2_with fail
  rw [← hw0]
  clear hw0
  refine (graph_wrong r _ _ _ hg.out (by decide) (by decide)).mono ?_
  rintro e w' ⟨v,rfl,hb,he⟩
  replace he:=Lib.hid he
  go_wp2
  go_ret
  exact ⟨_,rfl,Below.step b0 hb,he.out⟩
 ·have hpure : ∀ k,k ≤ G.length → 262144 < arrowsTo G k → checkG G = fresh sGraph 1 4:=fun k hk hq => by
   unfold checkG
   rw [if_neg hbig,if_pos (by have:=arrowsTo_mono G hk; omega)]
  have hend : arrowsTo G G.length ≤ 262144 → checkG G = if 0 ≤ oddTo G G.length then fresh sGraph (oddTo G G.length) 1 else none:=fun hq => by
   unfold checkG
   rw [if_neg hbig,if_neg (by omega)]
  replace hpure:=Lib.hid hpure
  replace hend:=Lib.hid hend
  have hgt : decide ((G.length : Int) > 8192) = false:=by simp; omega
  go_enter Tryz.func123,Tryz.ntmps123
  go_upto_if 9 with fail
  rw [← hw0]
  clear hw0
  go_wp2_with fail
  go_loopw [3,4,13] (fun a o i wr => ∃ k n : Nat,k ≤ G.length ∧ i = .int .i64 k ∧ a = .int .i64 (arrowsTo G k) ∧ o = .int .i64 (oddTo G k) ∧ arrowsTo G k ≤ 262144 ∧ wr = w0.drewN n) (fun _ _ i _ => G.length - (intOf i).toNat)
  case atStart => exact ⟨0,0,by omega,rfl,rfl,rfl,by simp [arrowsTo],rfl⟩
  case round =>
   obtain ⟨k,q,hk,rfl,rfl,rfl,hle,rfl⟩:=hrel
   by_cases hlt : k < G.length
   ·obtain ⟨mv,iR,cR,hM⟩:=h.out.row k hlt
    have hll:=hsz.out k hlt
    have ha1 : arrowsTo G (k + 1) = arrowsTo G k + (G.getD k []).length:=rfl
    have ho1 : oddTo G (k + 1) = if oddTo G k < 0 then (if 0 ≤ idxOf (oddT G.length) (G.getD k []) then (k : Int) else oddTo G k) else oddTo G k:=rfl
    generalize G.getD k [] = gk at *
    have lenM:=hM.len
    replace hM:=Lib.hid hM
    by_cases hov : 262144 < arrowsTo G k + gk.length
    ·have hp:=hpure.out (k + 1) (by omega) (by omega)
     replace hp:=Lib.hid hp
     replace ho1:=Lib.hid ho1
     replace ha1:=Lib.hid ha1
     go_wp2_with fail
     refine (graph_wrong r _ _ _ (hg.out.below (below_drewN (Below.refl _ _) q)) (by decide) (by decide)).mono ?_
     rintro e w' ⟨v,rfl,hb,he⟩
     replace he:=Lib.hid he
     go_wp2
     go_ret
     exact ⟨_,rfl,Below.step b0 (Below.step (below_drewN (Below.refl _ _) q) hb),by rw [hp.out]; exact he.out⟩
    ·by_cases hod : oddTo G k < 0
     ·rw [if_pos hod] at ho1
      have hcf:=Lib.hid (containsFunc_any mv (.pointer (some ⟨w.heap.size,0,none⟩)) 154 gk (oddT G.length) (w0.drewN q) (hM.out.drewN q) eg_check1 (fun x _ => check1_any x na G.length nc _ _ c0))
      by_cases hx : 0 ≤ idxOf (oddT G.length) gk
      ·rw [if_pos hx] at ho1
       replace ho1:=Lib.hid ho1
       replace ha1:=Lib.hid ha1
       go_wp2_with fail
       refine hcf.out.mono ?_
       rintro e w' ⟨rfl,rfl⟩
       rw [show decide (0 ≤ idxOf (oddT G.length) gk) = true by simpa using hx]
       replace hx:=Lib.hid hx
       go_wp2
       go_round
       case measure => simp [intOf]; omega
       case rel => exact ⟨k + 1,_,by omega,by go_num,by rw [ha1.out]; go_num,by rw [ho1.out],by rw [ha1.out]; omega,rfl⟩
      ·rw [if_neg hx] at ho1
       replace ho1:=Lib.hid ho1
       replace ha1:=Lib.hid ha1
       go_wp2_with fail
       refine hcf.out.mono ?_
       rintro e w' ⟨rfl,rfl⟩
       rw [show decide (0 ≤ idxOf (oddT G.length) gk) = false by simpa using hx]
       replace hx:=Lib.hid hx
       go_wp2
       go_round
       case measure => simp [intOf]; omega
       case rel => exact ⟨k + 1,_,by omega,by go_num,by rw [ha1.out]; go_num,by rw [ho1.out],by rw [ha1.out]; omega,rfl⟩
     ·rw [if_neg hod] at ho1
      replace ho1:=Lib.hid ho1
      replace ha1:=Lib.hid ha1
      go_wp2
      go_round
      case measure => simp [intOf]; omega
      case rel => exact ⟨k + 1,_,by omega,by go_num,by rw [ha1.out]; go_num,by rw [ho1.out],by rw [ha1.out]; omega,rfl⟩
   ·obtain rfl : k = G.length:=by omega
    have hp:=hend.out hle
    by_cases hod : 0 ≤ oddTo G G.length
    ·rw [if_pos hod] at hp
     replace hp:=Lib.hid hp
     go_wp2_with fail
     refine (graph_wrong r _ _ _ (hg.out.below (below_drewN (Below.refl _ _) q)) (by decide) (by decide)).mono ?_
     rintro e w' ⟨v,rfl,hb,he⟩
     replace he:=Lib.hid he
     go_wp2
     go_ret
     exact ⟨_,rfl,Below.step b0 (Below.step (below_drewN (Below.refl _ _) q) hb),by rw [hp.out]; exact he.out⟩
    ·rw [if_neg hod] at hp
     replace hp:=Lib.hid hp
     go_wp2
     go_ret
     exact ⟨_,rfl,Below.step b0 (below_drewN (Below.refl _ _) q),by rw [hp.out]; rfl⟩
end Go.Proofs.YtjiadfblphdchaaGreatDoor
namespace Go.Proofs.YtjiadfblphdchaaGreatDoor
open Go.RowKit Go.Shelf
set_option maxRecDepth 100000
def Tryz.laysMul_ren : Go.Shelf.Ren:=⟨fun | 212 => 172 | 263 => 181 | 264 => 182 | n => n,fun | 46 => 181 | 51 => 153 | 146 => 188 | 53 => 151 | 148 => 244 | n => n,fun | n => n⟩
theorem Tryz.laysMul : Go.Proofs.Lays.n212 Tryz.prog Tryz.laysMul_ren:={
 mixed:=by kernel_rfl
 f212:=Tryz.func172.trans (congrArg some (by kernel_rfl))
 f263:=Tryz.func181.trans (congrArg some (by kernel_rfl))
 f264:=Tryz.func182.trans (congrArg some (by kernel_rfl))
 t46:=Tryz.underlying181
 a46:=Tryz.isAgg181
 z46:=Tryz.sizeOf181
 v46:=Tryz.zeroValue181
 t51:=Tryz.underlying153
 a51:=Tryz.isAgg153
 z51:=Tryz.sizeOf153
 v51:=Tryz.zeroValue153
 t53:=Tryz.underlying151
 a53:=Tryz.isAgg151
 z53:=Tryz.sizeOf151
 v53:=Tryz.zeroValue151
 t146:=Tryz.underlying188
 a146:=Tryz.isAgg188
 z146:=Tryz.sizeOf188
 v146:=Tryz.zeroValue188
 t148:=Tryz.underlying244
 a148:=Tryz.isAgg244
 z148:=Tryz.sizeOf244
 v148:=Tryz.zeroValue244 }
/-- copy(d, u), d at place off of an owned slice, u longer perhaps than the room. -/
theorem run_copyMin {w : World} {B : Nat} {v u d : Value} {xs ys : List Int} (off : Nat) (ty : TypeId) (dp : Option Addr) (dLen dCap : Nat) (hown : OwnI B w v xs) (hu : IntsAt w u ys) (hd : d = .slice dp dLen dCap)
 (hfit : off + dLen ≤ xs.length) (h0 : 0 < dLen) (h1 : 0 < ys.length) (hdp : dp = some (valAt v off)) :
 ∃ w',(Builtin.copy_ #[22,22] ty #[d,u]).run Tryz.prog w = .ok (.int .i64 ((ys.take dLen).length : Int)) w' ∧ OwnI B w' v (xs.take off ++ ys.take dLen ++ xs.drop (off + (ys.take dLen).length)) ∧ Below B w w':=by
 subst hd
 obtain ⟨sp,sCap,rfl,hc1,h2,h3,h4⟩:=hu
 subst hdp
 cases sp with
 | none => have:=h3 rfl; omega
 | some p =>
  rcases hown.2 with ⟨rfl,hn⟩ | ⟨g,cap,cur,rfl,hb,hg,hn,hm,hcs,ht⟩
  ·omega
  ·rw [valAt_row]
   obtain ⟨zs,hzs⟩ : ∃ zs,zs = ys.take dLen:=⟨_,rfl⟩
   have hzl : zs.length = Nat.min ys.length dLen:=by rw [hzs,List.length_take,Nat.min_comm]
   have hzd : zs.length ≤ dLen:=by rw [hzl]; exact Nat.min_le_right _ _
   rw [← hzs]
   have hsrc : ∀ j u,(zs.map (Value.int .i64))[j]? = some u → w.cell? (p.add j) = some u:=by
    intro j u hj
    have hjl : j < zs.length:=by have:=(List.getElem?_eq_some_iff.1 hj).1; simpa using this
    have hjy : j < ys.length:=by rw [hzl] at hjl; exact Nat.lt_of_lt_of_le hjl (Nat.min_le_left _ _)
    have:=h4 j hjy
    simp only [valAt] at this
    rw [this,← hj,List.getElem?_map,List.getElem?_eq_getElem hjl]
    simp [hzs]
   have hcl : cur.toList.length = cap:=by rw [Array.length_toList,hcs]; omega
   have hr:=run_copy_row (P:=Tryz.prog) w 22 22 ty 3 g off dLen dCap p ys.length sCap cur 3 (zs.map (.int .i64)) uInts sizeInt1 hg (by rw [List.length_map]; exact hzl) hsrc (by rw [hcs,List.length_map]; omega) (ints_oneCell _ _)
   rw [show goInt (zs.map (Value.int .i64)).length = .int .i64 zs.length by rw [List.length_map]; rfl] at hr
   have hst : w.grownBy (w.setRow g (cur.toList.take off ++ zs.map (Value.int .i64) ++ cur.toList.drop (off + (zs.map (Value.int .i64)).length)).toArray) (some g) :=
    ⟨rfl,rfl,rfl,by simp,fun k _ hk => setRow_other w g k _ (fun e => hk (by simp [e]))⟩
   refine ⟨_,hr,?_,(Below.refl _ _).grown hst (by have:=(Array.getElem?_eq_some_iff.1 hg).1; omega) (by intro k hk; simp at hk; omega)⟩
   have hlen : (xs.take off ++ zs ++ xs.drop (off + zs.length)).length = xs.length:=by simp; omega
   refine ⟨by simp,.inr ⟨g,cap,_,by rw [hlen],hb,setRow_heap w g cur _ _ _ hg,by rw [hlen]; exact hn,hm,?_,?_⟩⟩
   ·simp only [List.size_toArray,List.length_append,List.length_take,List.length_drop,List.length_map,hcl]; omega
   ·rw [hlen]
    have e:=splice_take cur.toList (zs.map (Value.int .i64)) off xs.length (by rw [List.length_map]; omega) (by omega)
    rw [Nat.mul_one] at ht ⊢
    rw [e,ht]
    simp [List.map_take,List.map_drop]
/-- Some copies, zeros behind. -/
def reps (x : Int) (m n : Nat) : List Int:=List.replicate m x ++ List.replicate (n - m) 0
theorem reps_len (x : Int) {m n : Nat} (h : m ≤ n) : (reps x m n).length = n:=by simp [reps]; omega
theorem reps_full (x : Int) (n : Nat) : reps x n n = List.replicate n x:=by simp [reps]
theorem reps_splice (x : Int) {m n k : Nat} (hk : m + k ≤ n) : (reps x m n).take m ++ List.replicate k x ++ (reps x m n).drop (m + k) = reps x (m + k) n:=by
 unfold reps
 rw [List.take_left' (by simp),List.drop_append,List.drop_eq_nil_of_le (by simp),List.nil_append,List.length_replicate,List.drop_replicate,List.replicate_append_replicate]
 congr 2
 omega
theorem mul_any (x y : Nat) (hx : x < 100000) (hy : y < 100000) (w : World) :
 Calls Tryz.prog 172 #[.int .u64 x,.int .u64 y] w fun e w' => e = .returned (.tuple #[.int .u64 0,.int .u64 ((x * y : Nat) : Int)]) ∧ w = w':=by
 refine (Any.bits_Mul Tryz.laysMul x y (by omega) (by omega) w).mono ?_
 rintro e w' ⟨rfl,rfl⟩
 have h : x * y < 10000000000:=by
  calc x * y ≤ 99999 * 99999:=Nat.mul_le_mul (by omega) (by omega)
   _ < _:=by decide
 rw [Nat.div_eq_of_lt (by omega),Nat.mod_eq_of_lt (by omega)]
 exact ⟨rfl,rfl⟩
set_option maxHeartbeats 1000000 in
theorem repeat_any (v : Value) (x : Int) (n : Nat) (w : World) (h : IntsAt w v [x]) (hn : n ≤ 10000) :
 Calls Tryz.prog 151 #[v,.int .i64 n] w (Ret1 (fun u w' => OwnI w.heap.size w' u (List.replicate n x)) w):=by
 have hl:=h.len
 obtain ⟨u,w1,hmk,hu,hb1⟩:=run_makeI (n : Int) n w rfl (by omega)
 have hM:=mul_any 1 n (by omega) (by omega) w
 rw [Nat.one_mul] at hM
 replace hM:=Lib.hid hM
 obtain ⟨ua,un,uc,rfl⟩:=hu.at.shape
 go_enter Tryz.func151,Tryz.ntmps151
 have hcp : ∃ w2,(Builtin.copy_ #[22,22] 3 #[.slice ua un uc,v]).run Tryz.prog w1 = .ok (.int .i64 ((min 1 n : Nat) : Int)) w2 ∧ OwnI w.heap.size w2 (.slice ua un uc) (reps x (min 1 n) n) ∧ Below w.heap.size w1 w2:=by
  have hun : un = n:=by
   obtain ⟨a,c,e,_⟩:=hu.at
   injection e with _ e _
   rw [e]; simp
  have hv:=h.below hb1
  by_cases h0 : n = 0
  ·subst h0; subst hun
   obtain ⟨sp,sc,rfl,_⟩:=hv
   refine ⟨w1,run_copy_none (P:=Tryz.prog) w1 22 22 3 3 ua sp 0 uc 1 sc uInts sizeInt1 (by simp),?_,Below.refl _ _⟩
   simpa [reps] using hu
  ·subst hun
   have hva : ua = some (valAt (.slice ua un uc) 0):=by
    rcases hu.2 with ⟨e,hn0⟩ | ⟨g,cap,cur,e,_⟩
    ·rw [List.length_replicate] at hn0; exact absurd hn0 h0
    ·injection e with e1 e2 e3
     subst e1; rfl
   obtain ⟨w2,h1,h2,h3⟩:=run_copyMin (ys:=[x]) 0 3 ua un uc hu hv rfl (by rw [List.length_replicate]; omega) (by omega) (by simp) hva
   have ht : ([x] : List Int).take un = [x]:=List.take_of_length_le (by show 1 ≤ un; omega)
   rw [ht] at h1 h2
   refine ⟨w2,?_,?_,h3⟩
   ·rw [h1,Nat.min_eq_left (by omega)]; rfl
   ·rw [Nat.min_eq_left (by omega)]
    have e:=reps_splice x (m:=0) (n:=un) (k:=1) (by omega)
    have e2 : reps x 0 un = List.replicate un 0:=by simp [reps]
    rw [e2] at e
    rw [← e]
    exact h2
 obtain ⟨w2,hcp,ho2,hb2⟩:=hcp
 replace hu:=Lib.hid hu
 replace ho2:=Lib.hid ho2
 have hb:=Lib.hid (hb1.trans hb2)
 go_wp2_with fail
 refine hM.out.mono ?_
 rintro e w' ⟨rfl,rfl⟩
 go_wp2_with fail
 go_loopw [8] (fun mv wr => ∃ m : Nat,min 1 n ≤ m ∧ m ≤ n ∧ mv = .int .i64 m ∧ OwnI w.heap.size wr (.slice ua un uc) (reps x m n) ∧ Below w.heap.size w wr) (fun mv _ => n - (intOf mv).toNat)
 case atStart => exact ⟨min 1 n,Nat.le_refl _,Nat.min_le_right _ _,rfl,ho2.out,hb.out⟩
 case round =>
  obtain ⟨m,hm1,hm2,rfl,ho,hbr⟩:=hrel
  obtain ⟨wo,rfl⟩ : ∃ wo : World,wo = wr:=⟨_,rfl⟩
  have hl2:=ho.at.len
  rw [reps_len x hm2] at hl2
  by_cases hlt : m < n
  ·have hm0 : 1 ≤ m:=by omega
   obtain ⟨g,cap,cur,e,hgB,_,hnc,_⟩ : ∃ g cap cur,Value.slice ua un uc = .slice (some ⟨g,0,none⟩) (reps x m n).length cap ∧ w.heap.size ≤ g ∧ wo.heap[g]? = some (.cells cur 3 (0,0)) ∧ (reps x m n).length ≤ cap ∧ True:=by
    rcases ho.2 with ⟨_,hn0⟩ | ⟨g,cap,cur,e,h1,h2,h3,_⟩
    ·rw [reps_len x hm2] at hn0; omega
    ·exact ⟨g,cap,cur,e,h1,h2,h3,trivial⟩
   rw [reps_len x hm2] at e hnc
   injection e with e1 e2 e3
   subst e1; subst e2; subst e3
   have hfull:=Lib.hid hu
   clear hfull hu ho2 hcp hmk
   have hu2:=ho.at.pre m (by rw [reps_len x hm2]; exact hm2)
   have htk : (reps x m un).take m = List.replicate m x:=by unfold reps; exact List.take_left' (by simp)
   rw [htk] at hu2
   obtain ⟨k,hk⟩ : ∃ k,k = ((List.replicate m x).take (un - m)).length:=⟨_,rfl⟩
   have hkk : k = min (un - m) m:=by rw [hk]; simp
   have hkr : (List.replicate m x).take (un - m) = List.replicate k x:=by rw [hkk,List.take_replicate]
   have hcp : ∀ W : World,OwnI w.heap.size W (.slice (some ⟨g,0,none⟩) un uc) (reps x m un) → IntsAt W (.slice (some ⟨g,0,none⟩) m uc) (List.replicate m x) → ∃ w2,(Builtin.copy_ #[22,22] 3 #[.slice (some ⟨g,m,none⟩) (un - m) (uc - m),.slice (some ⟨g,0,none⟩) m uc]).run Tryz.prog W = .ok (.int .i64 (k : Int)) w2 ∧ OwnI w.heap.size w2 (.slice (some ⟨g,0,none⟩) un uc) (reps x (m + k) un) ∧ Below w.heap.size W w2:=by
    intro W hW hW2
    obtain ⟨w2,a,b,c⟩:=run_copyMin m 3 (some ⟨g,m,none⟩) (un - m) (uc - m) hW hW2 rfl (by rw [reps_len x hm2]; omega) (by omega) (by rw [List.length_replicate]; omega) (by rw [valAt_row])
    rw [← hk] at a b
    rw [hkr,reps_splice x (by omega)] at b
    exact ⟨w2,a,b,c⟩
   obtain ⟨w3,hc3,ho3,hb3⟩:=hcp wo.drew ho hu2
   have hwr : IntKind.i64.wrap ((m : Int) + (k : Int)) = (m : Int) + k:=wrapK (by omega) (by omega)
   have hb4 : Below w.heap.size w w3:=hbr.drew.trans hb3
   have hk1 : 1 ≤ k:=by omega
   have hk2 : m + k ≤ un:=by omega
   have hsl1 : (0 ≤ (m : Int) ∧ (m : Int) ≤ (un : Int)):=⟨by omega,by omega⟩
   have hsl2 : (0 ≤ (m : Int) ∧ (m : Int) ≤ (uc : Int)):=⟨by omega,by omega⟩
   have hmc : ¬ uc = m:=by omega
   replace ho3:=Lib.hid ho3
   replace ho:=Lib.hid ho
   clear hcp hu2 htk hk hkr hkk
   go_upto_region 9 with fail
   refine wp_region_plan (fun _ => True) 9 [(0,true),(1,true),(2,true),(3,true),(4,true),(5,true),(6,true),(7,false),(8,true)] (by kernel_rfl) (by kernel_rfl) ?_
   have hS:=trivial
   refine pqY 38 hS ?_
   refine pqY 39 hS ?_
   refine pqY 40 hS ?_
   refine pqY 41 hS ?_
   refine pqY 42 hS ?_
   refine pqY 43 hS ?_
   refine pqY 44 hS ?_
   refine headC rfl (fun KK hK => ?_)
   -- CALL 7 slot (some 45)
   go_simp
   refine hK _ _ hS ?_
   clear hK KK
   refine pqY 46 hS ?_
   refine head0 ?_
   simp only [List.drop_succ_cons,List.drop_zero]
   go_wp2
   refine NoPanic.normal ?_
   go_wp2
   go_round
   case measure => simp [intOf]; omega
   case rel => exact ⟨m + k,by omega,hk2,by go_num,ho3.out,hb4⟩
  ·obtain rfl : m = n:=by omega
   rw [reps_full] at ho
   replace ho:=Lib.hid ho
   go_wp2
   go_ret
   exact ⟨_,rfl,hbr,ho.out⟩
end Go.Proofs.YtjiadfblphdchaaGreatDoor
namespace Go.Proofs.YtjiadfblphdchaaGreatDoor
def updM (M : Int → Option Int) (p x : Int) : Int → Option Int:=fun q => if q = p then some x else M q
/-- Behind the first k: what has a number, and how many have. -/
def numM (p : Nat → Int) : Nat → (Int → Option Int) × Nat
 | 0 => (fun _ => none,0)
 | k + 1 => if ((numM p k).1 (p k)).isSome then numM p k else (updM (numM p k).1 (p k) ((numM p k).2 : Int),(numM p k).2 + 1)
/-- The number of the k-th. -/
def numO (p : Nat → Int) (k : Nat) : Int:=((numM p (k + 1)).1 (p k)).getD 0
theorem numM_size (p : Nat → Int) : ∀ k,(numM p k).2 ≤ k
 | 0 => Nat.le_refl _
 | k + 1 => by
  have:=numM_size p k
  simp only [numM]; split <;> simp <;> omega
theorem numM_keep (p : Nat → Int) {q x : Int} (k : Nat) (h : (numM p k).1 q = some x) : ∀ d,(numM p (k + d)).1 q = some x
 | 0 => h
 | d + 1 => by
  have ih:=numM_keep p k h d
  show (numM p (k + d + 1)).1 q = some x
  simp only [numM]
  split
  ·exact ih
  ·next hn =>
   show updM _ _ _ q = some x
   unfold updM
   by_cases e : q = p (k + d)
   ·subst e; rw [ih] at hn; exact absurd rfl hn
   ·rw [if_neg e]; exact ih
theorem numM_own (p : Nat → Int) (k : Nat) : (numM p (k + 1)).1 (p k) = some (numO p k):=by
 unfold numO
 have : ((numM p (k + 1)).1 (p k)).isSome:=by
  simp only [numM]
  split
  ·next h => exact h
  ·simp [updM]
 obtain ⟨x,hx⟩:=Option.isSome_iff_exists.1 this
 rw [hx]; rfl
theorem numM_below (p : Nat → Int) : ∀ k q x,(numM p k).1 q = some x → 0 ≤ x ∧ x < (numM p k).2
 | 0,q,x,h => by cases h
 | k + 1,q,x,h => by
  have ih:=numM_below p k q x
  simp only [numM] at h ⊢
  split at h
  ·next hs => rw [if_pos hs]; exact ih h
  ·next hs =>
   rw [if_neg hs]
   simp only [updM] at h ⊢
   by_cases e : q = p k
   ·rw [if_pos e] at h; injection h with h; omega
   ·rw [if_neg e] at h; have:=ih h; omega
theorem numM_inj (p : Nat → Int) : ∀ k q q' x,(numM p k).1 q = some x → (numM p k).1 q' = some x → q = q'
 | 0,q,q',x,h,_ => by cases h
 | k + 1,q,q',x,h,h' => by
  have ih:=numM_inj p k q q' x
  simp only [numM] at h h'
  split at h
  ·next hs => rw [if_pos hs] at h'; exact ih h h'
  ·next hs =>
   rw [if_neg hs] at h'
   simp only [updM] at h h'
   by_cases e : q = p k <;> by_cases e' : q' = p k
   ·rw [e,e']
   ·rw [if_pos e] at h; rw [if_neg e'] at h'
    have:=numM_below p k q' x h'
    injection h with h; omega
   ·rw [if_neg e] at h; rw [if_pos e'] at h'
    have:=numM_below p k q x h
    injection h' with h'; omega
   ·rw [if_neg e] at h; rw [if_neg e'] at h'; exact ih h h'
/-- One number just where it is one thing. -/
theorem numO_eq (p : Nat → Int) (i j : Nat) : numO p i = numO p j ↔ p i = p j:=by
 have key : ∀ i d,(numM p (i + 1 + d)).1 (p i) = some (numO p i):=fun i d => numM_keep p (i + 1) (numM_own p i) d
 have hi:=key i j
 have hj:=key j i
 rw [show j + 1 + i = i + 1 + j by omega] at hj
 constructor
 ·intro h; rw [h] at hi; exact numM_inj p _ _ _ _ hi hj
 ·intro h; rw [h] at hi; rw [hi] at hj; injection hj
/-- What the numbers tell: one number just where there are ways both ways. -/
def PartsOf (n : Nat) (adj : Nat → List Nat) (ps : List Int) : Prop :=
 ∃ p : Nat → Int,(∀ x y,x < n → y < n → (p x = p y ↔ Goes adj x y ∧ Goes adj y x)) ∧ ps = (List.range n).map (numO p)
theorem PartsOf.len {n : Nat} {adj : Nat → List Nat} {ps : List Int} (h : PartsOf n adj ps) : ps.length = n:=by
 obtain ⟨p,_,rfl⟩:=h; simp
theorem PartsOf.eq {n : Nat} {adj : Nat → List Nat} {ps : List Int} (h : PartsOf n adj ps) {x y : Nat} (hx : x < n) (hy : y < n) : ps.getD x 0 = ps.getD y 0 ↔ Goes adj x y ∧ Goes adj y x:=by
 obtain ⟨p,hp,rfl⟩:=h
 simp only [List.getD_eq_getElem?_getD,List.getElem?_map,List.getElem?_range hx,List.getElem?_range hy,Option.map_some,Option.getD_some]
 rw [numO_eq,hp x y hx hy]
end Go.Proofs.YtjiadfblphdchaaGreatDoor
namespace Go.Proofs.YtjiadfblphdchaaGreatDoor
open Go.RowKit Go.Maps
set_option maxRecDepth 100000
theorem uIntN : Tryz.prog.underlying 3 = some (.int .i64):=by kernel_rfl
theorem uMapN : Tryz.prog.underlying 216 = some (.map 3 3):=by kernel_rfl
theorem keyedN : Keyed Tryz.prog 3:=int_keyed uIntN
theorem zeroN (w : World) : (zeroValue 3).run Tryz.prog w = .ok (.int .i64 0) w:=by kernel_rfl
/-- Block b is a map that has these numbers under these keys, s in all. -/
def NumMap (w : World) (b n : Nat) (M : Int → Option Int) (s : Nat) : Prop :=
 ∃ D : DataW Unit,w.ownsMap Tryz.prog 3 (plainElem Tryz.prog 3) b n D ∧ Maps.size D = s ∧
  ∀ k,(Lit.int .i64 k).wf = true → Maps.has D (.int .i64 k) = (M k).isSome ∧ ∀ x,M k = some x → D.atKey (.int .i64 k) (.lit (.int .i64 0)) = .lit (.int .i64 x)
theorem NumMap.made (w : World) : NumMap (w.alloc (.map #[] 0)) w.heap.size 0 (fun _ => none) 0 :=
 ⟨_,World.ownsMap_made w Tryz.prog 3 _,rfl,fun k _ => ⟨rfl,fun x h => by cases h⟩⟩
theorem NumMap.blk {w : World} {b n s : Nat} {M : Int → Option Int} (h : NumMap w b n M s) : ∃ es c,w.heap[b]? = some (.map es c):=by
 obtain ⟨D,⟨es,c,hb,_⟩,_⟩:=h
 exact ⟨es,c,hb⟩
theorem NumMap.kept {w w' : World} {b n s : Nat} {M : Int → Option Int} {row : Option Nat} (h : NumMap w b n M s) (hg : w.grownBy w' row) (hne : some b ≠ row) : NumMap w' b n M s:=by
 obtain ⟨D,h1,h2⟩:=h
 exact ⟨D,h1.kept hg hne,h2⟩
theorem NumMap.drew {w : World} {b n s : Nat} {M : Int → Option Int} (h : NumMap w b n M s) : NumMap w.drew b n M s:=h
theorem NumMap.drewN {w : World} {b n s : Nat} {M : Int → Option Int} (h : NumMap w b n M s) (q : Nat) : NumMap (w.drewN q) b n M s:=h
theorem NumMap.len {w : World} {b n s : Nat} {M : Int → Option Int} (h : NumMap w b n M s) (ty : TypeId) : (Builtin.len_ #[216] ty #[.map (some b)]).run Tryz.prog w = .ok (.int .i64 s) w:=by
 obtain ⟨D,h1,rfl,_⟩:=h
 exact h1.len uMapN ty
theorem NumMap.lookOk {w : World} {b n s : Nat} {M : Int → Option Int} (h : NumMap w b n M s) (k : Int) (hk : (Lit.int .i64 k).wf = true) :
 ∃ c : Int,(Instr.lookup 216 (.map (some b)) (.int .i64 k) true).run Tryz.prog w = .ok (.tuple #[.int .i64 c,.bool (M k).isSome]) w:=by
 obtain ⟨D,h1,_,h3⟩:=h
 obtain ⟨v,ps,hr,hv⟩:=h1.look_ok keyedN uMapN (zeroN w) (plainElem_int uIntN (by decide)) (keyOf_int_mk uIntN hk)
 obtain ⟨c,rfl,_,_⟩:=plainElem_int_inv uIntN hv
 exact ⟨c,by rw [hr,(h3 k hk).1]⟩
theorem NumMap.look {w : World} {b n s : Nat} {M : Int → Option Int} (h : NumMap w b n M s) (k x : Int) (hk : (Lit.int .i64 k).wf = true) (hx : M k = some x) :
 (Instr.lookup 216 (.map (some b)) (.int .i64 k) false).run Tryz.prog w = .ok (.int .i64 x) w:=by
 obtain ⟨D,h1,_,h3⟩:=h
 obtain ⟨c,hr,hc,_⟩:=h1.lookup_int keyedN uMapN uIntN (zeroN w) (keyOf_int_mk uIntN hk)
 rw [(h3 k hk).2 x hx] at hc
 injection hc with hc
 injection hc with _ hc
 rw [hr,hc]
theorem NumMap.store {w : World} {b n s : Nat} {M : Int → Option Int} (h : NumMap w b n M s) (k x : Int) (hk : (Lit.int .i64 k).wf = true) (hx : (Lit.int .i64 x).wf = true) (hM : M k = none) (hn : n < 1000000) :
 ∃ w',(Instr.mapUpdate 216 (.map (some b)) (.int .i64 k) (.int .i64 x)).run Tryz.prog w = .ok () w' ∧ NumMap w' b (n + 1) (updM M k x) (s + 1) ∧ w.grownBy w' (some b):=by
 obtain ⟨D,h1,h2,h3⟩:=h
 have hT:=h1.tidy keyedN
 have hI:=h1.isMap
 obtain ⟨w',hr,ho,hg⟩:=h1.update keyedN uMapN (by unfold maxLen; omega) (keyOf_int_mk uIntN hk) (plainElem_int uIntN hx)
 have hkl : WideAt.IsKeyLit (Lit.int .i64 k):=keyedN.key (keyOf_int_mk uIntN hk)
 refine ⟨w',hr,⟨_,ho,?_,fun q hq => ?_⟩,hg⟩
 ·rw [Maps.size_put hT,(h3 k hk).1,hM,h2]; rfl
 ·by_cases e : q = k
  ·subst e
   refine ⟨by rw [Maps.has_put_same hI hkl]; simp [updM],fun y hy => ?_⟩
   simp [updM] at hy
   subst hy
   exact Maps.atKey_put_same hI hkl _ _
  ·have hne : (Lit.int .i64 q) ≠ (Lit.int .i64 k):=fun h => e (by injection h)
   refine ⟨by rw [Maps.has_put_other hne,(h3 q hq).1]; simp [updM,e],fun y hy => ?_⟩
   rw [Maps.atKey_put_other hne]
   exact (h3 q hq).2 y (by simpa [updM,e] using hy)
/-- Rows stay while a map's block is written. -/
theorem ownI_map {B : Nat} {w w' : World} {b : Nat} {es : Array MapEntry} {c : Nat} {v : Value} {xs : List Int} (h : OwnI B w v xs) (hb : w.heap[b]? = some (.map es c)) (hg : w.grownBy w' (some b)) : OwnI B w' v xs:=by
 refine World.ownsRow.kept h hg ?_
 rcases h.2 with ⟨e,_⟩ | ⟨g,cap,cur,e,_,hh,_⟩
 ·left; rw [e]; rfl
 ·right; rw [e]; intro q
  have : g = b:=by injection q
  subst this; rw [hh] at hb; cases hb
end Go.Proofs.YtjiadfblphdchaaGreatDoor
namespace Go.Proofs.YtjiadfblphdchaaGreatDoor
open Go.RowKit
set_option maxRecDepth 100000
/-- The names ahead of the search: two empty stacks. -/
def names0 : Names:=fun i => if i = (3,0) then some (rowI (.slice none 0 0) []) else if i = (5,0) then some ⟨238,2,.slice none 0 0,0,[]⟩ else none
theorem rows0 (B : Nat) (w : World) : Rows B w names0:=by
 refine ⟨fun i r hi => ?_,fun i j r s hi hj hne => ?_⟩
 ·unfold names0 at hi
  split at hi
  ·injection hi with hi; subst hi; exact OwnI.nil B w
  ·split at hi
   ·injection hi with hi; subst hi; exact World.ownsRow_nil w B _ 2
   ·cases hi
 ·left
  unfold names0 at hi
  split at hi
  ·injection hi with hi; subst hi; rfl
  ·split at hi
   ·injection hi with hi; subst hi; rfl
   ·cases hi
theorem tab_zero (n : Nat) : tab n (fun _ => 0) = List.replicate n 0:=by
 unfold tab; apply List.ext_getElem <;> simp
theorem tabI_neg (n : Nat) : tabI n (fun _ => -1) = List.replicate n (-1):=by
 unfold tabI; apply List.ext_getElem <;> simp
/-- The search's box is made. -/
theorem search_box {B : Nat} {W : World} {f : Names} {na : Option Addr} {gl nc n : Nat} {lv fv pv : Value} (hr : Rows B W f) (hB : B ≤ W.heap.size)
 (h1 : f (1,0) = some (rowI lv (List.replicate n 0))) (h2 : f (2,0) = some (rowI fv (List.replicate n 0))) (h4 : f (4,0) = some (rowI pv (List.replicate n (-1))))
 (h3 : f (3,0) = some (rowI (.slice none 0 0) [])) (h5 : f (5,0) = some ⟨238,2,.slice none 0 0,0,[]⟩) :
 Rows B (W.alloc (.cells #[.slice na gl nc,lv,fv,.slice none 0 0,pv,.slice none 0 0,.int .i64 0] 214)) (upd f (0,0) (some ⟨214,7,.slice (some ⟨W.heap.size,0,none⟩) 1 1,1,[.slice na gl nc,lv,fv,.slice none 0 0,pv,.slice none 0 0,.int .i64 0]⟩)) ∧
  SN (upd f (0,0) (some ⟨214,7,.slice (some ⟨W.heap.size,0,none⟩) 1 1,1,[.slice na gl nc,lv,fv,.slice none 0 0,pv,.slice none 0 0,.int .i64 0]⟩)) W.heap.size (.slice na gl nc) lv fv pv (.slice none 0 0) (.slice none 0 0) n initS:=by
 refine ⟨hr.add (belowAlloc W _) ⟨rfl,.inr ⟨W.heap.size,1,_,rfl,hB,heap_alloc_new W _,Nat.le_refl _,by unfold maxLen; omega,rfl,rfl⟩⟩ (fun k hk => by cases hk; exact Nat.le_refl _),⟨upd_same _ _ _,?_,?_,?_,?_,?_⟩⟩
 ·rw [upd_ne _ _ (by simp),h1]; show _ = some (rowI lv (tab n fun _ => 0)); rw [tab_zero]
 ·rw [upd_ne _ _ (by simp),h2]; show _ = some (rowI fv (tab n fun _ => 0)); rw [tab_zero]
 ·rw [upd_ne _ _ (by simp),h3]; rfl
 ·rw [upd_ne _ _ (by simp),h4]; show _ = some (rowI pv (tabI n fun _ => -1)); rw [tabI_neg]
 ·rw [upd_ne _ _ (by simp),h5]; rfl
/-- What Parts leaves. -/
def PartsPost (r : Nat → Addr) (w : World) (G : List (List Int)) (x y : Value) (w' : World) : Prop :=
 ErrIs r w' (checkG G) y ∧ (checkG G = none → ∃ ps,PartsOf G.length (adjOf G) ps ∧ OwnI w.heap.size w' x ps) ∧ (checkG G ≠ none → x = .slice none 0 0)
set_option maxHeartbeats 4000000 in
theorem parts_any (r : Nat → Addr) (na : Option Addr) (nc : Nat) (G : List (List Int)) (w : World) (hg : Glob r w) (h : ListsAt w (.slice na G.length nc) G) (hsz : ∀ k,k < G.length → (G.getD k []).length ≤ 17592186044416) :
 Calls Tryz.prog 116 #[.slice na G.length nc] w (Ret2 (PartsPost r w G) w):=by
 have hC:=graph_check r na nc G w hg h hsz
 cases hck : checkG G with
 | some t =>
  rw [hck] at hC
  replace hck:=Lib.hid hck
  replace h:=Lib.hid h
  replace hg:=Lib.hid hg
  replace hsz:=Lib.hid hsz
  go_enter Tryz.func116,Tryz.ntmps116
  go_wp2_with fail
  refine hC.mono ?_
  rintro e w1 ⟨y,rfl,b1,he⟩
  obtain ⟨T,a,rfl⟩:=he.some_shape
  replace he:=Lib.hid he
  go_wp2
  go_ret2
  exact ⟨_,_,rfl,b1,⟨by rw [hck.out]; exact he.out,⟨fun q => (by rw [hck.out] at q; cases q),fun _ => rfl⟩⟩⟩
 | none =>
  rw [hck] at hC
  obtain ⟨hn,harr,hok⟩:=checkG_none hck
  replace hck:=Lib.hid hck
  replace h:=Lib.hid h
  replace hg:=Lib.hid hg
  replace hsz:=Lib.hid hsz
  replace hok:=Lib.hid hok
  go_enter Tryz.func116,Tryz.ntmps116
  go_wp2_with fail
  refine hC.mono ?_
  rintro e w1 ⟨y,rfl,b1,he⟩
  obtain rfl:=he.none_eq
  clear he hC
  go_upto_region 5 with fail
  go_cut [6] from 14 (fun s6 wx => ∃ d f lv fv pv,s6 = .pointer (some ⟨d,0,none⟩) ∧ Below w1.heap.size w1 wx ∧ Rows w1.heap.size wx f ∧ SN f d (.slice na G.length nc) lv fv pv (.slice none 0 0) (.slice none 0 0) G.length initS)
  case first =>
   obtain ⟨W0,hW0⟩ : ∃ W0 : World,W0 = w1.drew:=⟨_,rfl⟩
   have b0 : Below w1.heap.size w1 W0:=by rw [hW0]; exact (Below.refl _ _).drew
   have R0:=rows0 w1.heap.size W0
   have hB0:=b0.size
   refine wp_region_noPanic ?_
   refine wp_region_any (by kernel_rfl) ?_
   change wpAny _ _ _ _ _ _ _ (World.drew _)
   rw [← hW0]
   clear hW0
   refine pqA 0 21 ?_
   refine pqA 1 22 ?_
   refine pqA 3 24 ?_
   refine pqA 6 27 ?_
   refine wpAny_ready (rs:=[2,4,5]) (by kernel_rfl) (by simp) (AllReady.cons rfl (fun KK hK => ?_) (AllReady.cons rfl (fun KK hK => ?_) (AllReady.cons rfl (fun KK hK => ?_) (AllReady.nil))))
   ·obtain ⟨lv,W1,mk,ho,hb⟩:=run_makeI (G.length : Int) G.length W0 rfl (by omega)
    obtain ⟨lva,lvn,lvc,rfl⟩:=ho.at.shape
    go_simp
    refine hK _ _ ?_
    clear hK KK mk
    have R1:=R0.add (i:=(1,0)) (r':=rowI (.slice lva lvn lvc) (List.replicate G.length 0)) hb (ho.mono hB0) (fun k hk => (ho.lt k hk).1)
    have b1:=b0.trans (hb.mono hB0)
    have hB1:=Nat.le_trans hB0 hb.size
    clear ho hb R0
    refine wpAny_ready (rs:=[4,5]) (by kernel_rfl) (by simp) (AllReady.cons rfl (fun KK hK => ?_) (AllReady.cons rfl (fun KK hK => ?_) (AllReady.nil)))
    ·obtain ⟨fv,W2,mk,ho,hb⟩:=run_makeI (G.length : Int) G.length W1 rfl (by omega)
     obtain ⟨fva,fvn,fvc,rfl⟩:=ho.at.shape
     go_simp
     refine hK _ _ ?_
     clear hK KK mk
     have R2:=R1.add (i:=(2,0)) (r':=rowI (.slice fva fvn fvc) (List.replicate G.length 0)) hb (ho.mono hB1) (fun k hk => (ho.lt k hk).1)
     have b2:=b1.trans (hb.mono hB1)
     have hB2:=Nat.le_trans hB1 hb.size
     clear ho hb R1
     refine wpAny_ready (rs:=[5]) (by kernel_rfl) (by simp) (AllReady.cons rfl (fun KK hK => ?_) (AllReady.nil))
     ·go_simp
      refine hK _ _ ?_
      clear hK KK
      have hb:=belowAlloc W2 (.cells #[.int .i64 (-1)] 3)
      have hI3:=(OwnI.lit W2.heap.size W2 (Nat.le_refl _) [-1] (by simp [maxLen]) #[.int .i64 (-1)] rfl 1 rfl).at
      obtain ⟨W3,hW3⟩ : ∃ W3 : World,W3 = W2.alloc (.cells #[.int .i64 (-1)] 3):=⟨_,rfl⟩
      rw [← hW3]
      rw [← hW3] at hb hI3
      clear hW3
      have R3:=R2.below hb
      have b3:=b2.trans (hb.mono hB2)
      have hB3:=Nat.le_trans hB2 hb.size
      clear hb R2
      refine wpAny_ready (rs:=[7]) (by kernel_rfl) (by simp) (AllReady.cons rfl (fun KK hK => ?_) (AllReady.nil))
      ·go_simp
       refine (repeat_any _ (-1) G.length _ hI3 (by omega)).mono ?_
       rintro e W4 ⟨pv,rfl,hb,ho⟩
       obtain ⟨pva,pvn,pvc,rfl⟩:=ho.at.shape
       refine hK _ _ ?_
       clear hK KK
       have R4:=R3.add (i:=(4,0)) (r':=rowI (.slice pva pvn pvc) (List.replicate G.length (-1))) hb (ho.mono hB3) (fun k hk => (ho.lt k hk).1)
       have b4:=b3.trans (hb.mono hB3)
       have hB4:=Nat.le_trans hB3 hb.size
       have hI4:=hI3.below hb
       clear ho hb R3 hI3
       refine pqA 8 29 ?_
       have Rb:=search_box (na:=na) (gl:=G.length) (nc:=nc) (n:=G.length) (lv:=.slice lva lvn lvc) (fv:=.slice fva fvn fvc) (pv:=.slice pva pvn pvc) R4 hB4 (by simp [upd]) (by simp [upd]) (by simp [upd]) (by simp [upd,names0]) (by simp [upd,names0])
       replace Rb:=Lib.hid Rb
       replace R4:=Lib.hid R4
       have bb:=b4.trans ((belowAlloc W4 (.cells #[.slice na G.length nc,.slice lva lvn lvc,.slice fva fvn fvc,.slice none 0 0,.slice pva pvn pvc,.slice none 0 0,.int .i64 0] 214)).mono hB4)
       refine wpAny_ready (rs:=[9]) (by kernel_rfl) (by simp) (AllReady.cons rfl (fun KK hK => ?_) AllReady.nil)
       go_simp
       refine hK _ _ ?_
       clear hK KK
       refine pqA 10 6 ?_
       refine wpAny_done (by kernel_rfl) ?_ _
       refine NoPanic.normal ?_
       go_wp2
       go_meet
       case rel => exact ⟨_,_,_,_,_,rfl,bb,Rb.out.1,Rb.out.2⟩
    ·go_simp
     refine hK _ _ ?_
     clear hK KK
     have hb:=belowAlloc W1 (.cells #[.int .i64 (-1)] 3)
     have hI5:=(OwnI.lit W1.heap.size W1 (Nat.le_refl _) [-1] (by simp [maxLen]) #[.int .i64 (-1)] rfl 1 rfl).at
     obtain ⟨W5,hW5⟩ : ∃ W5 : World,W5 = W1.alloc (.cells #[.int .i64 (-1)] 3):=⟨_,rfl⟩
     rw [← hW5]
     rw [← hW5] at hb hI5
     clear hW5
     have R5:=R1.below hb
     have b5:=b1.trans (hb.mono hB1)
     have hB5:=Nat.le_trans hB1 hb.size
     clear hb R1
     refine wpAny_ready (rs:=[4,7]) (by kernel_rfl) (by simp) (AllReady.cons rfl (fun KK hK => ?_) (AllReady.cons rfl (fun KK hK => ?_) (AllReady.nil)))
     ·obtain ⟨fv,W6,mk,ho,hb⟩:=run_makeI (G.length : Int) G.length W5 rfl (by omega)
      obtain ⟨fva,fvn,fvc,rfl⟩:=ho.at.shape
      go_simp
      refine hK _ _ ?_
      clear hK KK mk
      have R6:=R5.add (i:=(2,0)) (r':=rowI (.slice fva fvn fvc) (List.replicate G.length 0)) hb (ho.mono hB5) (fun k hk => (ho.lt k hk).1)
      have b6:=b5.trans (hb.mono hB5)
      have hB6:=Nat.le_trans hB5 hb.size
      have hI6:=hI5.below hb
      clear hI5
      clear ho hb R5
      refine wpAny_ready (rs:=[7]) (by kernel_rfl) (by simp) (AllReady.cons rfl (fun KK hK => ?_) (AllReady.nil))
      ·go_simp
       refine (repeat_any _ (-1) G.length _ hI6 (by omega)).mono ?_
       rintro e W7 ⟨pv,rfl,hb,ho⟩
       obtain ⟨pva,pvn,pvc,rfl⟩:=ho.at.shape
       refine hK _ _ ?_
       clear hK KK
       have R7:=R6.add (i:=(4,0)) (r':=rowI (.slice pva pvn pvc) (List.replicate G.length (-1))) hb (ho.mono hB6) (fun k hk => (ho.lt k hk).1)
       have b7:=b6.trans (hb.mono hB6)
       have hB7:=Nat.le_trans hB6 hb.size
       have hI7:=hI6.below hb
       clear ho hb R6 hI6
       refine pqA 8 29 ?_
       have Rb:=search_box (na:=na) (gl:=G.length) (nc:=nc) (n:=G.length) (lv:=.slice lva lvn lvc) (fv:=.slice fva fvn fvc) (pv:=.slice pva pvn pvc) R7 hB7 (by simp [upd]) (by simp [upd]) (by simp [upd]) (by simp [upd,names0]) (by simp [upd,names0])
       replace Rb:=Lib.hid Rb
       replace R7:=Lib.hid R7
       have bb:=b7.trans ((belowAlloc W7 (.cells #[.slice na G.length nc,.slice lva lvn lvc,.slice fva fvn fvc,.slice none 0 0,.slice pva pvn pvc,.slice none 0 0,.int .i64 0] 214)).mono hB7)
       refine wpAny_ready (rs:=[9]) (by kernel_rfl) (by simp) (AllReady.cons rfl (fun KK hK => ?_) AllReady.nil)
       go_simp
       refine hK _ _ ?_
       clear hK KK
       refine pqA 10 6 ?_
       refine wpAny_done (by kernel_rfl) ?_ _
       refine NoPanic.normal ?_
       go_wp2
       go_meet
       case rel => exact ⟨_,_,_,_,_,rfl,bb,Rb.out.1,Rb.out.2⟩
     ·go_simp
      refine (repeat_any _ (-1) G.length _ hI5 (by omega)).mono ?_
      rintro e W8 ⟨pv,rfl,hb,ho⟩
      obtain ⟨pva,pvn,pvc,rfl⟩:=ho.at.shape
      refine hK _ _ ?_
      clear hK KK
      have R8:=R5.add (i:=(4,0)) (r':=rowI (.slice pva pvn pvc) (List.replicate G.length (-1))) hb (ho.mono hB5) (fun k hk => (ho.lt k hk).1)
      have b8:=b5.trans (hb.mono hB5)
      have hB8:=Nat.le_trans hB5 hb.size
      have hI8:=hI5.below hb
      clear ho hb R5 hI5
      refine wpAny_ready (rs:=[4]) (by kernel_rfl) (by simp) (AllReady.cons rfl (fun KK hK => ?_) (AllReady.nil))
      ·obtain ⟨fv,W9,mk,ho,hb⟩:=run_makeI (G.length : Int) G.length W8 rfl (by omega)
       obtain ⟨fva,fvn,fvc,rfl⟩:=ho.at.shape
       go_simp
       refine hK _ _ ?_
       clear hK KK mk
       have R9:=R8.add (i:=(2,0)) (r':=rowI (.slice fva fvn fvc) (List.replicate G.length 0)) hb (ho.mono hB8) (fun k hk => (ho.lt k hk).1)
       have b9:=b8.trans (hb.mono hB8)
       have hB9:=Nat.le_trans hB8 hb.size
       have hI9:=hI8.below hb
       clear hI8
       clear ho hb R8
       refine pqA 8 29 ?_
       have Rb:=search_box (na:=na) (gl:=G.length) (nc:=nc) (n:=G.length) (lv:=.slice lva lvn lvc) (fv:=.slice fva fvn fvc) (pv:=.slice pva pvn pvc) R9 hB9 (by simp [upd]) (by simp [upd]) (by simp [upd]) (by simp [upd,names0]) (by simp [upd,names0])
       replace Rb:=Lib.hid Rb
       replace R9:=Lib.hid R9
       have bb:=b9.trans ((belowAlloc W9 (.cells #[.slice na G.length nc,.slice lva lvn lvc,.slice fva fvn fvc,.slice none 0 0,.slice pva pvn pvc,.slice none 0 0,.int .i64 0] 214)).mono hB9)
       refine wpAny_ready (rs:=[9]) (by kernel_rfl) (by simp) (AllReady.cons rfl (fun KK hK => ?_) AllReady.nil)
       go_simp
       refine hK _ _ ?_
       clear hK KK
       refine pqA 10 6 ?_
       refine wpAny_done (by kernel_rfl) ?_ _
       refine NoPanic.normal ?_
       go_wp2
       go_meet
       case rel => exact ⟨_,_,_,_,_,rfl,bb,Rb.out.1,Rb.out.2⟩
   ·obtain ⟨fv,W10,mk,ho,hb⟩:=run_makeI (G.length : Int) G.length W0 rfl (by omega)
    obtain ⟨fva,fvn,fvc,rfl⟩:=ho.at.shape
    go_simp
    refine hK _ _ ?_
    clear hK KK mk
    have R10:=R0.add (i:=(2,0)) (r':=rowI (.slice fva fvn fvc) (List.replicate G.length 0)) hb (ho.mono hB0) (fun k hk => (ho.lt k hk).1)
    have b10:=b0.trans (hb.mono hB0)
    have hB10:=Nat.le_trans hB0 hb.size
    clear ho hb R0
    refine wpAny_ready (rs:=[2,5]) (by kernel_rfl) (by simp) (AllReady.cons rfl (fun KK hK => ?_) (AllReady.cons rfl (fun KK hK => ?_) (AllReady.nil)))
    ·obtain ⟨lv,W11,mk,ho,hb⟩:=run_makeI (G.length : Int) G.length W10 rfl (by omega)
     obtain ⟨lva,lvn,lvc,rfl⟩:=ho.at.shape
     go_simp
     refine hK _ _ ?_
     clear hK KK mk
     have R11:=R10.add (i:=(1,0)) (r':=rowI (.slice lva lvn lvc) (List.replicate G.length 0)) hb (ho.mono hB10) (fun k hk => (ho.lt k hk).1)
     have b11:=b10.trans (hb.mono hB10)
     have hB11:=Nat.le_trans hB10 hb.size
     clear ho hb R10
     refine wpAny_ready (rs:=[5]) (by kernel_rfl) (by simp) (AllReady.cons rfl (fun KK hK => ?_) (AllReady.nil))
     ·go_simp
      refine hK _ _ ?_
      clear hK KK
      have hb:=belowAlloc W11 (.cells #[.int .i64 (-1)] 3)
      have hI12:=(OwnI.lit W11.heap.size W11 (Nat.le_refl _) [-1] (by simp [maxLen]) #[.int .i64 (-1)] rfl 1 rfl).at
      obtain ⟨W12,hW12⟩ : ∃ W12 : World,W12 = W11.alloc (.cells #[.int .i64 (-1)] 3):=⟨_,rfl⟩
      rw [← hW12]
      rw [← hW12] at hb hI12
      clear hW12
      have R12:=R11.below hb
      have b12:=b11.trans (hb.mono hB11)
      have hB12:=Nat.le_trans hB11 hb.size
      clear hb R11
      refine wpAny_ready (rs:=[7]) (by kernel_rfl) (by simp) (AllReady.cons rfl (fun KK hK => ?_) (AllReady.nil))
      ·go_simp
       refine (repeat_any _ (-1) G.length _ hI12 (by omega)).mono ?_
       rintro e W13 ⟨pv,rfl,hb,ho⟩
       obtain ⟨pva,pvn,pvc,rfl⟩:=ho.at.shape
       refine hK _ _ ?_
       clear hK KK
       have R13:=R12.add (i:=(4,0)) (r':=rowI (.slice pva pvn pvc) (List.replicate G.length (-1))) hb (ho.mono hB12) (fun k hk => (ho.lt k hk).1)
       have b13:=b12.trans (hb.mono hB12)
       have hB13:=Nat.le_trans hB12 hb.size
       have hI13:=hI12.below hb
       clear ho hb R12 hI12
       refine pqA 8 29 ?_
       have Rb:=search_box (na:=na) (gl:=G.length) (nc:=nc) (n:=G.length) (lv:=.slice lva lvn lvc) (fv:=.slice fva fvn fvc) (pv:=.slice pva pvn pvc) R13 hB13 (by simp [upd]) (by simp [upd]) (by simp [upd]) (by simp [upd,names0]) (by simp [upd,names0])
       replace Rb:=Lib.hid Rb
       replace R13:=Lib.hid R13
       have bb:=b13.trans ((belowAlloc W13 (.cells #[.slice na G.length nc,.slice lva lvn lvc,.slice fva fvn fvc,.slice none 0 0,.slice pva pvn pvc,.slice none 0 0,.int .i64 0] 214)).mono hB13)
       refine wpAny_ready (rs:=[9]) (by kernel_rfl) (by simp) (AllReady.cons rfl (fun KK hK => ?_) AllReady.nil)
       go_simp
       refine hK _ _ ?_
       clear hK KK
       refine pqA 10 6 ?_
       refine wpAny_done (by kernel_rfl) ?_ _
       refine NoPanic.normal ?_
       go_wp2
       go_meet
       case rel => exact ⟨_,_,_,_,_,rfl,bb,Rb.out.1,Rb.out.2⟩
    ·go_simp
     refine hK _ _ ?_
     clear hK KK
     have hb:=belowAlloc W10 (.cells #[.int .i64 (-1)] 3)
     have hI14:=(OwnI.lit W10.heap.size W10 (Nat.le_refl _) [-1] (by simp [maxLen]) #[.int .i64 (-1)] rfl 1 rfl).at
     obtain ⟨W14,hW14⟩ : ∃ W14 : World,W14 = W10.alloc (.cells #[.int .i64 (-1)] 3):=⟨_,rfl⟩
     rw [← hW14]
     rw [← hW14] at hb hI14
     clear hW14
     have R14:=R10.below hb
     have b14:=b10.trans (hb.mono hB10)
     have hB14:=Nat.le_trans hB10 hb.size
     clear hb R10
     refine wpAny_ready (rs:=[2,7]) (by kernel_rfl) (by simp) (AllReady.cons rfl (fun KK hK => ?_) (AllReady.cons rfl (fun KK hK => ?_) (AllReady.nil)))
     ·obtain ⟨lv,W15,mk,ho,hb⟩:=run_makeI (G.length : Int) G.length W14 rfl (by omega)
      obtain ⟨lva,lvn,lvc,rfl⟩:=ho.at.shape
      go_simp
      refine hK _ _ ?_
      clear hK KK mk
      have R15:=R14.add (i:=(1,0)) (r':=rowI (.slice lva lvn lvc) (List.replicate G.length 0)) hb (ho.mono hB14) (fun k hk => (ho.lt k hk).1)
      have b15:=b14.trans (hb.mono hB14)
      have hB15:=Nat.le_trans hB14 hb.size
      have hI15:=hI14.below hb
      clear hI14
      clear ho hb R14
      refine wpAny_ready (rs:=[7]) (by kernel_rfl) (by simp) (AllReady.cons rfl (fun KK hK => ?_) (AllReady.nil))
      ·go_simp
       refine (repeat_any _ (-1) G.length _ hI15 (by omega)).mono ?_
       rintro e W16 ⟨pv,rfl,hb,ho⟩
       obtain ⟨pva,pvn,pvc,rfl⟩:=ho.at.shape
       refine hK _ _ ?_
       clear hK KK
       have R16:=R15.add (i:=(4,0)) (r':=rowI (.slice pva pvn pvc) (List.replicate G.length (-1))) hb (ho.mono hB15) (fun k hk => (ho.lt k hk).1)
       have b16:=b15.trans (hb.mono hB15)
       have hB16:=Nat.le_trans hB15 hb.size
       have hI16:=hI15.below hb
       clear ho hb R15 hI15
       refine pqA 8 29 ?_
       have Rb:=search_box (na:=na) (gl:=G.length) (nc:=nc) (n:=G.length) (lv:=.slice lva lvn lvc) (fv:=.slice fva fvn fvc) (pv:=.slice pva pvn pvc) R16 hB16 (by simp [upd]) (by simp [upd]) (by simp [upd]) (by simp [upd,names0]) (by simp [upd,names0])
       replace Rb:=Lib.hid Rb
       replace R16:=Lib.hid R16
       have bb:=b16.trans ((belowAlloc W16 (.cells #[.slice na G.length nc,.slice lva lvn lvc,.slice fva fvn fvc,.slice none 0 0,.slice pva pvn pvc,.slice none 0 0,.int .i64 0] 214)).mono hB16)
       refine wpAny_ready (rs:=[9]) (by kernel_rfl) (by simp) (AllReady.cons rfl (fun KK hK => ?_) AllReady.nil)
       go_simp
       refine hK _ _ ?_
       clear hK KK
       refine pqA 10 6 ?_
       refine wpAny_done (by kernel_rfl) ?_ _
       refine NoPanic.normal ?_
       go_wp2
       go_meet
       case rel => exact ⟨_,_,_,_,_,rfl,bb,Rb.out.1,Rb.out.2⟩
     ·go_simp
      refine (repeat_any _ (-1) G.length _ hI14 (by omega)).mono ?_
      rintro e W17 ⟨pv,rfl,hb,ho⟩
      obtain ⟨pva,pvn,pvc,rfl⟩:=ho.at.shape
      refine hK _ _ ?_
      clear hK KK
      have R17:=R14.add (i:=(4,0)) (r':=rowI (.slice pva pvn pvc) (List.replicate G.length (-1))) hb (ho.mono hB14) (fun k hk => (ho.lt k hk).1)
      have b17:=b14.trans (hb.mono hB14)
      have hB17:=Nat.le_trans hB14 hb.size
      have hI17:=hI14.below hb
      clear ho hb R14 hI14
      refine wpAny_ready (rs:=[2]) (by kernel_rfl) (by simp) (AllReady.cons rfl (fun KK hK => ?_) (AllReady.nil))
      ·obtain ⟨lv,W18,mk,ho,hb⟩:=run_makeI (G.length : Int) G.length W17 rfl (by omega)
       obtain ⟨lva,lvn,lvc,rfl⟩:=ho.at.shape
       go_simp
       refine hK _ _ ?_
       clear hK KK mk
       have R18:=R17.add (i:=(1,0)) (r':=rowI (.slice lva lvn lvc) (List.replicate G.length 0)) hb (ho.mono hB17) (fun k hk => (ho.lt k hk).1)
       have b18:=b17.trans (hb.mono hB17)
       have hB18:=Nat.le_trans hB17 hb.size
       have hI18:=hI17.below hb
       clear hI17
       clear ho hb R17
       refine pqA 8 29 ?_
       have Rb:=search_box (na:=na) (gl:=G.length) (nc:=nc) (n:=G.length) (lv:=.slice lva lvn lvc) (fv:=.slice fva fvn fvc) (pv:=.slice pva pvn pvc) R18 hB18 (by simp [upd]) (by simp [upd]) (by simp [upd]) (by simp [upd,names0]) (by simp [upd,names0])
       replace Rb:=Lib.hid Rb
       replace R18:=Lib.hid R18
       have bb:=b18.trans ((belowAlloc W18 (.cells #[.slice na G.length nc,.slice lva lvn lvc,.slice fva fvn fvc,.slice none 0 0,.slice pva pvn pvc,.slice none 0 0,.int .i64 0] 214)).mono hB18)
       refine wpAny_ready (rs:=[9]) (by kernel_rfl) (by simp) (AllReady.cons rfl (fun KK hK => ?_) AllReady.nil)
       go_simp
       refine hK _ _ ?_
       clear hK KK
       refine pqA 10 6 ?_
       refine wpAny_done (by kernel_rfl) ?_ _
       refine NoPanic.normal ?_
       go_wp2
       go_meet
       case rel => exact ⟨_,_,_,_,_,rfl,bb,Rb.out.1,Rb.out.2⟩
   ·go_simp
    refine hK _ _ ?_
    clear hK KK
    have hb:=belowAlloc W0 (.cells #[.int .i64 (-1)] 3)
    have hI19:=(OwnI.lit W0.heap.size W0 (Nat.le_refl _) [-1] (by simp [maxLen]) #[.int .i64 (-1)] rfl 1 rfl).at
    obtain ⟨W19,hW19⟩ : ∃ W19 : World,W19 = W0.alloc (.cells #[.int .i64 (-1)] 3):=⟨_,rfl⟩
    rw [← hW19]
    rw [← hW19] at hb hI19
    clear hW19
    have R19:=R0.below hb
    have b19:=b0.trans (hb.mono hB0)
    have hB19:=Nat.le_trans hB0 hb.size
    clear hb R0
    refine wpAny_ready (rs:=[2,4,7]) (by kernel_rfl) (by simp) (AllReady.cons rfl (fun KK hK => ?_) (AllReady.cons rfl (fun KK hK => ?_) (AllReady.cons rfl (fun KK hK => ?_) (AllReady.nil))))
    ·obtain ⟨lv,W20,mk,ho,hb⟩:=run_makeI (G.length : Int) G.length W19 rfl (by omega)
     obtain ⟨lva,lvn,lvc,rfl⟩:=ho.at.shape
     go_simp
     refine hK _ _ ?_
     clear hK KK mk
     have R20:=R19.add (i:=(1,0)) (r':=rowI (.slice lva lvn lvc) (List.replicate G.length 0)) hb (ho.mono hB19) (fun k hk => (ho.lt k hk).1)
     have b20:=b19.trans (hb.mono hB19)
     have hB20:=Nat.le_trans hB19 hb.size
     have hI20:=hI19.below hb
     clear hI19
     clear ho hb R19
     refine wpAny_ready (rs:=[4,7]) (by kernel_rfl) (by simp) (AllReady.cons rfl (fun KK hK => ?_) (AllReady.cons rfl (fun KK hK => ?_) (AllReady.nil)))
     ·obtain ⟨fv,W21,mk,ho,hb⟩:=run_makeI (G.length : Int) G.length W20 rfl (by omega)
      obtain ⟨fva,fvn,fvc,rfl⟩:=ho.at.shape
      go_simp
      refine hK _ _ ?_
      clear hK KK mk
      have R21:=R20.add (i:=(2,0)) (r':=rowI (.slice fva fvn fvc) (List.replicate G.length 0)) hb (ho.mono hB20) (fun k hk => (ho.lt k hk).1)
      have b21:=b20.trans (hb.mono hB20)
      have hB21:=Nat.le_trans hB20 hb.size
      have hI21:=hI20.below hb
      clear hI20
      clear ho hb R20
      refine wpAny_ready (rs:=[7]) (by kernel_rfl) (by simp) (AllReady.cons rfl (fun KK hK => ?_) (AllReady.nil))
      ·go_simp
       refine (repeat_any _ (-1) G.length _ hI21 (by omega)).mono ?_
       rintro e W22 ⟨pv,rfl,hb,ho⟩
       obtain ⟨pva,pvn,pvc,rfl⟩:=ho.at.shape
       refine hK _ _ ?_
       clear hK KK
       have R22:=R21.add (i:=(4,0)) (r':=rowI (.slice pva pvn pvc) (List.replicate G.length (-1))) hb (ho.mono hB21) (fun k hk => (ho.lt k hk).1)
       have b22:=b21.trans (hb.mono hB21)
       have hB22:=Nat.le_trans hB21 hb.size
       have hI22:=hI21.below hb
       clear ho hb R21 hI21
       refine pqA 8 29 ?_
       have Rb:=search_box (na:=na) (gl:=G.length) (nc:=nc) (n:=G.length) (lv:=.slice lva lvn lvc) (fv:=.slice fva fvn fvc) (pv:=.slice pva pvn pvc) R22 hB22 (by simp [upd]) (by simp [upd]) (by simp [upd]) (by simp [upd,names0]) (by simp [upd,names0])
       replace Rb:=Lib.hid Rb
       replace R22:=Lib.hid R22
       have bb:=b22.trans ((belowAlloc W22 (.cells #[.slice na G.length nc,.slice lva lvn lvc,.slice fva fvn fvc,.slice none 0 0,.slice pva pvn pvc,.slice none 0 0,.int .i64 0] 214)).mono hB22)
       refine wpAny_ready (rs:=[9]) (by kernel_rfl) (by simp) (AllReady.cons rfl (fun KK hK => ?_) AllReady.nil)
       go_simp
       refine hK _ _ ?_
       clear hK KK
       refine pqA 10 6 ?_
       refine wpAny_done (by kernel_rfl) ?_ _
       refine NoPanic.normal ?_
       go_wp2
       go_meet
       case rel => exact ⟨_,_,_,_,_,rfl,bb,Rb.out.1,Rb.out.2⟩
     ·go_simp
      refine (repeat_any _ (-1) G.length _ hI20 (by omega)).mono ?_
      rintro e W23 ⟨pv,rfl,hb,ho⟩
      obtain ⟨pva,pvn,pvc,rfl⟩:=ho.at.shape
      refine hK _ _ ?_
      clear hK KK
      have R23:=R20.add (i:=(4,0)) (r':=rowI (.slice pva pvn pvc) (List.replicate G.length (-1))) hb (ho.mono hB20) (fun k hk => (ho.lt k hk).1)
      have b23:=b20.trans (hb.mono hB20)
      have hB23:=Nat.le_trans hB20 hb.size
      have hI23:=hI20.below hb
      clear ho hb R20 hI20
      refine wpAny_ready (rs:=[4]) (by kernel_rfl) (by simp) (AllReady.cons rfl (fun KK hK => ?_) (AllReady.nil))
      ·obtain ⟨fv,W24,mk,ho,hb⟩:=run_makeI (G.length : Int) G.length W23 rfl (by omega)
       obtain ⟨fva,fvn,fvc,rfl⟩:=ho.at.shape
       go_simp
       refine hK _ _ ?_
       clear hK KK mk
       have R24:=R23.add (i:=(2,0)) (r':=rowI (.slice fva fvn fvc) (List.replicate G.length 0)) hb (ho.mono hB23) (fun k hk => (ho.lt k hk).1)
       have b24:=b23.trans (hb.mono hB23)
       have hB24:=Nat.le_trans hB23 hb.size
       have hI24:=hI23.below hb
       clear hI23
       clear ho hb R23
       refine pqA 8 29 ?_
       have Rb:=search_box (na:=na) (gl:=G.length) (nc:=nc) (n:=G.length) (lv:=.slice lva lvn lvc) (fv:=.slice fva fvn fvc) (pv:=.slice pva pvn pvc) R24 hB24 (by simp [upd]) (by simp [upd]) (by simp [upd]) (by simp [upd,names0]) (by simp [upd,names0])
       replace Rb:=Lib.hid Rb
       replace R24:=Lib.hid R24
       have bb:=b24.trans ((belowAlloc W24 (.cells #[.slice na G.length nc,.slice lva lvn lvc,.slice fva fvn fvc,.slice none 0 0,.slice pva pvn pvc,.slice none 0 0,.int .i64 0] 214)).mono hB24)
       refine wpAny_ready (rs:=[9]) (by kernel_rfl) (by simp) (AllReady.cons rfl (fun KK hK => ?_) AllReady.nil)
       go_simp
       refine hK _ _ ?_
       clear hK KK
       refine pqA 10 6 ?_
       refine wpAny_done (by kernel_rfl) ?_ _
       refine NoPanic.normal ?_
       go_wp2
       go_meet
       case rel => exact ⟨_,_,_,_,_,rfl,bb,Rb.out.1,Rb.out.2⟩
    ·obtain ⟨fv,W25,mk,ho,hb⟩:=run_makeI (G.length : Int) G.length W19 rfl (by omega)
     obtain ⟨fva,fvn,fvc,rfl⟩:=ho.at.shape
     go_simp
     refine hK _ _ ?_
     clear hK KK mk
     have R25:=R19.add (i:=(2,0)) (r':=rowI (.slice fva fvn fvc) (List.replicate G.length 0)) hb (ho.mono hB19) (fun k hk => (ho.lt k hk).1)
     have b25:=b19.trans (hb.mono hB19)
     have hB25:=Nat.le_trans hB19 hb.size
     have hI25:=hI19.below hb
     clear hI19
     clear ho hb R19
     refine wpAny_ready (rs:=[2,7]) (by kernel_rfl) (by simp) (AllReady.cons rfl (fun KK hK => ?_) (AllReady.cons rfl (fun KK hK => ?_) (AllReady.nil)))
     ·obtain ⟨lv,W26,mk,ho,hb⟩:=run_makeI (G.length : Int) G.length W25 rfl (by omega)
      obtain ⟨lva,lvn,lvc,rfl⟩:=ho.at.shape
      go_simp
      refine hK _ _ ?_
      clear hK KK mk
      have R26:=R25.add (i:=(1,0)) (r':=rowI (.slice lva lvn lvc) (List.replicate G.length 0)) hb (ho.mono hB25) (fun k hk => (ho.lt k hk).1)
      have b26:=b25.trans (hb.mono hB25)
      have hB26:=Nat.le_trans hB25 hb.size
      have hI26:=hI25.below hb
      clear hI25
      clear ho hb R25
      refine wpAny_ready (rs:=[7]) (by kernel_rfl) (by simp) (AllReady.cons rfl (fun KK hK => ?_) (AllReady.nil))
      ·go_simp
       refine (repeat_any _ (-1) G.length _ hI26 (by omega)).mono ?_
       rintro e W27 ⟨pv,rfl,hb,ho⟩
       obtain ⟨pva,pvn,pvc,rfl⟩:=ho.at.shape
       refine hK _ _ ?_
       clear hK KK
       have R27:=R26.add (i:=(4,0)) (r':=rowI (.slice pva pvn pvc) (List.replicate G.length (-1))) hb (ho.mono hB26) (fun k hk => (ho.lt k hk).1)
       have b27:=b26.trans (hb.mono hB26)
       have hB27:=Nat.le_trans hB26 hb.size
       have hI27:=hI26.below hb
       clear ho hb R26 hI26
       refine pqA 8 29 ?_
       have Rb:=search_box (na:=na) (gl:=G.length) (nc:=nc) (n:=G.length) (lv:=.slice lva lvn lvc) (fv:=.slice fva fvn fvc) (pv:=.slice pva pvn pvc) R27 hB27 (by simp [upd]) (by simp [upd]) (by simp [upd]) (by simp [upd,names0]) (by simp [upd,names0])
       replace Rb:=Lib.hid Rb
       replace R27:=Lib.hid R27
       have bb:=b27.trans ((belowAlloc W27 (.cells #[.slice na G.length nc,.slice lva lvn lvc,.slice fva fvn fvc,.slice none 0 0,.slice pva pvn pvc,.slice none 0 0,.int .i64 0] 214)).mono hB27)
       refine wpAny_ready (rs:=[9]) (by kernel_rfl) (by simp) (AllReady.cons rfl (fun KK hK => ?_) AllReady.nil)
       go_simp
       refine hK _ _ ?_
       clear hK KK
       refine pqA 10 6 ?_
       refine wpAny_done (by kernel_rfl) ?_ _
       refine NoPanic.normal ?_
       go_wp2
       go_meet
       case rel => exact ⟨_,_,_,_,_,rfl,bb,Rb.out.1,Rb.out.2⟩
     ·go_simp
      refine (repeat_any _ (-1) G.length _ hI25 (by omega)).mono ?_
      rintro e W28 ⟨pv,rfl,hb,ho⟩
      obtain ⟨pva,pvn,pvc,rfl⟩:=ho.at.shape
      refine hK _ _ ?_
      clear hK KK
      have R28:=R25.add (i:=(4,0)) (r':=rowI (.slice pva pvn pvc) (List.replicate G.length (-1))) hb (ho.mono hB25) (fun k hk => (ho.lt k hk).1)
      have b28:=b25.trans (hb.mono hB25)
      have hB28:=Nat.le_trans hB25 hb.size
      have hI28:=hI25.below hb
      clear ho hb R25 hI25
      refine wpAny_ready (rs:=[2]) (by kernel_rfl) (by simp) (AllReady.cons rfl (fun KK hK => ?_) (AllReady.nil))
      ·obtain ⟨lv,W29,mk,ho,hb⟩:=run_makeI (G.length : Int) G.length W28 rfl (by omega)
       obtain ⟨lva,lvn,lvc,rfl⟩:=ho.at.shape
       go_simp
       refine hK _ _ ?_
       clear hK KK mk
       have R29:=R28.add (i:=(1,0)) (r':=rowI (.slice lva lvn lvc) (List.replicate G.length 0)) hb (ho.mono hB28) (fun k hk => (ho.lt k hk).1)
       have b29:=b28.trans (hb.mono hB28)
       have hB29:=Nat.le_trans hB28 hb.size
       have hI29:=hI28.below hb
       clear hI28
       clear ho hb R28
       refine pqA 8 29 ?_
       have Rb:=search_box (na:=na) (gl:=G.length) (nc:=nc) (n:=G.length) (lv:=.slice lva lvn lvc) (fv:=.slice fva fvn fvc) (pv:=.slice pva pvn pvc) R29 hB29 (by simp [upd]) (by simp [upd]) (by simp [upd]) (by simp [upd,names0]) (by simp [upd,names0])
       replace Rb:=Lib.hid Rb
       replace R29:=Lib.hid R29
       have bb:=b29.trans ((belowAlloc W29 (.cells #[.slice na G.length nc,.slice lva lvn lvc,.slice fva fvn fvc,.slice none 0 0,.slice pva pvn pvc,.slice none 0 0,.int .i64 0] 214)).mono hB29)
       refine wpAny_ready (rs:=[9]) (by kernel_rfl) (by simp) (AllReady.cons rfl (fun KK hK => ?_) AllReady.nil)
       go_simp
       refine hK _ _ ?_
       clear hK KK
       refine pqA 10 6 ?_
       refine wpAny_done (by kernel_rfl) ?_ _
       refine NoPanic.normal ?_
       go_wp2
       go_meet
       case rel => exact ⟨_,_,_,_,_,rfl,bb,Rb.out.1,Rb.out.2⟩
    ·go_simp
     refine (repeat_any _ (-1) G.length _ hI19 (by omega)).mono ?_
     rintro e W30 ⟨pv,rfl,hb,ho⟩
     obtain ⟨pva,pvn,pvc,rfl⟩:=ho.at.shape
     refine hK _ _ ?_
     clear hK KK
     have R30:=R19.add (i:=(4,0)) (r':=rowI (.slice pva pvn pvc) (List.replicate G.length (-1))) hb (ho.mono hB19) (fun k hk => (ho.lt k hk).1)
     have b30:=b19.trans (hb.mono hB19)
     have hB30:=Nat.le_trans hB19 hb.size
     have hI30:=hI19.below hb
     clear ho hb R19 hI19
     refine wpAny_ready (rs:=[2,4]) (by kernel_rfl) (by simp) (AllReady.cons rfl (fun KK hK => ?_) (AllReady.cons rfl (fun KK hK => ?_) (AllReady.nil)))
     ·obtain ⟨lv,W31,mk,ho,hb⟩:=run_makeI (G.length : Int) G.length W30 rfl (by omega)
      obtain ⟨lva,lvn,lvc,rfl⟩:=ho.at.shape
      go_simp
      refine hK _ _ ?_
      clear hK KK mk
      have R31:=R30.add (i:=(1,0)) (r':=rowI (.slice lva lvn lvc) (List.replicate G.length 0)) hb (ho.mono hB30) (fun k hk => (ho.lt k hk).1)
      have b31:=b30.trans (hb.mono hB30)
      have hB31:=Nat.le_trans hB30 hb.size
      have hI31:=hI30.below hb
      clear hI30
      clear ho hb R30
      refine wpAny_ready (rs:=[4]) (by kernel_rfl) (by simp) (AllReady.cons rfl (fun KK hK => ?_) (AllReady.nil))
      ·obtain ⟨fv,W32,mk,ho,hb⟩:=run_makeI (G.length : Int) G.length W31 rfl (by omega)
       obtain ⟨fva,fvn,fvc,rfl⟩:=ho.at.shape
       go_simp
       refine hK _ _ ?_
       clear hK KK mk
       have R32:=R31.add (i:=(2,0)) (r':=rowI (.slice fva fvn fvc) (List.replicate G.length 0)) hb (ho.mono hB31) (fun k hk => (ho.lt k hk).1)
       have b32:=b31.trans (hb.mono hB31)
       have hB32:=Nat.le_trans hB31 hb.size
       have hI32:=hI31.below hb
       clear hI31
       clear ho hb R31
       refine pqA 8 29 ?_
       have Rb:=search_box (na:=na) (gl:=G.length) (nc:=nc) (n:=G.length) (lv:=.slice lva lvn lvc) (fv:=.slice fva fvn fvc) (pv:=.slice pva pvn pvc) R32 hB32 (by simp [upd]) (by simp [upd]) (by simp [upd]) (by simp [upd,names0]) (by simp [upd,names0])
       replace Rb:=Lib.hid Rb
       replace R32:=Lib.hid R32
       have bb:=b32.trans ((belowAlloc W32 (.cells #[.slice na G.length nc,.slice lva lvn lvc,.slice fva fvn fvc,.slice none 0 0,.slice pva pvn pvc,.slice none 0 0,.int .i64 0] 214)).mono hB32)
       refine wpAny_ready (rs:=[9]) (by kernel_rfl) (by simp) (AllReady.cons rfl (fun KK hK => ?_) AllReady.nil)
       go_simp
       refine hK _ _ ?_
       clear hK KK
       refine pqA 10 6 ?_
       refine wpAny_done (by kernel_rfl) ?_ _
       refine NoPanic.normal ?_
       go_wp2
       go_meet
       case rel => exact ⟨_,_,_,_,_,rfl,bb,Rb.out.1,Rb.out.2⟩
     ·obtain ⟨fv,W33,mk,ho,hb⟩:=run_makeI (G.length : Int) G.length W30 rfl (by omega)
      obtain ⟨fva,fvn,fvc,rfl⟩:=ho.at.shape
      go_simp
      refine hK _ _ ?_
      clear hK KK mk
      have R33:=R30.add (i:=(2,0)) (r':=rowI (.slice fva fvn fvc) (List.replicate G.length 0)) hb (ho.mono hB30) (fun k hk => (ho.lt k hk).1)
      have b33:=b30.trans (hb.mono hB30)
      have hB33:=Nat.le_trans hB30 hb.size
      have hI33:=hI30.below hb
      clear hI30
      clear ho hb R30
      refine wpAny_ready (rs:=[2]) (by kernel_rfl) (by simp) (AllReady.cons rfl (fun KK hK => ?_) (AllReady.nil))
      ·obtain ⟨lv,W34,mk,ho,hb⟩:=run_makeI (G.length : Int) G.length W33 rfl (by omega)
       obtain ⟨lva,lvn,lvc,rfl⟩:=ho.at.shape
       go_simp
       refine hK _ _ ?_
       clear hK KK mk
       have R34:=R33.add (i:=(1,0)) (r':=rowI (.slice lva lvn lvc) (List.replicate G.length 0)) hb (ho.mono hB33) (fun k hk => (ho.lt k hk).1)
       have b34:=b33.trans (hb.mono hB33)
       have hB34:=Nat.le_trans hB33 hb.size
       have hI34:=hI33.below hb
       clear hI33
       clear ho hb R33
       refine pqA 8 29 ?_
       have Rb:=search_box (na:=na) (gl:=G.length) (nc:=nc) (n:=G.length) (lv:=.slice lva lvn lvc) (fv:=.slice fva fvn fvc) (pv:=.slice pva pvn pvc) R34 hB34 (by simp [upd]) (by simp [upd]) (by simp [upd]) (by simp [upd,names0]) (by simp [upd,names0])
       replace Rb:=Lib.hid Rb
       replace R34:=Lib.hid R34
       have bb:=b34.trans ((belowAlloc W34 (.cells #[.slice na G.length nc,.slice lva lvn lvc,.slice fva fvn fvc,.slice none 0 0,.slice pva pvn pvc,.slice none 0 0,.int .i64 0] 214)).mono hB34)
       refine wpAny_ready (rs:=[9]) (by kernel_rfl) (by simp) (AllReady.cons rfl (fun KK hK => ?_) AllReady.nil)
       go_simp
       refine hK _ _ ?_
       clear hK KK
       refine pqA 10 6 ?_
       refine wpAny_done (by kernel_rfl) ?_ _
       refine NoPanic.normal ?_
       go_wp2
       go_meet
       case rel => exact ⟨_,_,_,_,_,rfl,bb,Rb.out.1,Rb.out.2⟩
  case rest =>
   obtain ⟨d,f,lv,fv,pv,rfl,b2,hr2,h2⟩:=hcut
   have hG1:=Lib.hid (h.out.below b1)
   have hI0:=TInv.init G.length (adjOf G) hok.out.lt
   replace hr2:=Lib.hid hr2
   replace hI0:=Lib.hid hI0
   go_wp2_with fail
   go_loopw [33] (fun iv wr => ∃ (k : Nat) (f' : Names) (ov cv : Value) (S : TS),k ≤ G.length ∧ iv = .int .i64 k ∧ Rows w1.heap.size wr f' ∧ Below w1.heap.size w1 wr ∧ SN f' d (.slice na G.length nc) lv fv pv ov cv G.length S ∧ TInv G.length (adjOf G) S ∧ S.calls = [] ∧ ∀ x,x < k → S.found x ≠ 0) (fun iv _ => G.length - (intOf iv).toNat)
   case atStart => exact ⟨0,f,_,_,initS,by omega,rfl,hr2.out,b2,h2,hI0.out,rfl,fun x hx => by omega⟩
   case round =>
    obtain ⟨k,f',ov,cv,S,hk,rfl,hr3,b3,h3,hI3,hc3,hall⟩:=hrel
    obtain ⟨wo,rfl⟩ : ∃ wo : World,wo = wr:=⟨_,rfl⟩
    by_cases hlt : k < G.length
    ·have x2:=h3.cell hr3 2 (by decide)
     simp only [List.getElem?_cons_succ,List.getElem?_cons_zero] at x2
     have oF:=(hr3.ownI h3.fnd).at
     have iF:=fun w' => oF.idx k (by rw [tab_len]; exact hlt) w'
     have cF:=oF.cellD k (by rw [tab_len]; exact hlt)
     rw [tab_get _ _ _ hlt] at cF
     clear oF
     generalize valAt fv k = fa at *
     by_cases hfk : S.found k = 0
     ·have hF:=from_any w1 wo f' d na nc lv fv pv ov cv G S k hG1.out hok.out hn b3 hr3 h3 hI3 hc3 hlt hfk
      rw [hfk] at cF
      replace hF:=Lib.hid hF
      replace hr3:=Lib.hid hr3
      replace hI3:=Lib.hid hI3
      replace hall:=Lib.hid hall
      replace hfk:=Lib.hid hfk
      replace hc3:=Lib.hid hc3
      go_wp2_with fail
      clear x2 iF cF
      refine hF.out.mono ?_
      rintro e w4 ⟨rfl,b4,f4,ov4,cv4,T,hr4,h4,hI4,hc4,hk4⟩
      replace hr4:=Lib.hid hr4
      replace hI4:=Lib.hid hI4
      replace hk4:=Lib.hid hk4
      replace hc4:=Lib.hid hc4
      go_wp2
      go_roundw
      case measure => simp [intOf]; omega
      case rel =>
       refine ⟨k + 1,f4,ov4,cv4,T,by omega,by go_num,hr4.out,b3.trans b4,h4,hI4.out,hc4.out,fun x hx => hk4.out x ?_⟩
       by_cases e : x = k
       ·exact .inr e
       ·exact .inl (hall.out x (by omega))
     ·have hne : ((S.found k : Int) == 0) = false:=by rw [beq_eq_false_iff_ne]; omega
      replace hr3:=Lib.hid hr3
      replace hI3:=Lib.hid hI3
      replace hall:=Lib.hid hall
      replace hfk:=Lib.hid hfk
      replace hc3:=Lib.hid hc3
      go_wp2
      go_roundw
      case measure => simp [intOf]; omega
      case rel =>
       refine ⟨k + 1,f',ov,cv,S,by omega,by go_num,hr3.out,b3,h3,hI3.out,hc3.out,fun x hx => ?_⟩
       by_cases e : x = k
       ·subst e; exact hfk.out
       ·exact hall.out x (by omega)
    ·obtain rfl : k = G.length:=by omega
     have hD:=hI3.done hc3 hall
     have x4:=h3.cell hr3 4 (by decide)
     simp only [List.getElem?_cons_succ,List.getElem?_cons_zero] at x4
     have oP:=hr3.ownI h3.part
     have hpb : ∀ x,x < G.length → (Lit.int .i64 (S.part x)).wf = true:=fun x hx => by
      obtain ⟨q,hq,hq2,_⟩:=hI3.P1 x (hD.1 x hx)
      have:=hI3.seenLt q (hI3.partSeen q hq2)
      exact WalkArith.wf_i64 (by omega)
     have hparts : PartsOf G.length (adjOf G) ((List.range G.length).map (numO S.part)):=⟨S.part,hD.2,rfl⟩
     have hpv:=oP.at
     generalize S.part = p at *
     have hM:=NumMap.made wo
     have hbM:=belowAlloc wo (.map #[] 0)
     obtain ⟨W5,hW5⟩ : ∃ W5 : World,W5 = wo.alloc (.map #[] 0):=⟨_,rfl⟩
     have hs5 : W5.heap.size = wo.heap.size + 1:=by rw [hW5]; simp
     rw [← hW5] at hM hbM
     obtain ⟨out,w6,mk6,ho6,hb6⟩:=run_makeI (G.length : Int) G.length W5 rfl (by omega)
     rw [hs5] at ho6 hb6
     have hb56 : Below wo.heap.size wo w6:=hbM.trans (hb6.mono (by omega))
     have hM6:=hM.kept (World.grownBy.mk hb6.os hb6.tape hb6.output hb6.size (fun j hj _ => hb6.block j (by omega)) : W5.grownBy w6 none) (by simp)
     have lP:=hpv.len
     rw [tabI_len] at lP
     have x45:=(hbM.cell (World.block_lt_of_cell? _ _ x4)).trans x4
     have x46:=(hb56.cell (World.block_lt_of_cell? _ _ x4)).trans x4
     obtain ⟨outa,outn,outc,rfl⟩:=ho6.at.shape
     have hz : tabI G.length (fun v => if v < 0 then numO p v else 0) = List.replicate G.length 0:=by
      unfold tabI; apply List.ext_getElem <;> simp
     replace hparts:=Lib.hid hparts
     replace hpb:=Lib.hid hpb
     replace hpv:=Lib.hid hpv
     replace hD:=Lib.hid hD
     replace hI3:=Lib.hid hI3
     replace hr3:=Lib.hid hr3
     replace hall:=Lib.hid hall
     replace hM6:=Lib.hid hM6
     replace ho6:=Lib.hid ho6
     replace hz:=Lib.hid hz
     clear hM hbM oP x45
     have mkm : (Instr.makeMap 216 none).run Tryz.prog wo = .ok (.map (some wo.heap.size)) W5:=by rw [hW5]; rfl
     replace hW5:=Lib.hid hW5
     go_wp2_with fail
     clear mk6 mkm x46 lP
     go_loopw [56] (fun iv wr => ∃ k nn : Nat,k ≤ G.length ∧ nn ≤ k ∧ iv = .int .i64 k ∧ NumMap wr wo.heap.size nn (numM p k).1 (numM p k).2 ∧ OwnI (wo.heap.size + 1) wr (.slice outa outn outc) (tabI G.length (fun v => if v < k then numO p v else 0)) ∧ Below wo.heap.size wo wr) (fun iv _ => G.length - (intOf iv).toNat)
     case atStart => exact ⟨0,0,by omega,by omega,rfl,hM6.out,by rw [hz.out]; exact ho6.out,hb56⟩
     case round =>
      obtain ⟨k,nn,hk,hnn,rfl,hM,hO,hB⟩:=hrel
      obtain ⟨W,rfl⟩ : ∃ W : World,W = wr:=⟨_,rfl⟩
      by_cases hlt : k < G.length
      ·have hpk:=hpb.out k hlt
       have hPt:=hpv.out.below (hB.mono (by omega) : Below wo.heap.size wo W)
       have iP:=fun w' => hPt.idx k (by rw [tabI_len]; exact hlt) w'
       have cP:=hPt.cellD k (by rw [tabI_len]; exact hlt)
       rw [tabI_get _ _ _ hlt] at cP
       have hown:=numM_own p k
       have hsz2:=numM_size p k
       have hwn : (Lit.int .i64 (((numM p k).2 : Nat) : Int)).wf = true:=WalkArith.wf_i64 (by omega)
       have hnext : tabI G.length (updN (fun v => if v < k then numO p v else 0) k (numO p k)) = tabI G.length (fun v => if v < k + 1 then numO p v else 0):=by
        congr 1
        funext v
        by_cases e : v = k
        ·subst e; rw [updN_same,if_pos (by omega)]
        ·rw [updN_other _ _ _ e]
         by_cases e2 : v < k
         ·rw [if_pos e2,if_pos (by omega)]
         ·rw [if_neg e2,if_neg (by omega)]
       obtain ⟨pc,hpc⟩ : ∃ pc,p k = pc:=⟨_,rfl⟩
       obtain ⟨px,hpx⟩ : ∃ px,numO p k = px:=⟨_,rfl⟩
       rw [hpc] at cP hpk hown
       rw [hpx] at hown hnext
       generalize valAt pv k = pa at *
       have hfin : ∀ W' : World,OwnI (wo.heap.size + 1) W' (.slice outa outn outc) (tabI G.length (fun v => if v < k then numO p v else 0)) → Below wo.heap.size wo W' → ∀ nn',NumMap W' wo.heap.size nn' (numM p (k + 1)).1 (numM p (k + 1)).2 →
        NumMap (W'.setCell (valAt (.slice outa outn outc) k) (.int .i64 px)) wo.heap.size nn' (numM p (k + 1)).1 (numM p (k + 1)).2 ∧ OwnI (wo.heap.size + 1) (W'.setCell (valAt (.slice outa outn outc) k) (.int .i64 px)) (.slice outa outn outc) (tabI G.length (fun v => if v < k + 1 then numO p v else 0)) ∧ Below wo.heap.size wo (W'.setCell (valAt (.slice outa outn outc) k) (.int .i64 px)):=by
        intro W' hO' hB' nn' hM'
        have hs:=hO'.set k (by rw [tabI_len]; exact hlt) px
        rw [tabI_upd,hnext] at hs
        have hg:=hO'.toV.setGrown k (by rw [List.length_map,tabI_len]; exact hlt) (.int .i64 px)
        have hbk:=hO'.toV.blkB k (by rw [List.length_map,tabI_len]; exact hlt)
        refine ⟨hM'.kept hg (fun e => ?_),hs,hB'.setCell (by have:=hbk.2; omega) _⟩
        have:=(hO'.toV.lt wo.heap.size e.symm).1
        omega
       replace hfin:=Lib.hid hfin
       replace hnext:=Lib.hid hnext
       replace hparts:=Lib.hid hparts.out
       have iO : ∀ w',(Instr.indexAt 22 (.slice outa outn outc) (.int .i64 k)).run Tryz.prog w' = .ok (.pointer (some (valAt (.slice outa outn outc) k))) w':=fun w' => hO.at.idx k (by rw [tabI_len]; exact hlt) w'
       by_cases hs : ((numM p k).1 pc).isSome
       ·have hMk : numM p (k + 1) = numM p k:=by
         show (if _ then _ else _) = _
         rw [hpc,if_pos hs]
        rw [hMk] at hown
        obtain ⟨c,hl1⟩:=hM.lookOk pc hpk
        rw [hs] at hl1
        have hl2:=hM.look pc px hpk hown
        have cO:=hO.at.cellD k (by rw [tabI_len]; exact hlt)
        have fO:=hO.frz k (by rw [tabI_len]; exact hlt)
        have hF:=hfin.out W hO hB nn (by rw [hMk]; exact hM)
        replace hF:=Lib.hid hF
        replace hO:=Lib.hid hO
        replace hM:=Lib.hid hM
        replace hMk:=Lib.hid hMk
        replace hown:=Lib.hid hown
        generalize valAt (.slice outa outn outc) k = oa at *
        generalize (tabI G.length fun v => if v < k then numO p v else 0).getD k 0 = oc at cO
        go_wp2
        go_roundw
        case measure => simp [intOf]; omega
        case rel => exact ⟨k + 1,nn,by omega,by omega,by go_num,hF.out.1,hF.out.2.1,hF.out.2.2⟩
       ·have hsn : (numM p k).1 pc = none:=by simpa using hs
        have hMk : numM p (k + 1) = (updM (numM p k).1 pc ((numM p k).2 : Int),(numM p k).2 + 1):=by
         show (if _ then _ else _) = _
         rw [hpc,if_neg hs]
        obtain ⟨c,hl1⟩:=hM.lookOk pc hpk
        rw [hsn,Option.isSome_none] at hl1
        have lM:=hM.len 3
        obtain ⟨W',hst,hM',hg'⟩:=hM.store pc _ hpk hwn hsn (by omega)
        have hMn : NumMap W' wo.heap.size (nn + 1) (numM p (k + 1)).1 (numM p (k + 1)).2:=by rw [hMk]; exact hM'
        have hO':=ownI_map hO hM.blk.choose_spec.choose_spec hg'
        have hB' : Below wo.heap.size wo W':=hB.grown hg' hB.size (fun j hj => by cases hj; exact Nat.le_refl _)
        have hl2:=hMn.look pc px hpk hown
        have cO:=hO'.at.cellD k (by rw [tabI_len]; exact hlt)
        have fO:=hO'.frz k (by rw [tabI_len]; exact hlt)
        have hF:=hfin.out W' hO' hB' (nn + 1) hMn
        replace hF:=Lib.hid hF
        replace hO:=Lib.hid hO
        replace hO':=Lib.hid hO'
        replace hM:=Lib.hid hM
        replace hM':=Lib.hid hM'
        replace hMn:=Lib.hid hMn
        replace hMk:=Lib.hid hMk
        replace hown:=Lib.hid hown
        replace hsn:=Lib.hid hsn
        clear hs
        generalize valAt (.slice outa outn outc) k = oa at *
        generalize (tabI G.length fun v => if v < k then numO p v else 0).getD k 0 = oc at cO
        generalize (numM p k).2 = ms at *
        go_wp2
        go_roundw
        case measure => simp [intOf]; omega
        case rel => exact ⟨k + 1,nn + 1,by omega,by omega,by go_num,hF.out.1,hF.out.2.1,hF.out.2.2⟩
      ·obtain rfl : k = G.length:=by omega
       have hres : tabI G.length (fun v => if v < G.length then numO p v else 0) = (List.range G.length).map (numO p):=by
        unfold tabI
        exact List.map_congr_left fun v hv => if_pos (List.mem_range.1 hv)
       rw [hres] at hO
       replace hO:=Lib.hid hO
       replace hM:=Lib.hid hM
       replace hres:=Lib.hid hres
       go_wp2
       go_ret2
       refine ⟨_,_,rfl,b1.trans ((b3.mono b1.size).trans (hB.mono (Nat.le_trans b1.size b3.size))),⟨by rw [hck.out]; rfl,⟨fun _ => ⟨_,hparts.out,hO.out.mono (Nat.le_trans (Nat.le_trans b1.size b3.size) (Nat.le_succ _))⟩,fun q => absurd hck.out q⟩⟩⟩
end Go.Proofs.YtjiadfblphdchaaGreatDoor
namespace Go.Proofs.YtjiadfblphdchaaGreatDoor
open Go.RowKit
set_option maxRecDepth 100000
/-- The lists of a function. -/
def rowsOf (n : Nat) (F : Nat → List Int) : List (List Int):=(List.range n).map F
theorem rowsOf_len (n : Nat) (F : Nat → List Int) : (rowsOf n F).length = n:=by simp [rowsOf]
theorem rowsOf_get (n : Nat) (F : Nat → List Int) (u : Nat) (hu : u < n) : (rowsOf n F).getD u [] = F u:=by simp [rowsOf,List.getD,hu]
theorem vAt_set_same {l : List Value} {k : Nat} {g : Value} (h : k < l.length) : vAt (l.set k g) k = g:=by simp [vAt,List.getD,h]
theorem vAt_set_ne {l : List Value} {k t : Nat} {g : Value} (h : t ≠ k) : vAt (l.set k g) t = vAt l t:=by
 simp [vAt,List.getD,Ne.symm h]
/-- What the names name: the outer row, the lists. -/
structure WN (f : Names) (ov : Value) (vals : List Value) (n : Nat) (F : Nat → List Int) : Prop where
 outer : f (1,0) = some (rowV 22 ov vals)
 len : vals.length = n
 rows : ∀ u,u < n → f (2,u) = some (rowI (vAt vals u) (F u))
section
variable {B : Nat} {w : World} {f : Names} {ov : Value} {vals : List Value} {n : Nat} {F : Nat → List Int}
theorem WN.lists (h : WN f ov vals n F) (hr : Rows B w f) : ListsAt w ov (rowsOf n F) :=
 ⟨vals,(hr.ownV h.outer).at,by rw [h.len,rowsOf_len],fun i hi => by
   rw [rowsOf_len] at hi
   rw [rowsOf_get n F i hi]
   exact (hr.ownI (h.rows i hi)).at⟩
/-- out[u] = a list: the list's row is there; now the outer row's cell. -/
theorem WN.put (h : WN f ov vals n F) {w1 : World} {u : Nat} (hu : u < n) {v' : Value} {xs : List Int} (hr1 : Rows B w1 (upd f (2,u) (some (rowI v' xs)))) :
 w1.cell? (valAt ov u) = some (vAt vals u) ∧ w1.frozen? (valAt ov u) = false ∧ B ≤ (valAt ov u).block ∧
 ∃ f',Rows B (w1.setCell (valAt ov u) v') f' ∧ WN f' ov (vals.set u v') n (updN F u xs) ∧ ∀ i,i ≠ (1,0) → i ≠ (2,u) → f' i = f i:=by
 have ho : upd f (2,u) (some (rowI v' xs)) (1,0) = some (rowV 22 ov vals):=by rw [upd_ne _ _ (by simp)]; exact h.outer
 have hl : u < vals.length:=by rw [h.len]; exact hu
 have hO:=hr1.ownV ho
 refine ⟨hO.at.cellV u hl,hO.frz u hl,(hO.blkB u hl).2,_,hr1.setV ho u hl v',⟨upd_same _ _ _,by simpa using h.len,fun t ht => ?_⟩,fun i h1 h2 => by rw [upd_ne _ _ h1,upd_ne _ _ h2]⟩
 rw [upd_ne _ _ (by simp)]
 by_cases e : t = u
 ·subst e
  rw [upd_same,vAt_set_same hl,updN_same]
 ·rw [upd_ne _ _ (by simpa using e),vAt_set_ne e,updN_other _ _ _ e]
  exact h.rows t ht
/-- A list that a call has made. -/
theorem WN.new (_h : WN f ov vals n F) (hr : Rows B w f) {w1 : World} (u : Nat) {v' : Value} {xs : List Int} (hb : Below w.heap.size w w1) (hB : B ≤ w.heap.size) (ho : OwnI w.heap.size w1 v' xs) : Rows B w1 (upd f (2,u) (some (rowI v' xs))) :=
 hr.add hb (ho.mono hB) (fun k hk => (ho.lt k hk).1)
/-- append(out[u], x). -/
theorem WN.app (h : WN f ov vals n F) (hr : Rows B w f) {w1 : World} {u : Nat} (hu : u < n) {v' : Value} (x : Int) (ho : OwnI B w1 v' (F u ++ [x]))
 (hal : (roomOf v' = roomOf (vAt vals u) ∧ w.grownBy w1 (vAt vals u).ownBlock) ∨ (∃ k,v'.ownBlock = some k ∧ w.heap.size ≤ k ∧ w.grownBy w1 none)) : Rows B w1 (upd f (2,u) (some (rowI v' (F u ++ [x])))):=by
 have hO:=hr.ownI (h.rows u hu)
 refine hr.grown (r':=rowI v' (F u ++ [x])) (h.rows u hu) (grown_via (hal.imp (·.2) (fun ⟨_,_,_,q⟩ => q))) ho ?_
 rcases hal with ⟨q,_⟩ | ⟨k,h1,h2,_⟩
 ·obtain ⟨a1,n1,c1,e1⟩:=hO.at.shape
  obtain ⟨a2,n2,c2,e2⟩:=ho.at.shape
  exact .inl (ownBlock_of_room e1 e2 q)
 ·exact .inr ⟨k,h1,h2⟩
/-- out[u][i] = x. -/
theorem WN.elem (h : WN f ov vals n F) (hr : Rows B w f) (u : Nat) (hu : u < n) (i : Nat) (hi : i < (F u).length) (x : Int) :
 ∃ f',Rows B (w.setCell (valAt (vAt vals u) i) (.int .i64 x)) f' ∧ WN f' ov vals n (updN F u ((F u).set i x)):=by
 refine ⟨_,hr.setI (h.rows u hu) i hi x,⟨by rw [upd_ne _ _ (by simp)]; exact h.outer,h.len,fun t ht => ?_⟩⟩
 by_cases e : t = u
 ·subst e; rw [upd_same,updN_same]
 ·rw [upd_ne _ _ (by simpa using e),updN_other _ _ _ e]; exact h.rows t ht
end
/-- make([]T, n) as an equation. -/
theorem run_makeW {T E : TypeId} {z : Value} {b : Nat} (oc : OneCell T E z b) (C : Int) (n : Nat) (w : World) (hC : C = n) (hn : n ≤ 4398046511104) :
 ∃ v w',(Instr.makeSlice T (.int .i64 C) (.int .i64 C)).run Tryz.prog w = .ok v w' ∧ OwnV E w.heap.size w' v (List.replicate n z) ∧ Below w.heap.size w w':=by
 subst hC
 obtain ⟨i,hi,hz0,hz1,hz2⟩:=info_parts oc.hi
 have hb:=oc.hb
 obtain ⟨w',hrun,r1,r2⟩:=run_make_full (P:=Tryz.prog) w w.heap.size T E i z 1 oc.ht hi hz0 hz1 .i64 .i64 n (by
  rw [hz2]
  calc b * n ≤ 32 * 4398046511104:=Nat.mul_le_mul hb (by omega)
   _ ≤ _:=by decide) (by unfold maxLen; omega) (Nat.le_refl _)
 refine ⟨_,w',hrun,?_,(Below.refl _ _).grown r2 (Nat.le_refl _) (by intro k hk; cases hk)⟩
 rw [oc.hz,toList_madeCells_one] at r1
 simpa [OwnV] using r1
/-- Lists none of which is made yet. -/
def nils (n : Nat) : Names:=fun i => if i.1 = 2 ∧ i.2 < n then some (rowI (.slice none 0 0) []) else none
theorem rows_nils (B : Nat) (w : World) (n : Nat) : Rows B w (nils n):=by
 refine ⟨fun i r hi => ?_,fun i j r s hi _ _ => ?_⟩
 ·unfold nils at hi
  split at hi
  ·injection hi with hi; subst hi; exact OwnI.nil B w
  ·cases hi
 ·left
  unfold nils at hi
  split at hi
  ·injection hi with hi; subst hi; rfl
  ·cases hi
/-- make([][]int, n). -/
theorem WN.made {B : Nat} {w w1 : World} {ov : Value} (n : Nat) (hb : Below w.heap.size w w1) (hB : B ≤ w.heap.size) (ho : OwnV 22 w.heap.size w1 ov (List.replicate n (.slice none 0 0))) :
 ∃ f,Rows B w1 f ∧ WN f ov (List.replicate n (.slice none 0 0)) n (fun _ => []):=by
 refine ⟨_,(rows_nils B w n).add (i:=(1,0)) (r':=rowV 22 ov (List.replicate n (.slice none 0 0))) hb (ho.mono hB) (fun k hk => (ho.lt k hk).1),⟨upd_same _ _ _,by simp,fun u hu => ?_⟩⟩
 rw [upd_ne _ _ (by simp)]
 show nils n (2,u) = _
 unfold nils
 rw [if_pos ⟨rfl,hu⟩]
 simp [vAt,List.getD,hu]
end Go.Proofs.YtjiadfblphdchaaGreatDoor
namespace Go.Proofs.YtjiadfblphdchaaGreatDoor
open Go.RowKit
set_option maxRecDepth 100000
theorem oneBoolG : OneCell 131 4 (.bool false) 1:=⟨by kernel_rfl,by kernel_rfl,rfl,by decide,fun _ => by kernel_rfl⟩
/-- The first n marks of a function. -/
def tabB (n : Nat) (m : Nat → Bool) : List Value:=(List.range n).map fun v => Value.bool (m v)
theorem tabB_len (n : Nat) (m : Nat → Bool) : (tabB n m).length = n:=by simp [tabB]
theorem tabB_get (n : Nat) (m : Nat → Bool) (v : Nat) (hv : v < n) : vAt (tabB n m) v = .bool (m v):=by simp [tabB,vAt,List.getD,hv]
theorem tabB_upd (n : Nat) (m : Nat → Bool) (v : Nat) (b : Bool) : (tabB n m).set v (.bool b) = tabB n (updN m v b):=by
 apply List.ext_getElem
 ·simp [tabB]
 ·intro i h1 h2
  simp only [tabB,List.getElem_set,List.getElem_map,List.getElem_range,updN]
  by_cases e : v = i
  ·rw [if_pos e,if_pos e.symm]
  ·rw [if_neg e,if_neg (fun q => e q.symm)]
theorem tabB_one (n : Nat) (m : Nat → Bool) : ∀ v ∈ tabB n m,v.oneCell' = true:=by
 intro v hv
 obtain ⟨x,_,rfl⟩:=List.mem_map.1 hv
 rfl
theorem clone_bools (v : Value) (n : Nat) (m : Nat → Bool) (w : World) (h : ValsAt w v (tabB n m)) (hl : n ≤ 10000) :
 Calls Tryz.prog 153 #[v] w (Ret1 (fun x w' => OwnV 4 w.heap.size w' x (tabB n m)) w):=by
 obtain ⟨ao,cap,rfl,h1,h2,h3,h4⟩:=h
 cases ao with
 | none =>
  obtain rfl:=h3 rfl
  rw [tabB_len] at h1
  obtain rfl : n = 0:=by omega
  have hn:=fun w' => Lib.run_eql_slice_nil (P:=Tryz.prog) w' _ _ none 0 0 0 0 oneBoolG.ht
  rw [show (tabB 0 m).length = 0 from rfl]
  clear h4
  go_enter Tryz.func153,Tryz.ntmps153
  go_wp2
  go_ret
  exact ⟨_,rfl,Below.refl _ _,OwnV.nil _ _ _⟩
 | some p =>
  have hn:=fun w' => Lib.run_eql_slice_nil (P:=Tryz.prog) w' _ _ (some p) (tabB n m).length cap 0 0 oneBoolG.ht
  have b0 : Below w.heap.size w (w.alloc (.cells #[] 4)):=(Below.refl _ _).alloc (Nat.le_refl _) _
  have ho0 : OwnV 4 w.heap.size (w.alloc (.cells #[] 4)) (.slice (some ⟨w.heap.size,0,none⟩) 0 0) []:=World.ownsRow_made w #[] 0 (Nat.le_refl _) (by unfold maxLen; omega) rfl
  obtain ⟨i,hi,hz0,hz1,hz2⟩:=info_parts oneBoolG.hi
  have hcells : ∀ (j : Nat) (u : Value),(tabB n m)[j]? = some u → (w.alloc (.cells #[] 4)).cell? (p.add j) = some u:=by
   intro j u hj
   have hjl:=(List.getElem?_eq_some_iff.1 hj).1
   have:=h4 j hjl
   simp only [valAt] at this
   rw [b0.cell (World.block_lt_of_cell? _ _ this),this,← hj,List.getElem?_eq_getElem hjl]
  have hone:=tabB_one n m
  have htl:=tabB_len n m
  generalize tabB n m = bs at *
  have hbl : bs.length ≤ 10000:=by omega
  replace htl:=Lib.hid htl
  replace hcells:=Lib.hid hcells
  replace hone:=Lib.hid hone
  replace ho0:=Lib.hid ho0
  clear h4
  go_enter Tryz.func153,Tryz.ntmps153
  go_wp2_with (at_builtin; refine wpList_append_own_at _ rfl _ _ 131 rfl w.heap.size 4 i (.bool false) 1 1 oneBoolG.ht hi hz0 hz1 hz2 rfl (by decide) _ 0 [] rfl ho0.out p bs.length cap bs rfl (by simp) hcells.out hone.out (by unfold maxLen; omega) (by omega) (by simp) ?_)
  intro v' w' ho' hgr _ hat
  have hb2 : Below w.heap.size w w':=b0.trans ((Below.refl _ _).grown hgr (by simp) (fun k hk => (ho0.out.lt k hk).1))
  have ho2 : OwnV 4 w.heap.size w' v' bs:=by simpa [OwnV] using ho'
  replace ho2:=Lib.hid ho2
  clear ho' hat hgr
  go_wp2
  go_ret
  exact ⟨_,rfl,hb2,ho2.out⟩
/-- How many aren't marked. -/
def unm (n : Nat) (m : Nat → Bool) : Nat:=wsum (fun _ => 1) (fun x => if m x then 1 else 0) n
theorem unm_upd (n : Nat) (m : Nat → Bool) (t : Nat) (ht : t < n) (hm : m t = false) : unm n (updN m t true) + 1 = unm n m:=by
 have h:=wsum_upd (fun _ => 1) (fun x => if m x then 1 else 0) t 1 (by decide) (by simp [hm]) n
 rw [if_pos ht] at h
 have e : (fun x => if updN m t true x then 1 else 0) = updN (fun x => if m x then 1 else 0) t 1:=by
  funext x
  by_cases q : x = t
  ·subst q; simp [updN_same]
  ·rw [updN_other _ _ _ q,updN_other _ _ _ q]
 unfold unm
 rw [e]; exact h
theorem wsum_le (f : Nat → Nat) : ∀ n,wsum (fun _ => 1) f n ≤ n
 | 0 => Nat.le_refl _
 | n + 1 => by
  have:=wsum_le f n
  simp only [wsum]; split <;> omega
theorem unm_le (n : Nat) (m : Nat → Bool) : unm n m ≤ n:=wsum_le _ n
/-- The marks while the search runs; done: a vertex whose arrows have all been followed. -/
structure RInv (n : Nat) (adj : Nat → List Nat) (ms m : Nat → Bool) (qs : List Nat) (busy : Nat → Prop) : Prop where
 start : ∀ x,x < n → ms x = true → m x = true
 sound : ∀ x,x < n → m x = true → ∃ u,u < n ∧ ms u = true ∧ Goes adj u x
 queue : ∀ x ∈ qs,x < n ∧ m x = true
 closed : ∀ x,x < n → m x = true → x ∉ qs → ¬ busy x → ∀ t ∈ adj x,m t = true
theorem RInv.pop {n : Nat} {adj : Nat → List Nat} {ms m : Nat → Bool} {v : Nat} {qs : List Nat} (h : RInv n adj ms m (v :: qs) (fun _ => False)) : RInv n adj ms m qs (fun x => x = v) :=
 ⟨h.start,h.sound,fun x hx => h.queue x (List.mem_cons_of_mem _ hx),fun x hx hm hq hb => h.closed x hx hm (fun hc => (List.mem_cons.1 hc).elim hb hq) id⟩
theorem RInv.finish {n : Nat} {adj : Nat → List Nat} {ms m : Nat → Bool} {v : Nat} {qs : List Nat} (h : RInv n adj ms m qs (fun x => x = v)) (hv : ∀ t ∈ adj v,m t = true) : RInv n adj ms m qs (fun _ => False) :=
 ⟨h.start,h.sound,h.queue,fun x hx hm hq _ => by
   by_cases e : x = v
   ·subst e; exact hv
   ·exact h.closed x hx hm hq e⟩
theorem RInv.mark {n : Nat} {adj : Nat → List Nat} {ms m : Nat → Bool} {v t : Nat} {qs : List Nat} (h : RInv n adj ms m qs (fun x => x = v)) (hv : v < n) (hmv : m v = true) (ht : t ∈ adj v) (htn : t < n) : RInv n adj ms (updN m t true) (t :: qs) (fun x => x = v):=by
 have up : ∀ x,m x = true → updN m t true x = true:=fun x hx => by
  by_cases e : x = t
  ·subst e; exact updN_same _ _ _
  ·rw [updN_other _ _ _ e]; exact hx
 refine ⟨fun x hx hs => up x (h.start x hx hs),fun x hx hm => ?_,fun x hx => ?_,fun x hx hm hq hb t' ht' => ?_⟩
 ·by_cases e : x = t
  ·subst e
   obtain ⟨u,h1,h2,h3⟩:=h.sound v hv hmv
   exact ⟨u,h1,h2,h3.step ht⟩
  ·rw [updN_other _ _ _ e] at hm; exact h.sound x hx hm
 ·rcases List.mem_cons.1 hx with e | e
  ·subst e; exact ⟨htn,updN_same _ _ _⟩
  ·exact ⟨(h.queue x e).1,up x (h.queue x e).2⟩
 ·have e : x ≠ t:=fun e => hq (by rw [e]; exact List.mem_cons_self)
  rw [updN_other _ _ _ e] at hm
  exact up t' (h.closed x hx hm (fun hc => hq (List.mem_cons_of_mem _ hc)) hb t' ht')
theorem RInv.all {n : Nat} {adj : Nat → List Nat} {ms m : Nat → Bool} (h : RInv n adj ms m [] (fun _ => False)) (ha : ∀ v,v < n → ∀ t ∈ adj v,t < n) : ∀ x,x < n → (m x = true ↔ ∃ u,u < n ∧ ms u = true ∧ Goes adj u x):=by
 intro x hx
 refine ⟨h.sound x hx,fun ⟨u,hu,hs,hg⟩ => ?_⟩
 exact (Goes.closed (P:=fun y => y < n ∧ m y = true) (fun y hy t ht => ⟨ha y hy.1 t ht,h.closed y hy.1 hy.2 (by simp) id t ht⟩) hg ⟨hu,h.start u hu hs⟩).2
/-- The search's memory. -/
structure RN (f : Names) (ov qv : Value) (n : Nat) (m : Nat → Bool) (qs : List Nat) : Prop where
 outs : f (1,0) = some (rowV 4 ov (tabB n m))
 queue : f (2,0) = some (rowI qv (upI qs))
section
variable {B : Nat} {w : World} {f : Names} {ov qv : Value} {n : Nat} {m : Nat → Bool} {qs : List Nat}
theorem RN.mark (h : RN f ov qv n m qs) (hr : Rows B w f) (t : Nat) (ht : t < n) : ∃ f',Rows B (w.setCell (valAt ov t) (.bool true)) f' ∧ RN f' ov qv n (updN m t true) qs:=by
 have hs:=hr.setV h.outs t (by rw [tabB_len]; exact ht) (.bool true)
 rw [tabB_upd] at hs
 exact ⟨_,hs,⟨upd_same _ _ _,by rw [upd_ne _ _ (by simp)]; exact h.queue⟩⟩
theorem RN.push (h : RN f ov qv n m qs) (hr : Rows B w f) {w1 : World} {qv' : Value} (t : Nat) (ho : OwnI B w1 qv' (upI qs ++ [(t : Int)]))
 (hal : (roomOf qv' = roomOf qv ∧ w.grownBy w1 qv.ownBlock) ∨ (∃ k,qv'.ownBlock = some k ∧ w.heap.size ≤ k ∧ w.grownBy w1 none)) : ∃ f',Rows B w1 f' ∧ RN f' ov qv' n m (t :: qs):=by
 have hO:=hr.ownI h.queue
 have hg : w.grownBy w1 qv.ownBlock:=grown_via (hal.imp (·.2) (fun ⟨_,_,_,q⟩ => q))
 have hob : qv'.ownBlock = qv.ownBlock ∨ ∃ k,qv'.ownBlock = some k ∧ w.heap.size ≤ k:=by
  rcases hal with ⟨q,_⟩ | ⟨k,h1,h2,_⟩
  ·obtain ⟨a1,n1,c1,e1⟩:=hO.at.shape
   obtain ⟨a2,n2,c2,e2⟩:=ho.at.shape
   exact .inl (ownBlock_of_room e1 e2 q)
  ·exact .inr ⟨k,h1,h2⟩
 exact ⟨_,hr.grown (r':=rowI qv' (upI qs ++ [(t : Int)])) h.queue hg ho hob,⟨by rw [upd_ne _ _ (by simp)]; exact h.outs,by rw [upd_same,upI_cons]⟩⟩
theorem RN.pop {v g c : Nat} {r : List Nat} (h : RN f ov (.slice (some ⟨g,0,none⟩) (r.length + 1) c) n m (v :: r)) (hr : Rows B w f) : ∃ f',Rows B w f' ∧ RN f' ov (.slice (some ⟨g,0,none⟩) r.length c) n m r:=by
 have ho : f (2,0) = some ⟨3,1,.slice (some ⟨g,0,none⟩) (r.length + 1) c,r.length + 1,(upI (v :: r)).map (Value.int .i64)⟩:=by
  rw [h.queue]; simp [rowI,upI_len]
 have h1:=hr.shrink ho
 have hx : ((upI (v :: r)).map (Value.int .i64)).take (r.length * 1) = (upI r).map (Value.int .i64):=by
  rw [upI_cons,List.map_append,Nat.mul_one]; exact List.take_left' (by simp [upI_len])
 rw [hx] at h1
 exact ⟨_,h1,⟨by rw [upd_ne _ _ (by simp)]; exact h.outs,by rw [upd_same]; simp [upI_len]⟩⟩
theorem RN.shape {v : Nat} {r : List Nat} (h : RN f ov qv n m (v :: r)) (hr : Rows B w f) : ∃ g c,qv = .slice (some ⟨g,0,none⟩) (r.length + 1) c ∧ r.length + 1 ≤ c:=by
 obtain ⟨g,c,e,e2⟩:=row_shape (hr.1 _ _ h.queue) (by show 0 < (upI (v :: r)).length; rw [upI_len]; simp)
 have e : qv = .slice (some ⟨g,0,none⟩) (upI (v :: r)).length c:=e
 have e2 : (upI (v :: r)).length ≤ c:=e2
 rw [upI_len,List.length_cons] at e e2
 exact ⟨g,c,e,e2⟩
end
theorem upI_topR (t : Nat) (o : List Nat) : (upI (t :: o)).getD o.length 0 = (t : Int):=by
 rw [upI_cons,List.getD_eq_getElem?_getD,List.getElem?_append_right (by rw [upI_len]; exact Nat.le_refl _),upI_len,Nat.sub_self]; rfl
set_option maxHeartbeats 4000000 in
theorem reach_any (na : Option Addr) (nc : Nat) (G : List (List Int)) (mv : Value) (ms : Nat → Bool) (w : World) (h : ListsAt w (.slice na G.length nc) G) (hok : GraphOk G) (hn : G.length ≤ 8200) (hm : ValsAt w mv (tabB G.length ms)) :
 Calls Tryz.prog 117 #[.slice na G.length nc,mv] w (Ret1 (fun x w' => ∃ out : Nat → Bool,OwnV 4 w.heap.size w' x (tabB G.length out) ∧ ∀ x,x < G.length → (out x = true ↔ ∃ u,u < G.length ∧ ms u = true ∧ Goes (adjOf G) u x)) w):=by
 have hC:=clone_bools mv G.length ms w hm (by omega)
 replace h:=Lib.hid h
 replace hok:=Lib.hid hok
 replace hm:=Lib.hid hm
 go_enter Tryz.func117,Tryz.ntmps117
 go_wp2_with fail
 refine hC.mono ?_
 rintro e w1 ⟨ov,rfl,b1,ho⟩
 clear hC
 have R1:=((rows_nils w.heap.size w 0).add (i:=(1,0)) (r':=rowV 4 ov (tabB G.length ms)) b1 ho (fun k hk => (ho.lt k hk).1)).fresh (i:=(2,0)) (r':=rowI (.slice none 0 0) []) (World.grownBy.refl _ _) (OwnI.nil _ _) (fun k hk => (by cases hk))
 have h1 : RN (upd (upd (nils 0) (1,0) (some (rowV 4 ov (tabB G.length ms)))) (2,0) (some (rowI (.slice none 0 0) []))) ov (.slice none 0 0) G.length ms []:=⟨by rw [upd_ne _ _ (by simp),upd_same],by rw [upd_same]; rfl⟩
 generalize upd (upd (nils 0) (1,0) (some (rowV 4 ov (tabB G.length ms)))) (2,0) (some (rowI (.slice none 0 0) [])) = f1 at *
 have lO:=fun w' => ho.at.len oneBoolG 3 w'
 rw [tabB_len] at lO
 replace R1:=Lib.hid R1
 replace ho:=Lib.hid ho
 go_wp2_with fail
 clear lO
 go_loopw [6,16] (fun qv kv wr => ∃ (k : Nat) (qs : List Nat) (f : Names) (qw : Value),qw = qv ∧ kv = .int .i64 k ∧ k ≤ G.length ∧ qs.length ≤ k ∧ Rows w.heap.size wr f ∧ Below w.heap.size w wr ∧ RN f ov qw G.length ms qs ∧ ∀ x,x ∈ qs ↔ (x < k ∧ ms x = true)) (fun _ kv _ => G.length - (intOf kv).toNat)
 case atStart => exact ⟨0,[],f1,_,rfl,rfl,by omega,by simp,R1.out,b1,h1,fun x => ⟨fun h => (by cases h),fun h => by omega⟩⟩
 case round =>
  clear h1 R1 ho
  obtain ⟨k,qs,f2,qv,rfl,rfl,hk,hql,hr2,b2,h2,hqs⟩:=hrel
  obtain ⟨wo,rfl⟩ : ∃ wo : World,wo = wr:=⟨_,rfl⟩
  by_cases hlt : k < G.length
  ·have hOV:=(hr2.ownV h2.outs).at
   have iK:=fun w' => hOV.idx oneBoolG k (by rw [tabB_len]; exact hlt) w'
   have cK:=hOV.cellV k (by rw [tabB_len]; exact hlt)
   rw [tabB_get _ _ _ hlt] at cK
   generalize valAt ov k = ka at *
   obtain ⟨bk,hbk⟩ : ∃ bk,ms k = bk:=⟨_,rfl⟩
   rw [hbk] at cK
   replace hOV:=Lib.hid hOV
   cases bk with
   | true =>
    have hOQ:=hr2.ownI h2.queue
    have hB2 : w.heap.size ≤ wo.heap.size:=b2.size
    have hqs2 : ∀ x,x ∈ k :: qs ↔ (x < k + 1 ∧ ms x = true):=fun x => by
     rw [List.mem_cons,hqs x]
     constructor
     ·rintro (rfl | ⟨a,b⟩)
      ·exact ⟨by omega,hbk⟩
      ·exact ⟨by omega,b⟩
     ·rintro ⟨a,b⟩
      by_cases e : x = k
      ·exact .inl e
      ·exact .inr ⟨by omega,b⟩
    replace hqs2:=Lib.hid hqs2
    replace hqs:=Lib.hid hqs
    replace hbk:=Lib.hid hbk
    replace hr2:=Lib.hid hr2
    go_wp2_with (at_builtin; refine wpl_app1 rfl _ _ rfl w.heap.size qv (upI qs) k hOQ rfl rfl (by rw [upI_len]; omega) hB2 ?_)
    intro qv' w7 ho7 b7 hal7
    obtain ⟨f7,hr7,h7⟩:=h2.push hr2.out k ho7 hal7
    replace hr7:=Lib.hid hr7
    replace ho7:=Lib.hid ho7
    clear hal7
    go_wp2
    go_roundw
    case measure => simp [intOf]; omega
    case rel => exact ⟨k + 1,k :: qs,f7,qv',rfl,by go_num,by omega,by simp only [List.length_cons]; omega,hr7.out,b2.trans b7,h7,hqs2.out⟩
   | false =>
    have hqs2 : ∀ x,x ∈ qs ↔ (x < k + 1 ∧ ms x = true):=fun x => by
     rw [hqs x]
     constructor
     ·rintro ⟨a,b⟩; exact ⟨by omega,b⟩
     ·rintro ⟨a,b⟩
      by_cases e : x = k
      ·subst e; rw [hbk] at b; cases b
      ·exact ⟨by omega,b⟩
    replace hqs2:=Lib.hid hqs2
    replace hqs:=Lib.hid hqs
    replace hbk:=Lib.hid hbk
    replace hr2:=Lib.hid hr2
    go_wp2
    go_roundw
    case measure => simp [intOf]; omega
    case rel => exact ⟨k + 1,qs,f2,qv,rfl,by go_num,by omega,by omega,hr2.out,b2,h2,hqs2.out⟩
  ·obtain rfl : k = G.length:=by omega
   have hinv : RInv G.length (adjOf G) ms ms qs (fun _ => False):=⟨fun _ _ q => q,fun x hx q => ⟨x,hx,q,.refl x⟩,fun x hx => ⟨((hqs x).1 hx).1,((hqs x).1 hx).2⟩,fun x hx hmx hq _ => absurd ((hqs x).2 ⟨hx,hmx⟩) hq⟩
   replace hinv:=Lib.hid hinv
   replace hqs:=Lib.hid hqs
   replace hr2:=Lib.hid hr2
   go_wp2_with fail
   go_loopg [6] (2 * unm G.length ms + qs.length) (fun k qv wr => ∃ (m : Nat → Bool) (qs : List Nat) (f : Names) (qw : Value),qw = qv ∧ k = 2 * unm G.length m + qs.length ∧ k ≤ 3 * G.length ∧ Rows w.heap.size wr f ∧ Below w.heap.size w wr ∧ RN f ov qw G.length m qs ∧ RInv G.length (adjOf G) ms m qs (fun _ => False))
   case atStart => exact ⟨ms,qs,f2,qv,rfl,rfl,by have:=unm_le G.length ms; omega,hr2.out,b2,h2,hinv.out⟩
   case round =>
    clear hinv hqs hr2 h2 b2 hql
    obtain ⟨m,qs,f3,qv,rfl,rfl,hk3,hr3,b3,h3,hI⟩:=hrel
    obtain ⟨wo,rfl⟩ : ∃ wo : World,wo = wr:=⟨_,rfl⟩
    cases qs with
    | nil =>
     have hOQ:=hr3.ownI h3.queue
     have lQ:=hOQ.at.len
     rw [upI_len,List.length_nil] at lQ
     have hall:=hI.all hok.out.lt
     have hres:=hr3.ownV h3.outs
     replace hall:=Lib.hid hall
     replace hres:=Lib.hid hres
     replace hI:=Lib.hid hI
     replace hr3:=Lib.hid hr3
     go_wp2
     go_ret
     exact ⟨_,rfl,b3,m,hres.out,hall.out⟩
    | cons v r =>
     obtain ⟨g,c,rfl,hcap⟩:=h3.shape hr3
     have hun:=unm_le G.length m
     obtain ⟨hvn,hmv⟩:=hI.queue v List.mem_cons_self
     have hOQ:=(hr3.ownI h3.queue).at
     have iV:=fun w' => hOQ.idx r.length (by rw [upI_len]; simp) w'
     have cV:=hOQ.cellD r.length (by rw [upI_len]; simp)
     rw [upI_topR] at cV
     obtain ⟨f4,hr4,h4⟩:=h3.pop hr3
     have hpop:=hI.pop
     obtain ⟨xv,iR,cR0,hM0⟩:=h.out.row v hvn
     have cR:=(b3.cell (World.block_lt_of_cell? _ _ cR0)).trans cR0
     have hM:=hM0.below b3
     have hgp:=hok.out v hvn
     have hadj : adjOf G v = (G.getD v []).map Int.toNat:=rfl
     generalize G.getD v [] = gx at *
     have lM:=hM.len
     have hglen:=hM.len_le
     generalize valAt (.slice na G.length nc) v = ra at *
     generalize valAt (.slice (some ⟨g,0,none⟩) (r.length + 1) c) r.length = qa at *
     simp only [List.length_cons] at hk3
     have hwr : IntKind.i64.wrap (r.length : Int) = r.length:=wrapK (by omega) (by omega)
     have hsl : (0 ≤ (r.length : Int) ∧ (r.length : Int) ≤ (c : Int)):=⟨by omega,by omega⟩
     replace hOQ:=Lib.hid hOQ
     replace hM:=Lib.hid hM
     replace hM0:=Lib.hid hM0
     replace hgp:=Lib.hid hgp
     replace hadj:=Lib.hid hadj
     replace hr3:=Lib.hid hr3
     replace hr4:=Lib.hid hr4
     replace hI:=Lib.hid hI
     replace hpop:=Lib.hid hpop
     replace hmv:=Lib.hid hmv
     go_wp2_with fail
     clear iV cV iR cR lM
     go_loopw [6,46] (fun qv jv wr => ∃ (j : Nat) (m' : Nat → Bool) (qs : List Nat) (f : Names) (qw : Value),qw = qv ∧ jv = .int .i64 j ∧ j ≤ gx.length ∧ 2 * unm G.length m' + qs.length ≤ 2 * unm G.length m + r.length ∧ Rows w.heap.size wr f ∧ Below w.heap.size w wr ∧ RN f ov qw G.length m' qs ∧ RInv G.length (adjOf G) ms m' qs (fun x => x = v) ∧ m' v = true ∧ ∀ i,i < j → m' (gx.getD i 0).toNat = true) (fun _ jv _ => gx.length - (intOf jv).toNat)
     case atStart => exact ⟨0,m,r,f4,_,rfl,rfl,by omega,Nat.le_refl _,hr4.out,b3,h4,hpop.out,hmv.out,fun i hi => by omega⟩
     case round =>
      clear hOQ hM hr3 hr4 h4 h3 b3 hpop hI hmv hwr hsl hcap
      obtain ⟨j,m',qs,f5,qv,rfl,rfl,hj,hle,hr5,b5,h5,hI,hmv,hdone⟩:=hrel
      obtain ⟨wo,rfl⟩ : ∃ wo : World,wo = wr:=⟨_,rfl⟩
      by_cases hjl : j < gx.length
      ·have hMj:=hM0.out.below b5
       have hgj:=hgp.out gx[j] (List.getElem_mem hjl)
       obtain ⟨t,hu⟩ : ∃ t : Nat,gx[j] = t:=Int.eq_ofNat_of_zero_le hgj.1
       have htn : t < G.length:=by rw [hu] at hgj; omega
       have hgd : gx.getD j 0 = (t : Int):=by rw [List.getD_eq_getElem?_getD,List.getElem?_eq_getElem hjl,hu]; rfl
       have hta : t ∈ adjOf G v:=by
        rw [hadj.out]
        exact List.mem_map.2 ⟨gx[j],List.getElem_mem hjl,by rw [hu]; rfl⟩
       have iJ:=fun w' => hMj.idx j hjl w'
       have cJ:=hMj.cellD j hjl
       rw [hgd] at cJ
       have hOV:=(hr5.ownV h5.outs)
       have iT:=fun w' => hOV.at.idx oneBoolG t (by rw [tabB_len]; exact htn) w'
       have cT:=hOV.at.cellV t (by rw [tabB_len]; exact htn)
       rw [tabB_get _ _ _ htn] at cT
       have fT:=hOV.frz t (by rw [tabB_len]; exact htn)
       have kT:=(hOV.blkB t (by rw [tabB_len]; exact htn)).2
       obtain ⟨f6,hr6,h6⟩:=h5.mark hr5 t htn
       have b6 : Below w.heap.size w (wo.setCell (valAt ov t) (.bool true)):=b5.setCell kT _
       generalize valAt xv j = ja at *
       generalize valAt ov t = ta at *
       obtain ⟨bt,hbt⟩ : ∃ bt,m' t = bt:=⟨_,rfl⟩
       rw [hbt] at cT
       cases bt with
       | false =>
        have hunm:=unm_upd G.length m' t htn hbt
        have hmark:=hI.mark hvn hmv hta htn
        have hmv2 : updN m' t true v = true:=by
         by_cases e : v = t
         ·subst e; exact updN_same _ _ _
         ·rw [updN_other _ _ _ e]; exact hmv
        have hdone2 : ∀ i,i < j + 1 → updN m' t true (gx.getD i 0).toNat = true:=fun i hi => by
         by_cases e : (gx.getD i 0).toNat = t
         ·rw [e]; exact updN_same _ _ _
         ·rw [updN_other _ _ _ e]
          by_cases q : i = j
          ·subst q; rw [hgd] at e; exact absurd rfl e
          ·exact hdone i (by omega)
        replace hmark:=Lib.hid hmark
        replace hmv2:=Lib.hid hmv2
        replace hdone2:=Lib.hid hdone2
        replace hdone:=Lib.hid hdone
        replace hmv:=Lib.hid hmv
        replace hI:=Lib.hid hI
        replace hbt:=Lib.hid hbt
        replace hr5:=Lib.hid hr5
        replace hr6:=Lib.hid hr6
        replace hOV:=Lib.hid hOV
        replace hMj:=Lib.hid hMj
        replace hgd:=Lib.hid hgd
        replace hgj:=Lib.hid hgj
        replace hu:=Lib.hid hu
        replace hta:=Lib.hid hta
        go_upto_region 17 with fail
        obtain ⟨W6,hW6⟩ : ∃ W6 : World,W6 = wo.setCell ta (.bool true):=⟨_,rfl⟩
        rw [← hW6]
        rw [← hW6] at hr6 b6
        clear hW6 iJ cJ iT cT fT
        have hOQ:=hr6.out.ownI h6.queue
        have hB6 : w.heap.size ≤ W6.heap.size:=b6.size
        go_wp2_with (at_builtin; refine wpl_app1 rfl _ _ rfl w.heap.size qv (upI qs) t hOQ rfl rfl (by rw [upI_len]; omega) hB6 ?_)
        intro qv' w7 ho7 b7 hal7
        obtain ⟨f7,hr7,h7⟩:=h6.push hr6.out t ho7 hal7
        replace hr7:=Lib.hid hr7
        replace ho7:=Lib.hid ho7
        clear hal7
        go_wp2
        go_roundw
        case measure => simp [intOf]; omega
        case rel => exact ⟨j + 1,updN m' t true,t :: qs,f7,qv',rfl,by go_num,by omega,by simp only [List.length_cons]; omega,hr7.out,b6.trans b7,h7,hmark.out,hmv2.out,hdone2.out⟩
       | true =>
        have hdone2 : ∀ i,i < j + 1 → m' (gx.getD i 0).toNat = true:=fun i hi => by
         by_cases q : i = j
         ·subst q; rw [hgd]; exact hbt
         ·exact hdone i (by omega)
        replace hdone2:=Lib.hid hdone2
        replace hdone:=Lib.hid hdone
        replace hmv:=Lib.hid hmv
        replace hI:=Lib.hid hI
        replace hbt:=Lib.hid hbt
        replace hr5:=Lib.hid hr5
        replace hr6:=Lib.hid hr6
        replace hOV:=Lib.hid hOV
        replace hMj:=Lib.hid hMj
        replace hgd:=Lib.hid hgd
        replace hgj:=Lib.hid hgj
        replace hu:=Lib.hid hu
        replace hta:=Lib.hid hta
        go_wp2
        go_roundw
        case measure => simp [intOf]; omega
        case rel => exact ⟨j + 1,m',qs,f5,qv,rfl,by go_num,by omega,by omega,hr5.out,b5,h5,hI.out,hmv.out,hdone2.out⟩
      ·obtain rfl : j = gx.length:=by omega
       have hfin:=hI.finish (fun t ht => by
        rw [hadj.out] at ht
        obtain ⟨x,hx,rfl⟩:=List.mem_map.1 ht
        obtain ⟨i,hi,rfl⟩:=List.mem_iff_getElem.1 hx
        have:=hdone i hi
        rw [List.getD_eq_getElem?_getD,List.getElem?_eq_getElem hi] at this
        exact this)
       replace hfin:=Lib.hid hfin
       replace hdone:=Lib.hid hdone
       replace hmv:=Lib.hid hmv
       replace hI:=Lib.hid hI
       replace hr5:=Lib.hid hr5
       go_wp2
       go_roundg (2 * unm G.length m' + qs.length)
       case measure => simp only [List.length_cons]; omega
       case rel => exact ⟨m',qs,f5,qv,rfl,rfl,by omega,hr5.out,b5,h5,hfin.out⟩
end Go.Proofs.YtjiadfblphdchaaGreatDoor
namespace Go.Proofs.YtjiadfblphdchaaGreatDoor
open Go.RowKit
set_option maxRecDepth 100000
/-- What is told so far: the first k lists, and j of the next. -/
def BackTo (G : List (List Int)) (k j : Nat) (F : Nat → List Int) : Prop :=
 ∀ t,t < G.length → ((F t).length ≤ arrowsTo G k + j ∧ ∀ y : Int,y ∈ F t ↔ ∃ v : Nat,y = v ∧ (v < k ∧ (t : Int) ∈ G.getD v [] ∨ v = k ∧ (t : Int) ∈ (G.getD k []).take j))
theorem BackTo.zero (G : List (List Int)) : BackTo G 0 0 (fun _ => []):=by
 intro t _
 refine ⟨Nat.zero_le _,fun y => ⟨fun h => (by cases h),fun ⟨v,_,h⟩ => ?_⟩⟩
 rcases h with ⟨h,_⟩ | ⟨_,h⟩
 ·omega
 ·simp at h
theorem BackTo.next {G : List (List Int)} {k : Nat} {F : Nat → List Int} (h : BackTo G k (G.getD k []).length F) : BackTo G (k + 1) 0 F:=by
 intro t ht
 obtain ⟨h1,h2⟩:=h t ht
 refine ⟨by simpa [arrowsTo] using h1,fun y => ?_⟩
 rw [h2 y]
 constructor
 ·rintro ⟨v,hv,h⟩
  refine ⟨v,hv,.inl ?_⟩
  rcases h with ⟨a,b⟩ | ⟨rfl,b⟩
  ·exact ⟨by omega,b⟩
  ·rw [List.take_length] at b; exact ⟨by omega,b⟩
 ·rintro ⟨v,hv,h⟩
  rcases h with ⟨a,b⟩ | ⟨_,b⟩
  ·refine ⟨v,hv,?_⟩
   by_cases e : v = k
   ·subst e; exact .inr ⟨rfl,by rw [List.take_length]; exact b⟩
   ·exact .inl ⟨by omega,b⟩
  ·simp at b
theorem BackTo.add {G : List (List Int)} {k j u : Nat} {F : Nat → List Int} (h : BackTo G k j F) (hj : (G.getD k [])[j]? = some (u : Int)) : BackTo G k (j + 1) (updN F u (F u ++ [(k : Int)])):=by
 have hjl : j < (G.getD k []).length:=by
  by_cases q : j < (G.getD k []).length
  ·exact q
  ·rw [List.getElem?_eq_none (by omega)] at hj; cases hj
 have htk : (G.getD k []).take (j + 1) = (G.getD k []).take j ++ [(u : Int)]:=by
  rw [List.take_add_one,hj]; rfl
 intro t ht
 obtain ⟨h1,h2⟩:=h t ht
 by_cases e : t = u
 ·subst e
  rw [updN_same]
  refine ⟨by rw [List.length_append]; simp only [List.length_cons,List.length_nil]; omega,fun y => ?_⟩
  rw [List.mem_append,h2 y,htk]
  simp only [List.mem_singleton,List.mem_append]
  constructor
  ·rintro (⟨v,hv,h⟩ | rfl)
   ·refine ⟨v,hv,?_⟩
    rcases h with h | ⟨a,b⟩
    ·exact .inl h
    ·exact .inr ⟨a,.inl b⟩
   ·exact ⟨k,rfl,.inr ⟨rfl,.inr (by simp)⟩⟩
  ·rintro ⟨v,hv,h⟩
   rcases h with h | ⟨a,b | b⟩
   ·exact .inl ⟨v,hv,.inl h⟩
   ·exact .inl ⟨v,hv,.inr ⟨a,b⟩⟩
   ·right; rw [hv,a]
 ·rw [updN_other _ _ _ e]
  refine ⟨by omega,fun y => ?_⟩
  rw [h2 y,htk]
  simp only [List.mem_append,List.mem_singleton]
  constructor
  ·rintro ⟨v,hv,h⟩
   refine ⟨v,hv,?_⟩
   rcases h with h | ⟨a,b⟩
   ·exact .inl h
   ·exact .inr ⟨a,.inl b⟩
  ·rintro ⟨v,hv,h⟩
   refine ⟨v,hv,?_⟩
   rcases h with h | ⟨a,b | b⟩
   ·exact .inl h
   ·exact .inr ⟨a,b⟩
   ·exact absurd (by omega) e
/-- The graph turned: arrows the other way. -/
def TurnedOf (G H : List (List Int)) : Prop:=H.length = G.length ∧ (∀ t,t < G.length → (H.getD t []).length ≤ arrowsTo G G.length) ∧ ∀ t,t < G.length → ∀ y : Int,y ∈ H.getD t [] ↔ ∃ v : Nat,y = v ∧ v < G.length ∧ (t : Int) ∈ G.getD v []
theorem BackTo.turned {G : List (List Int)} {F : Nat → List Int} (h : BackTo G G.length 0 F) : TurnedOf G (rowsOf G.length F):=by
 refine ⟨rowsOf_len _ _,fun t ht => ?_,fun t ht y => ?_⟩
 ·rw [rowsOf_get _ _ _ ht]; simpa using (h t ht).1
 ·rw [rowsOf_get _ _ _ ht,(h t ht).2 y]
  constructor
  ·rintro ⟨v,hv,h⟩
   rcases h with h | ⟨_,h⟩
   ·exact ⟨v,hv,h.1,h.2⟩
   ·simp at h
  ·rintro ⟨v,hv,h⟩
   exact ⟨v,hv,.inl h⟩
set_option maxHeartbeats 4000000 in
theorem graph_back (na : Option Addr) (nc : Nat) (G : List (List Int)) (w : World) (h : ListsAt w (.slice na G.length nc) G) (hok : GraphOk G) (hn : G.length ≤ 8200) (harr : arrowsTo G G.length ≤ 262144) :
 Calls Tryz.prog 118 #[.slice na G.length nc] w (Ret1 (fun x w' => ∃ H,TurnedOf G H ∧ ListsAt w' x H) w):=by
 obtain ⟨ov,w1,mk,ho,hb1⟩:=run_makeW oneLists (G.length : Int) G.length w rfl (by omega)
 obtain ⟨f1,hr1,h1⟩:=WN.made G.length hb1 (Nat.le_refl _) ho
 obtain ⟨oa,on,oc,rfl⟩:=ho.shape
 have hlen : ∀ k,k < G.length → (G.getD k []).length ≤ 262144:=fun k hk => by
  have:=arrowsTo_mono G (show k + 1 ≤ G.length by omega)
  simp only [arrowsTo] at this; omega
 replace h:=Lib.hid h
 replace hok:=Lib.hid hok
 replace hr1:=Lib.hid hr1
 replace ho:=Lib.hid ho
 replace hlen:=Lib.hid hlen
 go_enter Tryz.func118,Tryz.ntmps118
 go_wp2_with fail
 clear mk
 go_loopw [13] (fun kv wr => ∃ (k : Nat) (F : Nat → List Int) (f : Names) (vals : List Value),k ≤ G.length ∧ kv = .int .i64 k ∧ Rows w.heap.size wr f ∧ Below w.heap.size w wr ∧ WN f (.slice oa on oc) vals G.length F ∧ BackTo G k 0 F) (fun kv _ => G.length - (intOf kv).toNat)
 case atStart => exact ⟨0,_,f1,_,by omega,rfl,hr1.out,hb1,h1,BackTo.zero G⟩
 case round =>
  clear h1 ho hr1
  obtain ⟨k,F,f2,vals,hk,rfl,hr2,b2,h2,hB⟩:=hrel
  obtain ⟨wo,rfl⟩ : ∃ wo : World,wo = wr:=⟨_,rfl⟩
  by_cases hlt : k < G.length
  ·obtain ⟨mv,iR,cR0,hM0⟩:=h.out.row k hlt
   have cR:=(b2.cell (World.block_lt_of_cell? _ _ cR0)).trans cR0
   clear cR0
   have hM:=hM0.below b2
   have hgl:=hlen.out k hlt
   have hgp:=hok.out k hlt
   have hBadd:=fun (j u : Nat) (F : Nat → List Int) (h : BackTo G k j F) => h.add (u:=u)
   have hBnext:=fun (F : Nat → List Int) (h : BackTo G k (G.getD k []).length F) => h.next
   have hBlen:=fun (j t : Nat) (F : Nat → List Int) (h : BackTo G k j F) (ht : t < G.length) => (h t ht).1
   have harrk:=arrowsTo_mono G hk
   generalize G.getD k [] = gk at *
   have lM:=hM.len
   generalize valAt (.slice na G.length nc) k = ra at *
   replace hB:=Lib.hid hB
   replace hBadd:=Lib.hid hBadd
   replace hBnext:=Lib.hid hBnext
   replace hBlen:=Lib.hid hBlen
   replace hgp:=Lib.hid hgp
   replace hr2:=Lib.hid hr2
   replace hM:=Lib.hid hM
   replace hM0:=Lib.hid hM0
   go_wp2_with fail
   clear iR cR lM
   go_loopw [20] (fun jv wr => ∃ (j : Nat) (F : Nat → List Int) (f : Names) (vals : List Value),j ≤ gk.length ∧ jv = .int .i64 j ∧ Rows w.heap.size wr f ∧ Below w.heap.size w wr ∧ WN f (.slice oa on oc) vals G.length F ∧ BackTo G k j F) (fun jv _ => gk.length - (intOf jv).toNat)
   case atStart => exact ⟨0,F,f2,vals,by omega,rfl,hr2.out,b2,h2,hB.out⟩
   case round =>
    clear hB hr2 h2 b2 hM
    obtain ⟨j,F,f3,vals,hj,rfl,hr3,b3,h3,hB⟩:=hrel
    obtain ⟨wo,rfl⟩ : ∃ wo : World,wo = wr:=⟨_,rfl⟩
    by_cases hjl : j < gk.length
    ·have hMj:=hM0.out.below b3
     have hgj:=hgp.out gk[j] (List.getElem_mem hjl)
     obtain ⟨u,hu⟩ : ∃ u : Nat,gk[j] = u:=Int.eq_ofNat_of_zero_le hgj.1
     have hun : u < G.length:=by rw [hu] at hgj; omega
     have hgu : gk[j]? = some (u : Int):=by rw [List.getElem?_eq_getElem hjl,hu]
     have hgd : gk.getD j 0 = (u : Int):=by rw [List.getD_eq_getElem?_getD,hgu]; rfl
     have iJ:=fun w' => hMj.idx j hjl w'
     have cJ:=hMj.cellD j hjl
     rw [hgd] at cJ
     have hadd:=hBadd.out j u F hB hgu
     have hfl:=hBlen.out j u F hB hun
     have hOV:=(hr3.ownV h3.outer).at
     have iO:=fun w' => hOV.idx oneLists u (by rw [h3.len]; exact hun) w'
     have cO:=hOV.cellV u (by rw [h3.len]; exact hun)
     have hT:=hr3.ownI (h3.rows u hun)
     have happ:=fun (w1 : World) (v' : Value) => h3.app hr3 hun (w1:=w1) (v':=v') (k : Int)
     have hput:=fun (w1 : World) (v' : Value) (xs : List Int) => h3.put (B:=w.heap.size) (w1:=w1) hun (v':=v') (xs:=xs)
     have hB3 : w.heap.size ≤ wo.heap.size:=b3.size
     generalize valAt mv j = ja at *
     generalize vAt vals u = tv at *
     generalize valAt (.slice oa on oc) u = ua at *
     replace hadd:=Lib.hid hadd
     replace happ:=Lib.hid happ
     replace hput:=Lib.hid hput
     replace hB:=Lib.hid hB
     replace hr3:=Lib.hid hr3
     replace hOV:=Lib.hid hOV
     replace hgu:=Lib.hid hgu
     replace hgd:=Lib.hid hgd
     replace hu:=Lib.hid hu
     replace hgj:=Lib.hid hgj
     go_wp2_with (at_builtin; refine wpl_app1 rfl _ _ rfl w.heap.size tv (F u) k hT rfl rfl (by omega) hB3 ?_)
     intro v' w7 ho7 b7 hal7
     have hR7:=happ.out w7 v' ho7 hal7
     obtain ⟨y1,y2,y3,f8,hr8,h8,_⟩:=hput.out w7 v' _ hR7
     obtain ⟨va,vn,vc,rfl⟩:=ho7.at.shape
     replace hr8:=Lib.hid hr8
     replace ho7:=Lib.hid ho7
     replace hR7:=Lib.hid hR7
     clear hal7 hT iJ cJ cO
     go_wp2
     go_roundw
     case measure => simp [intOf]; omega
     case rel => exact ⟨j + 1,_,f8,_,by omega,by go_num,hr8.out,(b3.trans b7).setCell y3 _,h8,hadd.out⟩
    ·obtain rfl : j = gk.length:=by omega
     have hnext:=hBnext.out F hB
     replace hnext:=Lib.hid hnext
     replace hB:=Lib.hid hB
     replace hr3:=Lib.hid hr3
     go_wp2
     go_roundw
     case measure => simp [intOf]; omega
     case rel => exact ⟨k + 1,F,f3,vals,by omega,by go_num,hr3.out,b3,h3,hnext.out⟩
  ·obtain rfl : k = G.length:=by omega
   have hT:=hB.turned
   have hL:=h2.lists hr2
   replace hB:=Lib.hid hB
   replace hT:=Lib.hid hT
   replace hL:=Lib.hid hL
   replace hr2:=Lib.hid hr2
   go_wp2
   go_ret
   exact ⟨_,rfl,b2,_,hT.out,hL.out⟩
end Go.Proofs.YtjiadfblphdchaaGreatDoor
