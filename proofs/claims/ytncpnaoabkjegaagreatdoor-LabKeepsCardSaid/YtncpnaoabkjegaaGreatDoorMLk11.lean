/-
  Proved: the law edenlaw26.LabKeeps as its tied card: it returns true and never panics, for any rule. No conditions beyond the card's own.
  Walk: lab.Look at a small rule.
  Plain mathematics of layer 20: the inverse is the only one of its radius, is as narrow as can be, and has the rule as its inverse.
  Plain mathematics: the garden of Eden theorem: a rule that is onto has no twins (the other way is onto_of_no_twins).
  Plain mathematics of layer 26: the inverse's radius, the orphans and the sums of a mirrored rule.
  Plain mathematics of layer 19: a rule that permutes at one side has no twins and is onto; one that permutes at both sides is not one to one.
  Walks: lab.Look at a rule that is refused; lab.Kind; edenlaw26.heavy, same, awake.
  Plain mathematics of layer 10: an orphan that the walk tells is not long.
  Walk: edenlaw13.awake.
  Walk: edenlaw15.awake; twins.Check at a rule that is none.
  Walk: edenlaw15.TwinsKeeps returns true.
  Walk: edenlaw26.LabKeeps returns true.
  Opening what a call is handed: []int, api.Rule, the package-level errors.
  From a card's list of laid variables that holds the handle of the type error: the package errors and errors.errorType.
-/
import Derived.Test.YtncpnaoabkjegaaGreatDoorMLk10
import Derived.Deep.CutBlock
import Derived.Test.YtncpnaoabkjegaaGreatDoorRows
import Derived.ProofKit
import Derived.OpenShut
import Derived.ShutString
import Derived.ChangeOld
import Derived.LaidMore
import Derived.Stop.Joined
import Derived.Stop.LaidErr
import Derived.Lib.SmallJoins
import Derived.LaidHandle
import Derived.Test.YtncpnaoabkjegaaGreatDoorCards
import Derived.Test.YtncpnaoabkjegaaGreatDoorTie
import Derived.SevenTiedAt
namespace Go.Proofs.YtncpnaoabkjegaaGreatDoor
open Go.RowKit
set_option maxRecDepth 100000
theorem OntoPost.parts {r : Nat → Addr} {B : Nat} {s : SubR} {x y z : Value} {w : World} (h : OntoPost r B s x y z w) : (∃ a n c,y = .slice a n c ∧ OwnI B w (.slice a n c) (orphL s)):=by
 cases s with
 | on _ _ => obtain ⟨rfl,rfl,rfl⟩:=h; exact ⟨_,_,_,rfl,OwnI.nil _ _⟩
 | orphan wd => obtain ⟨rfl,rfl,ho⟩:=h; obtain ⟨a,n,c,rfl⟩:=ho.at.shape; exact ⟨_,_,_,rfl,ho⟩
 | big => obtain ⟨rfl,rfl,he⟩:=h; exact ⟨_,_,_,rfl,OwnI.nil _ _⟩
theorem idx5_0 (w : World) : (Instr.index 101 (.agg #[.nilIface,.nilIface,.nilIface,.nilIface,.nilIface]) (.int .i64 0)).run Tryz.prog w = .ok .nilIface w:=by kernel_rfl
theorem idx5_1 (w : World) : (Instr.index 101 (.agg #[.nilIface,.nilIface,.nilIface,.nilIface,.nilIface]) (.int .i64 1)).run Tryz.prog w = .ok .nilIface w:=by kernel_rfl
theorem idx5_2 (w : World) : (Instr.index 101 (.agg #[.nilIface,.nilIface,.nilIface,.nilIface,.nilIface]) (.int .i64 2)).run Tryz.prog w = .ok .nilIface w:=by kernel_rfl
theorem idx5_3 (w : World) : (Instr.index 101 (.agg #[.nilIface,.nilIface,.nilIface,.nilIface,.nilIface]) (.int .i64 3)).run Tryz.prog w = .ok .nilIface w:=by kernel_rfl
theorem idx5_4 (w : World) : (Instr.index 101 (.agg #[.nilIface,.nilIface,.nilIface,.nilIface,.nilIface]) (.int .i64 4)).run Tryz.prog w = .ok .nilIface w:=by kernel_rfl
/-- The radius that a report tells. -/
noncomputable def radL (K R : Nat) (T : List Int) : Int:=if invE K R T = none then radN K R T else -1
/-- The factors that a report tells. -/
def facR (K R : Nat) (T : List Int) : List Int:=if isSum K R T = true then facs K R T else []
/-- A report of a rule. -/
def RepIs (B : Nat) (w : World) (K R : Nat) (T : List Int) (v : Value) : Prop :=
 ∃ (Y F : Bool) (oa : Option Addr) (on oc : Nat) (fa : Option Addr) (fn fc : Nat),(Y = true ↔ ¬ NotOne K R T) ∧ (F = true ↔ ∀ x y,¬ IsTwins K R T x y) ∧
  v = .agg #[.int .i64 (ontoN (subR K (pw K (2 * R)) T)),.slice oa on oc,.bool Y,.bool F,.int .i64 (radL K R T),.bool (isSum K R T),.slice fa fn fc,.bool (unlikeP K T (T.length / K)),.bool (unlikeP K T 1)] ∧
  OwnI B w (.slice oa on oc) (orphL (subR K (pw K (2 * R)) T)) ∧ OwnI B w (.slice fa fn fc) (facR K R T) ∧ ((Value.slice oa on oc).ownBlock = none ∨ (Value.slice oa on oc).ownBlock ≠ (Value.slice fa fn fc).ownBlock)
set_option maxHeartbeats 4000000 in
theorem look_ok (r : Nat → Addr) (K R : Nat) (va : Option Addr) (vn vc : Nat) (T : List Int) (w : World) (hg : Glob r w) (hG : GlobE w) (h : IntsAt w (.slice va vn vc) T) (hr : RuleOk K R T) (hl : T.length ≤ 256) :
 Calls Tryz.prog 23 #[.agg #[.int .i64 K,.int .i64 R,.slice va vn vc]] w (Ret2 (fun x y w' => y = .nilIface ∧ RepIs w.heap.size w' K R T x) w):=by
 have b0:=belowAlloc w (.cells #[.int .i64 K,.int .i64 R,.slice va vn vc] 24)
 have q : Box3 (w.alloc (.cells #[.int .i64 K,.int .i64 R,.slice va vn vc] 24)) w.heap.size (.int .i64 K) (.int .i64 R) (.slice va vn vc):=by simp [Box3,go_sem]
 obtain ⟨f0,hR0,n45,-⟩:=(Rows.void w.heap.size w).mkN (45,0) (Nat.le_refl _) 24 3 #[.int .i64 K,.int .i64 R,.slice va vn vc] rfl
 obtain ⟨f1,hR1,n42,o1⟩:=hR0.mkN (42,0) (by simp) 46 9 #[.int .i64 0,.slice none 0 0,.bool false,.bool false,.int .i64 0,.bool false,.slice none 0 0,.bool false,.bool false] rfl
 replace n45:=(o1 _ (by decide)).trans n45
 have b1:=belowAlloc (w.alloc (.cells #[.int .i64 K,.int .i64 R,.slice va vn vc] 24)) (.cells #[.int .i64 0,.slice none 0 0,.bool false,.bool false,.int .i64 0,.bool false,.slice none 0 0,.bool false,.bool false] 46)
 have hsz : (w.alloc (.cells #[.int .i64 K,.int .i64 R,.slice va vn vc] 24)).heap.size = w.heap.size + 1:=by simp
 rw [hsz] at n42
 replace q:=q.below b1
 have b01:=Below.step b0 b1
 obtain ⟨w1,hw1⟩ : ∃ W : World,(w.alloc (.cells #[.int .i64 K,.int .i64 R,.slice va vn vc] 24)).alloc (.cells #[.int .i64 0,.slice none 0 0,.bool false,.bool false,.int .i64 0,.bool false,.slice none 0 0,.bool false,.bool false] 46) = W:=⟨_,rfl⟩
 have hs1 : ((w.alloc (.cells #[.int .i64 K,.int .i64 R,.slice va vn vc] 24)).alloc (.cells #[.int .i64 0,.slice none 0 0,.bool false,.bool false,.int .i64 0,.bool false,.slice none 0 0,.bool false,.bool false] 46)).heap.size = w.heap.size + 2:=by simp
 rw [hw1] at q b01 hR1 hs1
 have hsm:=smallP_small hr hl
 have hg1:=Hd (hg.below b01)
 have hG1:=Hd (hG.below b01)
 have hT1:=Hd (h.below b01)
 obtain ⟨S,hS⟩ : ∃ S,subR K (pw K (2 * R)) T = S:=⟨_,rfl⟩
 obtain ⟨i1,i2,i3⟩:=invE_ok hr hl
 obtain ⟨L,hL⟩ : ∃ L,unlikeP K T (T.length / K) = L:=⟨_,rfl⟩
 obtain ⟨P,hP⟩ : ∃ P,unlikeP K T 1 = P:=⟨_,rfl⟩
 have hsum : (isSum K R T = true → facR K R T = facs K R T) ∧ (isSum K R T = false → facR K R T = []):=⟨fun e => by unfold facR; rw [if_pos e],fun e => by unfold facR; rw [e]; rfl⟩
 have hrad : (invE K R T = none → radL K R T = radN K R T) ∧ (invE K R T ≠ none → radL K R T = -1):=⟨fun e => by unfold radL; rw [if_pos e],fun e => by unfold radL; rw [if_neg e]⟩
 have hB : w.heap.size ≤ w1.heap.size:=b01.size
 replace hg:=Hd hg
 replace hG:=Hd hG
 replace h:=Hd h
 replace hr:=Hd hr
 replace hsm:=Hd hsm
 replace hS:=Hd hS
 replace i1:=Hd i1
 replace i2:=Hd i2
 replace i3:=Hd i3
 replace hL:=Hd hL
 replace hP:=Hd hP
 replace hsum:=Hd hsum
 replace hrad:=Hd hrad
 replace hR1:=Hd hR1
 replace n42:=Hd n42
 replace n45:=Hd n45
 replace hw1:=Hd hw1
 replace hsz:=Hd hsz
 clear b0 b1 o1 hR0
 obtain ⟨⟨z0,z1,z2⟩,-,-,-⟩:=id q
 go_enter Tryz.func23,Tryz.ntmps23
 go_upto_region 1 with fail
 rw [hw1.out]
 go_wp2_with fail
 refine (small_any r K R va vn vc T w1 hg1.out hT1.out).mono ?_
 rintro e w2 ⟨x,rfl,b2,he⟩
 rw [hsm.out] at he
 obtain rfl:=he.none_eq
 clear he z0 z1 z2
 have b12:=Below.step b01 b2
 -- the boxes of the report and of the errors
 obtain ⟨f3,hR3,n40,o3⟩:=(hR1.out.below b2).mkN (40,0) b12.size 46 9 #[.int .i64 0,.slice none 0 0,.bool false,.bool false,.int .i64 0,.bool false,.slice none 0 0,.bool false,.bool false] rfl
 have b3:=belowAlloc w2 (.cells #[.int .i64 0,.slice none 0 0,.bool false,.bool false,.int .i64 0,.bool false,.slice none 0 0,.bool false,.bool false] 46)
 have b13:=Below.step b12 b3
 obtain ⟨f4,hR4,n41,o4⟩:=hR3.mkN (41,0) b13.size 101 5 #[.nilIface,.nilIface,.nilIface,.nilIface,.nilIface] rfl
 have b4:=belowAlloc (w2.alloc (.cells #[.int .i64 0,.slice none 0 0,.bool false,.bool false,.int .i64 0,.bool false,.slice none 0 0,.bool false,.bool false] 46)) (.cells #[.nilIface,.nilIface,.nilIface,.nilIface,.nilIface] 101)
 have hsz3 : (w2.alloc (.cells #[.int .i64 0,.slice none 0 0,.bool false,.bool false,.int .i64 0,.bool false,.slice none 0 0,.bool false,.bool false] 46)).heap.size = w2.heap.size + 1:=by simp
 rw [hsz3] at n41
 have b24:=Below.step b3 b4
 have b14:=Below.step b12 b24
 obtain ⟨w4,hw4⟩ : ∃ W : World,(w2.alloc (.cells #[.int .i64 0,.slice none 0 0,.bool false,.bool false,.int .i64 0,.bool false,.slice none 0 0,.bool false,.bool false] 46)).alloc (.cells #[.nilIface,.nilIface,.nilIface,.nilIface,.nilIface] 101) = W:=⟨_,rfl⟩
 rw [hw4] at hR4 b14 b24
 have A4 : LkAt w.heap.size w4 w.heap.size w2.heap.size (w2.heap.size + 1) (w.heap.size + 1) [.int .i64 K,.int .i64 R,.slice va vn vc] [.int .i64 0,.slice none 0 0,.bool false,.bool false,.int .i64 0,.bool false,.slice none 0 0,.bool false,.bool false] [.nilIface,.nilIface,.nilIface,.nilIface,.nilIface] [.int .i64 0,.slice none 0 0,.bool false,.bool false,.int .i64 0,.bool false,.slice none 0 0,.bool false,.bool false] (.slice none 0 0) (.slice none 0 0) [] []:=by
  obtain ⟨f5,hR5,n43,o5⟩:=hR4.addE (43,0) (r':=rowI (.slice none 0 0) []) (Below.refl _ _) (OwnI.nil _ _) (fun k hk => by cases hk)
  obtain ⟨f6,hR6,n44,o6⟩:=hR5.addE (44,0) (r':=rowI (.slice none 0 0) []) (Below.refl _ _) (OwnI.nil _ _) (fun k hk => by cases hk)
  exact ⟨f6,hR6,(o6 _ (by decide)).trans ((o5 _ (by decide)).trans ((o4 _ (by decide)).trans n40)),(o6 _ (by decide)).trans ((o5 _ (by decide)).trans n41),(o6 _ (by decide)).trans ((o5 _ (by decide)).trans ((o4 _ (by decide)).trans ((o3 _ (by decide)).trans n42.out))),(o6 _ (by decide)).trans n43,n44,(o6 _ (by decide)).trans ((o5 _ (by decide)).trans ((o4 _ (by decide)).trans ((o3 _ (by decide)).trans n45.out)))⟩
 obtain ⟨x,hx⟩ : ∃ x,w2.heap.size = x:=⟨_,rfl⟩
 obtain ⟨ee,hee⟩ : ∃ x,w2.heap.size + 1 = x:=⟨_,rfl⟩
 obtain ⟨o,ho⟩ : ∃ x,w.heap.size + 1 = x:=⟨_,rfl⟩
 rw [hee,hx,ho] at A4
 have hs2:=b2.size
 have hxe : ¬ (x = ee):=by omega
 have hex : ¬ (ee = x):=by omega
 have hxo : ¬ (x = o):=by omega
 have hox : ¬ (o = x):=by omega
 have heo : ¬ (ee = o):=by omega
 have hoe : ¬ (o = ee):=by omega
 clear hs1 hs2
 clear hR3 hR4 n40 n41 o3 o4 b3 b4 b13 hsz3 f3 f4
 replace A4:=Hd A4
 replace hw4:=Hd hw4
 replace hx:=Hd hx
 replace hee:=Hd hee
 replace ho:=Hd ho
 clear hR1 n42 n45 hsz hw1 q
 go_upto_region 7 with fail
 rw [hw4.out,hee.out,hx.out,ho.out]
 clear hw4
 have z0:=A4.out.cr 0 (by decide)
 have z1:=A4.out.cr 1 (by decide)
 have z2:=A4.out.cr 2 (by decide)
 have lowx:=A4.out.low
 go_wp2_with fail
 refine (sub_onto r K R va vn vc T w4 (hg.out.below b14) (hG.out.below b14) (h.out.below b14) hr.out hl).mono ?_
 rintro e w5 ⟨xv,_,zv,rfl,b5,hon⟩
 clear z0 z1 z2
 rw [hS.out] at hon
 obtain ⟨oa,on,oc,rfl,hor⟩:=hon.parts
 obtain ⟨xb,rfl⟩ : ∃ b,xv = .bool b:=by
  cases S with
  | on _ _ => exact ⟨_,hon.1⟩
  | orphan _ => exact ⟨_,hon.1⟩
  | big => exact ⟨_,hon.1⟩
 have hcz : (zv = .nilIface ∧ (xb = true → ontoN S = 1) ∧ (xb = false → ontoN S = 2)) ∨ ∃ p,zv = .iface 119 (.pointer (some p)) ∧ ErrIs r w5 (fresh sSubset 0 4) zv ∧ ontoN S = 3:=by
  cases S with
  | on _ _ => obtain ⟨h1,-,h3⟩:=hon; injection h1 with h1; exact .inl ⟨h3,fun _ => rfl,fun q => by rw [h1] at q; cases q⟩
  | orphan _ => obtain ⟨h1,h3,-⟩:=hon; injection h1 with h1; exact .inl ⟨h3,(fun q => by rw [h1] at q; cases q),fun _ => rfl⟩
  | big =>
   obtain ⟨-,-,h3⟩:=hon
   have h4:=h3
   obtain ⟨p,u,rfl,-⟩:=h4
   exact .inr ⟨_,rfl,h3,rfl⟩
 clear hon
 have A5:=A4.out.orphan b5 b14.size hor
 have c5:=Below.step b14 b5
 replace hor:=Hd hor
 rcases hcz with ⟨rfl,k1,k2⟩ | ⟨zp,rfl,hze,k3⟩
 case' inl =>
  have g1:=A5.cx 1 (by decide)
  have h1:=A5.fx 1
  have S1:=A5.sx 1 (.slice oa on oc)
  have d1:=c5.setCell (p:=⟨x,1,none⟩) lowx.1 (.slice oa on oc)
  have g2:=S1.ce 0 (by decide)
  have h2:=S1.fe 0
  have S2:=S1.se 0 (.nilIface)
  have d2:=d1.setCell (p:=⟨ee,0,none⟩) lowx.2.1 (.nilIface)
  replace k1:=Hd k1
  replace k2:=Hd k2
  go_upto_block 0 with fail
  clear g1 h1 g2 h2
  go_cut [] from 27 (fun wx => Below w.heap.size w wx ∧ LkAt w.heap.size wx w.heap.size x ee o [.int .i64 K,.int .i64 R,.slice va vn vc] [.int .i64 (ontoN S),.slice oa on oc,.bool false,.bool false,.int .i64 0,.bool false,.slice none 0 0,.bool false,.bool false] [.nilIface,.nilIface,.nilIface,.nilIface,.nilIface] [.int .i64 0,.slice none 0 0,.bool false,.bool false,.int .i64 0,.bool false,.slice none 0 0,.bool false,.bool false] (.slice oa on oc) (.slice none 0 0) (orphL S) [])
  case first =>
   have tb:=(hg.out.below d2).c4
   have e1:=S2.ce 0 (by decide)
   go_wp2_with fail
   refine (Errs.is_nil _ _ _).mono ?_
   rintro e w6 ⟨rfl,rfl⟩
   clear e1
   cases xb with
   | true =>
    have g3:=S2.cx 0 (by decide)
    have h3:=S2.fx 0
    have S3:=S2.sx 0 (.int .i64 1)
    have d3:=d2.setCell (p:=⟨x,0,none⟩) lowx.1 (.int .i64 1)
    have RK:=S3
    have Rb:=d3
    have hfin : Below w.heap.size w (((w5.setCell ⟨x,1,none⟩ (.slice oa on oc)).setCell ⟨ee,0,none⟩ .nilIface).setCell ⟨x,0,none⟩ (.int .i64 1)) ∧ LkAt w.heap.size (((w5.setCell ⟨x,1,none⟩ (.slice oa on oc)).setCell ⟨ee,0,none⟩ .nilIface).setCell ⟨x,0,none⟩ (.int .i64 1)) w.heap.size x ee o [.int .i64 K,.int .i64 R,.slice va vn vc] [.int .i64 (ontoN S),.slice oa on oc,.bool false,.bool false,.int .i64 0,.bool false,.slice none 0 0,.bool false,.bool false] [.nilIface,.nilIface,.nilIface,.nilIface,.nilIface] [.int .i64 0,.slice none 0 0,.bool false,.bool false,.int .i64 0,.bool false,.slice none 0 0,.bool false,.bool false] (.slice oa on oc) (.slice none 0 0) (orphL S) []:=by rw [k1.out rfl]; exact ⟨Rb,RK⟩
    clear RK Rb k1 k2
    replace hfin:=Hd hfin
    go_wp2
    go_meet
    case rel => exact hfin.out
   | false =>
    have g3:=S2.cx 0 (by decide)
    have h3:=S2.fx 0
    have S3:=S2.sx 0 (.int .i64 2)
    have d3:=d2.setCell (p:=⟨x,0,none⟩) lowx.1 (.int .i64 2)
    have RK:=S3
    have Rb:=d3
    have hfin : Below w.heap.size w (((w5.setCell ⟨x,1,none⟩ (.slice oa on oc)).setCell ⟨ee,0,none⟩ .nilIface).setCell ⟨x,0,none⟩ (.int .i64 2)) ∧ LkAt w.heap.size (((w5.setCell ⟨x,1,none⟩ (.slice oa on oc)).setCell ⟨ee,0,none⟩ .nilIface).setCell ⟨x,0,none⟩ (.int .i64 2)) w.heap.size x ee o [.int .i64 K,.int .i64 R,.slice va vn vc] [.int .i64 (ontoN S),.slice oa on oc,.bool false,.bool false,.int .i64 0,.bool false,.slice none 0 0,.bool false,.bool false] [.nilIface,.nilIface,.nilIface,.nilIface,.nilIface] [.int .i64 0,.slice none 0 0,.bool false,.bool false,.int .i64 0,.bool false,.slice none 0 0,.bool false,.bool false] (.slice oa on oc) (.slice none 0 0) (orphL S) []:=by rw [k2.out rfl]; exact ⟨Rb,RK⟩
    clear RK Rb k1 k2
    replace hfin:=Hd hfin
    go_wp2
    go_meet
    case rel => exact hfin.out
 case' inr =>
  have g1:=A5.cx 1 (by decide)
  have h1:=A5.fx 1
  have S1:=A5.sx 1 (.slice oa on oc)
  have d1:=c5.setCell (p:=⟨x,1,none⟩) lowx.1 (.slice oa on oc)
  have g2:=S1.ce 0 (by decide)
  have h2:=S1.fe 0
  have S2:=S1.se 0 ((.iface 119 (.pointer (some zp))))
  have d2:=d1.setCell (p:=⟨ee,0,none⟩) lowx.2.1 ((.iface 119 (.pointer (some zp))))
  replace k3:=Hd k3
  go_upto_block 0 with fail
  clear g1 h1 g2 h2
  go_cut [] from 27 (fun wx => Below w.heap.size w wx ∧ LkAt w.heap.size wx w.heap.size x ee o [.int .i64 K,.int .i64 R,.slice va vn vc] [.int .i64 (ontoN S),.slice oa on oc,.bool false,.bool false,.int .i64 0,.bool false,.slice none 0 0,.bool false,.bool false] [.nilIface,.nilIface,.nilIface,.nilIface,.nilIface] [.int .i64 0,.slice none 0 0,.bool false,.bool false,.int .i64 0,.bool false,.slice none 0 0,.bool false,.bool false] (.slice oa on oc) (.slice none 0 0) (orphL S) [])
  case first =>
   have tb:=(hg.out.below d2).c4
   have his:=Errs.is_any r 4 _ _ _ ((hze.set (b:=x) (i:=1) (fun s q => by rw [A5.cx 0 (by decide)] at q; cases q) (.slice oa on oc)).set (b:=ee) (i:=0) (fun s q => by rw [S1.ce 0 (by decide)] at q; cases q) (.iface 119 (.pointer (some zp))))
   have e1:=S2.ce 0 (by decide)
   replace hze:=Hd hze
   go_wp2_with fail
   refine his.mono ?_
   rintro e w6 ⟨rfl,rfl⟩
   clear his
   clear e1
   have g3:=S2.cx 0 (by decide)
   have h3:=S2.fx 0
   have S3:=S2.sx 0 (.int .i64 3)
   have d3:=d2.setCell (p:=⟨x,0,none⟩) lowx.1 (.int .i64 3)
   have g4:=S3.ce 0 (by decide)
   have h4:=S3.fe 0
   have S4:=S3.se 0 (.nilIface)
   have d4:=d3.setCell (p:=⟨ee,0,none⟩) lowx.2.1 (.nilIface)
   have RK:=S4
   have Rb:=d4
   have hfin : Below w.heap.size w ((((w5.setCell ⟨x,1,none⟩ (.slice oa on oc)).setCell ⟨ee,0,none⟩ (.iface 119 (.pointer (some zp)))).setCell ⟨x,0,none⟩ (.int .i64 3)).setCell ⟨ee,0,none⟩ .nilIface) ∧ LkAt w.heap.size ((((w5.setCell ⟨x,1,none⟩ (.slice oa on oc)).setCell ⟨ee,0,none⟩ (.iface 119 (.pointer (some zp)))).setCell ⟨x,0,none⟩ (.int .i64 3)).setCell ⟨ee,0,none⟩ .nilIface) w.heap.size x ee o [.int .i64 K,.int .i64 R,.slice va vn vc] [.int .i64 (ontoN S),.slice oa on oc,.bool false,.bool false,.int .i64 0,.bool false,.slice none 0 0,.bool false,.bool false] [.nilIface,.nilIface,.nilIface,.nilIface,.nilIface] [.int .i64 0,.slice none 0 0,.bool false,.bool false,.int .i64 0,.bool false,.slice none 0 0,.bool false,.bool false] (.slice oa on oc) (.slice none 0 0) (orphL S) []:=by rw [k3.out]; exact ⟨Rb,RK⟩
   clear RK Rb k3
   replace hfin:=Hd hfin
   go_wp2
   go_meet
   case rel => exact hfin.out
 all_goals
  obtain ⟨bc,AC⟩:=hcut
  clear S1 S2 d1 d2 A5 c5 b14 A4 lowx
  have lowx:=AC.low
  have hBx:=bc.size
  have z0:=AC.cr 0 (by decide)
  have z1:=AC.cr 1 (by decide)
  have z2:=AC.cr 2 (by decide)
  go_wp2_with fail
  refine (one_ok r K R va vn vc T _ (hg.out.below bc) (h.out.below bc) hr.out hl).mono ?_
  rintro e w7 ⟨_,_,_,_,rfl,b7,hp⟩
  clear z0 z1 z2
  obtain ⟨rfl,Y,rfl,hY,e1,f1,g1,e2,f2,g2,e3,f3,g3,e4,f4,g4,e5,f5,g5,e6,f6,g6,rfl,rfl⟩:=hp.ans
  clear hp
  replace hY:=Hd hY
  have A7:=AC.below b7
  have c7:=Below.step bc b7
  have g11:=A7.cx 2 (by decide)
  have h11:=A7.fx 2
  have S11:=A7.sx 2 (.bool Y)
  have d11:=c7.setCell (p:=⟨x,2,none⟩) lowx.1 (.bool Y)
  have g12:=S11.ce 1 (by decide)
  have h12:=S11.fe 1
  have S12:=S11.se 1 (.nilIface)
  have d12:=d11.setCell (p:=⟨ee,1,none⟩) lowx.2.1 (.nilIface)
  have z0:=S12.cr 0 (by decide)
  have z1:=S12.cr 1 (by decide)
  have z2:=S12.cr 2 (by decide)
  go_wp2_with fail
  refine (finite_ok r K R va vn vc T _ (hg.out.below d12) (h.out.below d12) hr.out hl).mono ?_
  rintro e w8 ⟨fy,fa9,fb9,_,rfl,b8,hf⟩
  clear g11 h11 g12 h12 z0 z1 z2
  obtain ⟨F,rfl,hF⟩ : ∃ F : Bool,fy = .bool F ∧ (F = true ↔ ∀ x y,¬ IsTwins K R T x y):=by
   obtain ⟨-,⟨rfl,-,-,hn⟩ | ⟨rfl,x1,y1,-,ht,-⟩⟩:=hf
   ·exact ⟨true,rfl,⟨fun _ => hn,fun _ => rfl⟩⟩
   ·exact ⟨false,rfl,⟨fun q => (by cases q),fun q => absurd ht (q x1 y1)⟩⟩
  obtain ⟨⟨qa1,qa2,qa3,rfl⟩,qb1,qb2,qb3,rfl⟩ : (∃ a n c,fa9 = .slice a n c) ∧ ∃ a n c,fb9 = .slice a n c:=by
   obtain ⟨-,⟨-,rfl,rfl,-⟩ | ⟨-,x1,y1,-,-,-,-,o1,o2,-⟩⟩:=hf
   ·exact ⟨⟨_,_,_,rfl⟩,_,_,_,rfl⟩
   ·exact ⟨o1.at.shape,o2.at.shape⟩
  obtain rfl:=hf.1
  clear hf
  replace hF:=Hd hF
  have A8:=S12.below b8
  have c8:=Below.step d12 b8
  have g13:=A8.cx 3 (by decide)
  have h13:=A8.fx 3
  have S13:=A8.sx 3 (.bool F)
  have d13:=c8.setCell (p:=⟨x,3,none⟩) lowx.1 (.bool F)
  have g14:=S13.ce 2 (by decide)
  have h14:=S13.fe 2
  have S14:=S13.se 2 (.nilIface)
  have d14:=d13.setCell (p:=⟨ee,2,none⟩) lowx.2.1 (.nilIface)
  have z0:=S14.cr 0 (by decide)
  have z1:=S14.cr 1 (by decide)
  have z2:=S14.cr 2 (by decide)
  go_wp2_with fail
  refine (inv_radius r K R va vn vc T _ (hg.out.below d14) (h.out.below d14)).mono ?_
  rintro e w9 ⟨_,ev,rfl,b9,hev,rfl⟩
  clear g13 h13 g14 h14 z0 z1 z2
  have A9:=S14.below b9
  have c9:=Below.step d14 b9
  obtain ⟨N,hN⟩ : ∃ N,radN K R T = N:=⟨_,rfl⟩
  rw [hN]
  replace hN:=Hd hN
  have hev2:=hev.open2
  go_upto_block 1 with fail
  go_cut [] from 61 (fun wx => Below w.heap.size w wx ∧ LkAt w.heap.size wx w.heap.size x ee o [.int .i64 K,.int .i64 R,.slice va vn vc] [.int .i64 (ontoN S),.slice oa on oc,.bool Y,.bool F,.int .i64 (radL K R T),.bool false,.slice none 0 0,.bool false,.bool false] [.nilIface,.nilIface,.nilIface,.nilIface,.nilIface] [.int .i64 0,.slice none 0 0,.bool false,.bool false,.int .i64 0,.bool false,.slice none 0 0,.bool false,.bool false] (.slice oa on oc) (.slice none 0 0) (orphL S) [])
  case first =>
   by_cases hE : invE K R T = none
   ·rw [hE] at hev
    obtain rfl:=hev.none_eq
    have hrd:=hrad.out.1 hE
    rw [hN.out] at hrd
    clear hev2
    replace hE:=Hd hE
    replace hev:=Hd hev
    have g15:=A9.cx 4 (by decide)
    have h15:=A9.fx 4
    have S15:=A9.sx 4 (.int .i64 N)
    have d15:=c9.setCell (p:=⟨x,4,none⟩) lowx.1 (.int .i64 N)
    have RK:=S15
    have Rb:=d15
    have hfin : LkAt w.heap.size (w9.setCell ⟨x,4,none⟩ (.int .i64 N)) w.heap.size x ee o [.int .i64 K,.int .i64 R,.slice va vn vc] [.int .i64 (ontoN S),.slice oa on oc,.bool Y,.bool F,.int .i64 (radL K R T),.bool false,.slice none 0 0,.bool false,.bool false] [.nilIface,.nilIface,.nilIface,.nilIface,.nilIface] [.int .i64 0,.slice none 0 0,.bool false,.bool false,.int .i64 0,.bool false,.slice none 0 0,.bool false,.bool false] (.slice oa on oc) (.slice none 0 0) (orphL S) []:=by rw [hrd]; exact RK
    clear RK hrd
    replace hfin:=Hd hfin
    replace Rb:=Hd Rb
    go_wp2
    go_meet
    case rel => exact ⟨Rb.out,hfin.out⟩
   ·have hrd:=hrad.out.2 hE
    have hcode : invE K R T = fresh sInverse 0 9 ∨ invE K R T = fresh sInverse 0 4:=by
     by_cases hno : NotOne K R T
     ·exact .inl (i1.out hno)
     ·refine .inr (i2.out hno (Classical.byContradiction fun q => hE (i3.out hno q)))
    have tb:=(hg.out.below c9).c4
    have tn:=(hg.out.below c9).c9
    have hgw:=hg.out.below c9
    clear hev2
    replace hE:=Hd hE
    replace hgw:=Hd hgw
    rcases hcode with hc | hc
    ·rw [hc] at hev
     have hev':=hev
     obtain ⟨zp,zu,rfl,-⟩:=hev'
     replace hc:=Hd hc
     replace hev:=Hd hev
     go_wp2_with fail
     refine (Errs.is_any r 9 _ _ _ hev.out).mono ?_
     rintro e w11 ⟨rfl,rfl⟩
     have g15:=A9.cx 4 (by decide)
     have h15:=A9.fx 4
     have S15:=A9.sx 4 (.int .i64 (-1))
     have d15:=c9.setCell (p:=⟨x,4,none⟩) lowx.1 (.int .i64 (-1))
     have RK:=S15
     have Rb:=d15
     have hfin : LkAt w.heap.size (w9.setCell ⟨x,4,none⟩ (.int .i64 (-1))) w.heap.size x ee o [.int .i64 K,.int .i64 R,.slice va vn vc] [.int .i64 (ontoN S),.slice oa on oc,.bool Y,.bool F,.int .i64 (radL K R T),.bool false,.slice none 0 0,.bool false,.bool false] [.nilIface,.nilIface,.nilIface,.nilIface,.nilIface] [.int .i64 0,.slice none 0 0,.bool false,.bool false,.int .i64 0,.bool false,.slice none 0 0,.bool false,.bool false] (.slice oa on oc) (.slice none 0 0) (orphL S) []:=by rw [hrd]; exact RK
     clear RK hrd
     replace hfin:=Hd hfin
     replace Rb:=Hd Rb
     go_wp2
     go_meet
     case rel => exact ⟨Rb.out,hfin.out⟩
    ·rw [hc] at hev
     have hev':=hev
     obtain ⟨zp,zu,rfl,-⟩:=hev'
     replace hc:=Hd hc
     replace hev:=Hd hev
     go_wp2_with fail
     refine (Errs.is_no r 4 9 _ _ _ hgw.out hev.out (by decide) (by decide) (by decide)).mono ?_
     rintro e w11 ⟨rfl,rfl⟩
     go_wp2_with fail
     refine (Errs.is_any r 4 _ _ _ hev.out).mono ?_
     rintro e w11 ⟨rfl,rfl⟩
     have g15:=A9.cx 4 (by decide)
     have h15:=A9.fx 4
     have S15:=A9.sx 4 (.int .i64 (-1))
     have d15:=c9.setCell (p:=⟨x,4,none⟩) lowx.1 (.int .i64 (-1))
     have RK:=S15
     have Rb:=d15
     have hfin : LkAt w.heap.size (w9.setCell ⟨x,4,none⟩ (.int .i64 (-1))) w.heap.size x ee o [.int .i64 K,.int .i64 R,.slice va vn vc] [.int .i64 (ontoN S),.slice oa on oc,.bool Y,.bool F,.int .i64 (radL K R T),.bool false,.slice none 0 0,.bool false,.bool false] [.nilIface,.nilIface,.nilIface,.nilIface,.nilIface] [.int .i64 0,.slice none 0 0,.bool false,.bool false,.int .i64 0,.bool false,.slice none 0 0,.bool false,.bool false] (.slice oa on oc) (.slice none 0 0) (orphL S) []:=by rw [hrd]; exact RK
     clear RK hrd
     replace hfin:=Hd hfin
     replace Rb:=Hd Rb
     go_wp2
     go_meet
     case rel => exact ⟨Rb.out,hfin.out⟩
  case rest =>
   obtain ⟨bd,AD⟩:=hcut
   clear hev hev2
   clear lowx
   have lowx:=AD.low
   have hBd:=bd.size
   have z0:=AD.cr 0 (by decide)
   have z1:=AD.cr 1 (by decide)
   have z2:=AD.cr 2 (by decide)
   go_wp2_with fail
   refine (of_ok K R _ T _ (h.out.below bd) hr.out).mono ?_
   rintro e w12 ⟨fv9,_,_,rfl,b12,rfl,rfl,hs1,hs0⟩
   clear z0 z1 z2
   obtain ⟨fa,fn,fc,rfl,hfo⟩ : ∃ a n c,fv9 = .slice a n c ∧ OwnI wc.heap.size w12 (.slice a n c) (facR K R T):=by
    cases hi : isSum K R T with
    | true => have ho:=hs1 hi; rw [← hsum.out.1 hi] at ho; obtain ⟨a,n,c,rfl⟩:=ho.at.shape; exact ⟨_,_,_,rfl,ho⟩
    | false => rw [hs0 hi,hsum.out.2 hi]; exact ⟨_,_,_,rfl,OwnI.nil _ _⟩
   clear hs1 hs0
   have A12:=AD.facs b12 bd.size hfo
   have c12:=Below.step bd b12
   replace hfo:=Hd hfo
   have g21:=A12.cx 6 (by decide)
   have h21:=A12.fx 6
   have S21:=A12.sx 6 (.slice fa fn fc)
   have d21:=c12.setCell (p:=⟨x,6,none⟩) lowx.1 (.slice fa fn fc)
   have g22:=S21.cx 5 (by decide)
   have h22:=S21.fx 5
   have S22:=S21.sx 5 (.bool (isSum K R T))
   have d22:=d21.setCell (p:=⟨x,5,none⟩) lowx.1 (.bool (isSum K R T))
   have g23:=S22.ce 3 (by decide)
   have h23:=S22.fe 3
   have S23:=S22.se 3 (.nilIface)
   have d23:=d22.setCell (p:=⟨ee,3,none⟩) lowx.2.1 (.nilIface)
   have z0:=S23.cr 0 (by decide)
   have z1:=S23.cr 1 (by decide)
   have z2:=S23.cr 2 (by decide)
   go_wp2_with fail
   refine (sides_ok K R va vn vc T _ (h.out.below d23) hr.out).mono ?_
   rintro e w13 ⟨_,_,_,rfl,b13,rfl,rfl,rfl⟩
   clear g21 h21 g22 h22 g23 h23 z0 z1 z2
   rw [hL.out,hP.out]
   have A13:=S23.below b13
   have c13:=Below.step d23 b13
   have g24:=A13.cx 7 (by decide)
   have h24:=A13.fx 7
   have S24:=A13.sx 7 (.bool L)
   have d24:=c13.setCell (p:=⟨x,7,none⟩) lowx.1 (.bool L)
   have g25:=S24.cx 8 (by decide)
   have h25:=S24.fx 8
   have S25:=S24.sx 8 (.bool P)
   have d25:=d24.setCell (p:=⟨x,8,none⟩) lowx.1 (.bool P)
   have g26:=S25.ce 4 (by decide)
   have h26:=S25.fe 4
   have S26:=S25.se 4 (.nilIface)
   have d26:=d25.setCell (p:=⟨ee,4,none⟩) lowx.2.1 (.nilIface)
   have AE:=S26
   have bE:=d26
   obtain ⟨WE,hWE⟩ : ∃ W : World,(((w13.setCell ⟨x,7,none⟩ (.bool L)).setCell ⟨x,8,none⟩ (.bool P)).setCell ⟨ee,4,none⟩ .nilIface) = W:=⟨_,rfl⟩
   rw [hWE] at AE bE
   replace AE:=Hd AE
   replace bE:=Hd bE
   replace hWE:=Hd hWE
   go_upto_region 23 with fail
   rw [hWE.out]
   replace AE:=AE.out
   replace bE:=bE.out
   clear g24 h24 g25 h25 g26 h26
   clear hWE
   have ce0:=AE.ce 0 (by decide)
   have ce1:=AE.ce 1 (by decide)
   have ce2:=AE.ce 2 (by decide)
   have ce3:=AE.ce 3 (by decide)
   have ce4:=AE.ce 4 (by decide)
   have cx0:=AE.cx 0 (by decide)
   have co0:=AE.co 0 (by decide)
   have cf0:=AE.fo 0
   have cx1:=AE.cx 1 (by decide)
   have co1:=AE.co 1 (by decide)
   have cf1:=AE.fo 1
   have cx2:=AE.cx 2 (by decide)
   have co2:=AE.co 2 (by decide)
   have cf2:=AE.fo 2
   have cx3:=AE.cx 3 (by decide)
   have co3:=AE.co 3 (by decide)
   have cf3:=AE.fo 3
   have cx4:=AE.cx 4 (by decide)
   have co4:=AE.co 4 (by decide)
   have cf4:=AE.fo 4
   have cx5:=AE.cx 5 (by decide)
   have co5:=AE.co 5 (by decide)
   have cf5:=AE.fo 5
   have cx6:=AE.cx 6 (by decide)
   have co6:=AE.co 6 (by decide)
   have cf6:=AE.fo 6
   have cx7:=AE.cx 7 (by decide)
   have co7:=AE.co 7 (by decide)
   have cf7:=AE.fo 7
   have cx8:=AE.cx 8 (by decide)
   have co8:=AE.co 8 (by decide)
   have cf8:=AE.fo 8
   have AF:=(((((((((AE.so 0 (.int .i64 (ontoN S))).so 1 (.slice oa on oc)).so 2 (.bool Y)).so 3 (.bool F)).so 4 (.int .i64 (radL K R T))).so 5 (.bool (isSum K R T))).so 6 (.slice fa fn fc)).so 7 (.bool L)).so 8 (.bool P))
   have bF:=(((((((((bE.setCell (p:=⟨o,0,none⟩) lowx.2.2 (.int .i64 (ontoN S))).setCell (p:=⟨o,1,none⟩) lowx.2.2 (.slice oa on oc)).setCell (p:=⟨o,2,none⟩) lowx.2.2 (.bool Y)).setCell (p:=⟨o,3,none⟩) lowx.2.2 (.bool F)).setCell (p:=⟨o,4,none⟩) lowx.2.2 (.int .i64 (radL K R T))).setCell (p:=⟨o,5,none⟩) lowx.2.2 (.bool (isSum K R T))).setCell (p:=⟨o,6,none⟩) lowx.2.2 (.slice fa fn fc)).setCell (p:=⟨o,7,none⟩) lowx.2.2 (.bool L)).setCell (p:=⟨o,8,none⟩) lowx.2.2 (.bool P))
   obtain ⟨WF,hWF⟩ : ∃ W : World,(((((((((WE.setCell ⟨o,0,none⟩ (.int .i64 (ontoN S))).setCell ⟨o,1,none⟩ (.slice oa on oc)).setCell ⟨o,2,none⟩ (.bool Y)).setCell ⟨o,3,none⟩ (.bool F)).setCell ⟨o,4,none⟩ (.int .i64 (radL K R T))).setCell ⟨o,5,none⟩ (.bool (isSum K R T))).setCell ⟨o,6,none⟩ (.slice fa fn fc)).setCell ⟨o,7,none⟩ (.bool L)).setCell ⟨o,8,none⟩ (.bool P)) = W:=⟨_,rfl⟩
   rw [hWF] at AF bF
   have cr0:=AF.co 0 (by decide)
   have cr1:=AF.co 1 (by decide)
   have cr2:=AF.co 2 (by decide)
   have cr3:=AF.co 3 (by decide)
   have cr4:=AF.co 4 (by decide)
   have cr5:=AF.co 5 (by decide)
   have cr6:=AF.co 6 (by decide)
   have cr7:=AF.co 7 (by decide)
   have cr8:=AF.co 8 (by decide)
   replace hWF:=Hd hWF
   replace cr0:=Hd cr0
   replace cr1:=Hd cr1
   replace cr2:=Hd cr2
   replace cr3:=Hd cr3
   replace cr4:=Hd cr4
   replace cr5:=Hd cr5
   replace cr6:=Hd cr6
   replace cr7:=Hd cr7
   replace cr8:=Hd cr8
   obtain ⟨l1,l2,l3⟩:=AF.lists
   have hrep : RepIs w.heap.size WF K R T (.agg #[.int .i64 (ontoN S),.slice oa on oc,.bool Y,.bool F,.int .i64 (radL K R T),.bool (isSum K R T),.slice fa fn fc,.bool L,.bool P]):=⟨Y,F,oa,on,oc,fa,fn,fc,hY.out,hF.out,by rw [hS.out,hL.out,hP.out],by rw [hS.out]; exact l1,l2,l3⟩
   clear AE AF l1 l2 l3 bE hg1 hG1 hT1 hB i1 i2 i3 hsum hrad hsm AC AD bc bd hN
   replace hrep:=Hd hrep
   replace bF:=Hd bF
   have ix0:=idx5_0
   have ix1:=idx5_1
   have ix2:=idx5_2
   have ix3:=idx5_3
   have ix4:=idx5_4
   go_wp2
   refine wp_loop_rounds 6 ?_
   iterate 6
    rw [rounds_succ]
    go_wp2
   rw [hWF.out]
   exact bodyPost_ret (v:=.tuple #[.agg #[.int .i64 (ontoN S),.slice oa on oc,.bool Y,.bool F,.int .i64 (radL K R T),.bool (isSum K R T),.slice fa fn fc,.bool L,.bool P],.nilIface]) (by simp [results,Tryz.results23,go_sem,cr0.out,cr1.out,cr2.out,cr3.out,cr4.out,cr5.out,cr6.out,cr7.out,cr8.out]) rfl ⟨_,_,rfl,bF.out,rfl,hrep.out⟩
end Go.Proofs.YtncpnaoabkjegaaGreatDoor
namespace Go.Proofs.YtncpnaoabkjegaaGreatDoor
/-- The least length of a word that has no preimage. -/
def OrphanLen (K R : Nat) (T : List Int) (n : Nat) : Prop:=(∃ w,Syms K w ∧ w.length = n ∧ ¬ HasPre K R T w) ∧ ∀ y,Syms K y → y.length < n → HasPre K R T y
theorem OrphanLen.unique {K R : Nat} {T : List Int} {n m : Nat} (h : OrphanLen K R T n) (k : OrphanLen K R T m) : n = m:=by
 obtain ⟨⟨w,sw,lw,hw⟩,h2⟩:=h
 obtain ⟨⟨v,sv,lv,hv⟩,k2⟩:=k
 rcases Nat.lt_trichotomy n m with q | q | q
 ·exact absurd (k2 w sw (by omega)) hw
 ·exact q
 ·exact absurd (h2 v sv (by omega)) hv
theorem right_ext {K R : Nat} {T : List Int} (h : RuleOk K R T) (hp : unlikeP K T 1 = true) {u : List Int} (hu : Syms K u) (hl : u.length = 2 * R) {y : Int} (y0 : 0 ≤ y) (y1 : y < K) : ∃ s : Int,0 ≤ s ∧ s < K ∧ T.getD (numW K (u ++ [s])) 0 = y:=by
 have h1:=h.k1
 have hn:=numW_lt u hu
 rw [hl] at hn
 have hf:=unlikeP_full hp (numW K u * K) (by rw [h.half.2]; exact Nat.mul_lt_mul_of_pos_right hn (by omega)) (by rw [Nat.div_one,Nat.mul_mod_left])
 obtain ⟨s,hs,he⟩:=fullP_all h1 h.syms hf y.toNat (by omega)
 rw [Nat.mul_one] at he
 refine ⟨s,by omega,by omega,?_⟩
 rw [numW_snoc,Int.toNat_natCast,he]
 omega
theorem left_ext {K R : Nat} {T : List Int} (h : RuleOk K R T) (hp : unlikeP K T (T.length / K) = true) {u : List Int} (hu : Syms K u) (hl : u.length = 2 * R) {y : Int} (y0 : 0 ≤ y) (y1 : y < K) : ∃ s : Int,0 ≤ s ∧ s < K ∧ T.getD (numW K (s :: u)) 0 = y:=by
 obtain ⟨s,s0,s1,e⟩:=right_ext (mirT_ok h) (by rw [(mir_sides h).2]; exact hp) (syms_rev hu) (by rw [List.length_reverse,hl]) y0 y1
 refine ⟨s,s0,s1,?_⟩
 have sw : Syms K (u.reverse ++ [s]):=syms_snoc s0 s1 (syms_rev hu)
 rw [mirT_at h.k1 h.len _ sw (by simp [hl]),List.reverse_append,List.reverse_reverse] at e
 exact e
/-- The first place where two words differ. -/
theorem firstP_ne {a b : List Int} (hl : a.length = b.length) (hne : a ≠ b) : ∃ t,t < a.length ∧ a.getD t 0 ≠ b.getD t 0 ∧ ∀ i,i < t → a.getD i 0 = b.getD i 0:=by
 have key : ∀ n,(∃ t,t ≤ n ∧ t < a.length ∧ a.getD t 0 ≠ b.getD t 0) → ∃ t,t < a.length ∧ a.getD t 0 ≠ b.getD t 0 ∧ ∀ i,i < t → a.getD i 0 = b.getD i 0:=by
  intro n
  induction n with
  | zero => rintro ⟨t,h1,h2,h3⟩; exact ⟨t,h2,h3,fun i hi => by omega⟩
  | succ n ih =>
   rintro ⟨t,h1,h2,h3⟩
   by_cases q : ∃ t,t ≤ n ∧ t < a.length ∧ a.getD t 0 ≠ b.getD t 0
   ·exact ih q
   ·refine ⟨t,h2,h3,fun i hi => Classical.byContradiction fun r => q ⟨i,by omega,by omega,r⟩⟩
 obtain ⟨j,hj,h⟩:=ne_at hl hne
 exact key j ⟨j,Nat.le_refl _,hj,h⟩
theorem right_no_twins {K R : Nat} {T : List Int} (h : RuleOk K R T) (hp : unlikeP K T 1 = true) (a b : List Int) : ¬ IsTwins K R T a b:=fun t => by
 have hw:=(unlike_rightW h).1 hp
 have hl:=t.len
 obtain ⟨i,hi,hne,heq⟩:=firstP_ne hl t.ne
 have hi2 : 2 * R ≤ i:=by
  apply Classical.byContradiction
  intro q
  have e:=congrArg (fun l : List Int => l.getD i 0) t.front
  rw [List.getD_eq_getElem?_getD,List.getD_eq_getElem?_getD,List.getElem?_take,List.getElem?_take,if_pos (by omega),if_pos (by omega),← List.getD_eq_getElem?_getD,← List.getD_eq_getElem?_getD] at e
  exact hne e
 have hu : (a.drop (i - 2 * R)).take (2 * R) = (b.drop (i - 2 * R)).take (2 * R):=ext_getD (by simp only [List.length_take,List.length_drop]; omega) fun k hk => by
  rw [List.length_take,List.length_drop] at hk
  rw [sub_get (by omega),sub_get (by omega)]
  exact heq _ (by omega)
 have win : ∀ c : List Int,c.length = a.length → (c.drop (i - 2 * R)).take (2 * R + 1) = (c.drop (i - 2 * R)).take (2 * R) ++ [c.getD i 0]:=fun c hc => by
  have hk : 2 * R < (c.drop (i - 2 * R)).length:=by rw [List.length_drop]; omega
  rw [List.take_succ_eq_append_getElem hk]
  congr 2
  rw [List.getElem_drop]
  have : i - 2 * R + 2 * R = i:=by omega
  simp [this,List.getD,show i < c.length by omega]
 have e:=congrArg (fun l : List Int => l.getD (i - 2 * R) 0) t.img
 rw [imgP_getD _ _ _ _ _ (by omega),imgP_getD _ _ _ _ _ (by omega),win a rfl,win b hl.symm,hu] at e
 have ga:=getD_syms t.sa hi
 have gb:=getD_syms t.sb (i:=i) (by omega)
 exact hw _ (syms_take (syms_drop t.sb _) _) (by rw [List.length_take,List.length_drop]; omega) _ _ ga.1 ga.2 gb.1 gb.2 hne e
theorem side_no_twins {K R : Nat} {T : List Int} (h : RuleOk K R T) (hp : unlikeP K T (T.length / K) = true ∨ unlikeP K T 1 = true) (a b : List Int) : ¬ IsTwins K R T a b:=fun t => by
 rcases hp with hp | hp
 ·exact right_no_twins (mirT_ok h) (by rw [(mir_sides h).2]; exact hp) _ _ (mir_twins h t)
 ·exact right_no_twins h hp a b t
/-- Words all of whose windows have one answer. -/
def AllAt (K R : Nat) (T : List Int) (z : Int) (x : List Int) : Prop:=∀ j,j + 2 * R < x.length → T.getD (numW K ((x.drop j).take (2 * R + 1))) 0 = z
theorem all_right {K R : Nat} {T : List Int} (h : RuleOk K R T) (hp : unlikeP K T 1 = true) {z : Int} (z0 : 0 ≤ z) (z1 : z < K) {x : List Int} (sx : Syms K x) (hx : AllAt K R T z x) (hl : 2 * R ≤ x.length) : ∃ v : Int,0 ≤ v ∧ v < K ∧ AllAt K R T z (x ++ [v]):=by
 obtain ⟨v,v0,v1,e⟩:=right_ext h hp (u:=x.drop (x.length - 2 * R)) (syms_drop sx _) (by rw [List.length_drop]; omega) z0 z1
 refine ⟨v,v0,v1,fun j hj => ?_⟩
 rw [List.length_append,List.length_singleton] at hj
 by_cases q : j + 2 * R < x.length
 ·rw [List.drop_append_of_le_length (by omega),List.take_append_of_le_length (by rw [List.length_drop]; omega)]
  exact hx j q
 ·obtain rfl : j = x.length - 2 * R:=by omega
  rw [List.drop_append_of_le_length (by omega),List.take_of_length_le (by simp; omega)]
  exact e
theorem all_left {K R : Nat} {T : List Int} (h : RuleOk K R T) (hp : unlikeP K T (T.length / K) = true) {z : Int} (z0 : 0 ≤ z) (z1 : z < K) {x : List Int} (sx : Syms K x) (hx : AllAt K R T z x) (hl : 2 * R ≤ x.length) : ∃ v : Int,0 ≤ v ∧ v < K ∧ AllAt K R T z (v :: x):=by
 obtain ⟨v,v0,v1,e⟩:=left_ext h hp (u:=x.take (2 * R)) (syms_take sx _) (by rw [List.length_take]; omega) z0 z1
 refine ⟨v,v0,v1,fun j hj => ?_⟩
 rw [List.length_cons] at hj
 cases j with
 | zero => rw [List.drop_zero,List.take_succ_cons]; exact e
 | succ j => rw [List.drop_succ_cons]; exact hx j (by omega)
theorem all_word {K R : Nat} {T : List Int} (h : RuleOk K R T) (hl : unlikeP K T (T.length / K) = true) (hr : unlikeP K T 1 = true) (hK : 2 ≤ K) (hR : 1 ≤ R) {z : Int} (z0 : 0 ≤ z) (z1 : z < K) : ∀ L M,∃ x,Syms K x ∧ AllAt K R T z x ∧ x.length = L + 2 * R + M ∧ x.getD L 0 = 1:=by
 intro L
 have left : ∃ x,Syms K x ∧ AllAt K R T z x ∧ x.length = L + 2 * R ∧ x.getD L 0 = 1:=by
  induction L with
  | zero =>
   refine ⟨1 :: List.replicate (2 * R - 1) 0,fun q hq => ?_,fun j hj => ?_,by simp; omega,rfl⟩
   ·rcases List.mem_cons.1 hq with rfl | hq
    ·omega
    ·rw [List.eq_of_mem_replicate hq]; omega
   ·rw [List.length_cons,List.length_replicate] at hj; omega
  | succ L ih =>
   obtain ⟨x,sx,ax,lx,dx⟩:=ih
   obtain ⟨v,v0,v1,av⟩:=all_left h hl z0 z1 sx ax (by omega)
   exact ⟨v :: x,syms_cons v0 v1 sx,av,by simp [lx]; omega,by rw [List.getD_cons_succ]; exact dx⟩
 intro M
 induction M with
 | zero => exact left
 | succ M ih =>
  obtain ⟨x,sx,ax,lx,dx⟩:=ih
  obtain ⟨v,v0,v1,av⟩:=all_right h hr z0 z1 sx ax (by omega)
  refine ⟨x ++ [v],syms_snoc v0 v1 sx,av,by simp [lx]; omega,?_⟩
  rw [← dx]
  simp [List.getD,List.getElem?_append_left (show L < x.length by omega)]
/-- A rule that permutes at both sides is not one to one, but for one symbol or radius 0. -/
theorem sides_not_one {K R : Nat} {T : List Int} (h : RuleOk K R T) (hl : unlikeP K T (T.length / K) = true) (hr : unlikeP K T 1 = true) (hK : 2 ≤ K) (hR : 1 ≤ R) : NotOne K R T:=fun n => by
 have hT : 0 < T.length:=by rw [h.len]; exact pw_pos _ h.k1
 have gz:=getD_syms h.syms hT
 obtain ⟨x,sx,ax,lx,dx⟩:=all_word h hl hr hK hR gz.1 gz.2 n (n + 1)
 have sO : Syms K (List.replicate (2 * n + 1) (0 : Int)):=fun q hq => by rw [List.eq_of_mem_replicate hq]; omega
 refine ⟨x.take (2 * n + 1),List.replicate (2 * n + 1) 0,syms_take sx _,sO,by rw [List.length_take]; omega,by simp,?_,?_⟩
 ·rw [List.getD_eq_getElem?_getD,List.getElem?_take,if_pos (by omega),← List.getD_eq_getElem?_getD,dx]
  simp [List.getD,show n < 2 * n + 1 by omega]
 ·refine ext_getD (by rw [imgP_length,imgP_length,List.length_take]; simp; omega) fun j hj => ?_
  rw [imgP_length,List.length_take] at hj
  rw [imgP_getD _ _ _ _ _ (by rw [List.length_take]; omega),imgP_getD _ _ _ _ _ (by simp; omega)]
  have e1 : ((x.take (2 * n + 1)).drop j).take (2 * R + 1) = (x.drop j).take (2 * R + 1):=by rw [List.drop_take,List.take_take,Nat.min_eq_left (by omega)]
  rw [e1,ax j (by omega),List.drop_replicate,List.take_replicate]
  congr 1
  have key : ∀ m,numW K (List.replicate m (0 : Int)) = 0:=fun m => by
   induction m with
   | zero => rfl
   | succ m ih => rw [List.replicate_succ',numW_snoc,ih]; simp
  exact (key _).symm
open Go.RowKit
set_option maxRecDepth 100000
def sLab : ByteArray:=⟨#[108,97,98]⟩
/-- The report that tells nothing. -/
abbrev zRep : Value:=.agg #[.int .i64 0,.slice none 0 0,.bool false,.bool false,.int .i64 0,.bool false,.slice none 0 0,.bool false,.bool false]
/-- A report's cells. -/
structure Cells9 (w : World) (g : Nat) (v0 v1 v2 v3 v4 v5 v6 v7 v8 : Value) : Prop where
 c0 : w.cell? ⟨g,0,none⟩ = some v0
 c1 : w.cell? ⟨g,1,none⟩ = some v1
 c2 : w.cell? ⟨g,2,none⟩ = some v2
 c3 : w.cell? ⟨g,3,none⟩ = some v3
 c4 : w.cell? ⟨g,4,none⟩ = some v4
 c5 : w.cell? ⟨g,5,none⟩ = some v5
 c6 : w.cell? ⟨g,6,none⟩ = some v6
 c7 : w.cell? ⟨g,7,none⟩ = some v7
 c8 : w.cell? ⟨g,8,none⟩ = some v8
theorem Cells9.below {w w' : World} {g : Nat} {v0 v1 v2 v3 v4 v5 v6 v7 v8 : Value} (h : Cells9 w g v0 v1 v2 v3 v4 v5 v6 v7 v8) (hb : Below w.heap.size w w') : Cells9 w' g v0 v1 v2 v3 v4 v5 v6 v7 v8 :=
 ⟨cell_keep hb h.c0,cell_keep hb h.c1,cell_keep hb h.c2,cell_keep hb h.c3,cell_keep hb h.c4,cell_keep hb h.c5,cell_keep hb h.c6,cell_keep hb h.c7,cell_keep hb h.c8⟩
theorem Cells9.alloc (w : World) (T : TypeId) (v0 v1 v2 v3 v4 v5 v6 v7 v8 : Value) : Cells9 (w.alloc (.cells #[v0,v1,v2,v3,v4,v5,v6,v7,v8] T)) w.heap.size v0 v1 v2 v3 v4 v5 v6 v7 v8:=by
 refine ⟨?_,?_,?_,?_,?_,?_,?_,?_,?_⟩ <;> simp [go_sem]
set_option maxHeartbeats 1000000 in
theorem look_bad (r : Nat → Addr) (k R : Int) (va : Option Addr) (vn vc : Nat) (T : List Int) (t : Int × List (ByteArray × Int)) (w : World) (hg : Glob r w) (h : IntsAt w (.slice va vn vc) T) (hc : smallP k R T = some t) :
 Calls Tryz.prog 23 #[.agg #[.int .i64 k,.int .i64 R,.slice va vn vc]] w (Ret2 (fun x y w' => x = zRep ∧ ErrIs r w' (under sLab 0 (some t)) y) w):=by
 have b0:=belowAlloc w (.cells #[.int .i64 k,.int .i64 R,.slice va vn vc] 24)
 have b1:=belowAlloc (w.alloc (.cells #[.int .i64 k,.int .i64 R,.slice va vn vc] 24)) (.cells #[.int .i64 0,.slice none 0 0,.bool false,.bool false,.int .i64 0,.bool false,.slice none 0 0,.bool false,.bool false] 46)
 have b01:=Below.step b0 b1
 have q : Box3 (w.alloc (.cells #[.int .i64 k,.int .i64 R,.slice va vn vc] 24)) w.heap.size (.int .i64 k) (.int .i64 R) (.slice va vn vc):=by simp [Box3,go_sem]
 replace q:=q.below b1
 obtain ⟨f1,hR1,n42,-⟩:=((Rows.void w.heap.size w).below b0).mkN (42,0) (by simp) 46 9 #[.int .i64 0,.slice none 0 0,.bool false,.bool false,.int .i64 0,.bool false,.slice none 0 0,.bool false,.bool false] rfl
 have hsz : (w.alloc (.cells #[.int .i64 k,.int .i64 R,.slice va vn vc] 24)).heap.size = w.heap.size + 1:=by simp
 rw [hsz] at n42
 obtain ⟨w1,hw1⟩ : ∃ W : World,(w.alloc (.cells #[.int .i64 k,.int .i64 R,.slice va vn vc] 24)).alloc (.cells #[.int .i64 0,.slice none 0 0,.bool false,.bool false,.int .i64 0,.bool false,.slice none 0 0,.bool false,.bool false] 46) = W:=⟨_,rfl⟩
 rw [hw1] at q b01 hR1
 replace hg:=Hd (hg.below b01)
 replace h:=Hd (h.below b01)
 replace hc:=Hd hc
 replace hR1:=Hd hR1
 obtain ⟨o,ho⟩ : ∃ o,w.heap.size + 1 = o:=⟨_,rfl⟩
 rw [ho] at n42
 replace ho:=Hd ho
 replace n42:=Hd n42
 replace hw1:=Hd hw1
 clear b0 b1 hsz
 obtain ⟨⟨z0,z1,z2⟩,-,-,-⟩:=q
 go_enter Tryz.func23,Tryz.ntmps23
 go_upto_region 1 with fail
 rw [hw1.out,ho.out]
 go_wp2_with fail
 refine (small_any r k R va vn vc T w1 hg.out h.out).mono ?_
 rintro e w2 ⟨x,rfl,b2,he⟩
 rw [hc.out] at he
 obtain ⟨T2,p2,rfl⟩:=he.some_shape
 clear z0 z1 z2
 have b12:=Below.step b01 b2
 have hund:=under_any r sLab 0 (some t) _ w2 he
 replace he:=Hd he
 go_wp2_with fail
 refine hund.mono ?_
 rintro e w3 ⟨y,rfl,b3,hy⟩
 clear hund
 have b13:=Below.step b12 b3
 have R3:=(hR1.out.below b2).below b3
 have co0:=R3.cellN n42.out 0 (by decide)
 have cf0:=R3.frzN n42.out 0
 have co1:=R3.cellN n42.out 1 (by decide)
 have cf1:=R3.frzN n42.out 1
 have co2:=R3.cellN n42.out 2 (by decide)
 have cf2:=R3.frzN n42.out 2
 have co3:=R3.cellN n42.out 3 (by decide)
 have cf3:=R3.frzN n42.out 3
 have co4:=R3.cellN n42.out 4 (by decide)
 have cf4:=R3.frzN n42.out 4
 have co5:=R3.cellN n42.out 5 (by decide)
 have cf5:=R3.frzN n42.out 5
 have co6:=R3.cellN n42.out 6 (by decide)
 have cf6:=R3.frzN n42.out 6
 have co7:=R3.cellN n42.out 7 (by decide)
 have cf7:=R3.frzN n42.out 7
 have co8:=R3.cellN n42.out 8 (by decide)
 have cf8:=R3.frzN n42.out 8
 have lo:=(R3.lowN n42.out).1
 have bF:=(((((((((b13.setCell (p:=⟨o,0,none⟩) lo (.int .i64 0)).setCell (p:=⟨o,1,none⟩) lo (.slice none 0 0)).setCell (p:=⟨o,2,none⟩) lo (.bool false)).setCell (p:=⟨o,3,none⟩) lo (.bool false)).setCell (p:=⟨o,4,none⟩) lo (.int .i64 0)).setCell (p:=⟨o,5,none⟩) lo (.bool false)).setCell (p:=⟨o,6,none⟩) lo (.slice none 0 0)).setCell (p:=⟨o,7,none⟩) lo (.bool false)).setCell (p:=⟨o,8,none⟩) lo (.bool false))
 obtain ⟨g0,Q0,m0,-⟩:=R3.stN n42.out 0 (.int .i64 0)
 obtain ⟨g1,Q1,m1,-⟩:=Q0.stN m0 1 (.slice none 0 0)
 obtain ⟨g2,Q2,m2,-⟩:=Q1.stN m1 2 (.bool false)
 obtain ⟨g3,Q3,m3,-⟩:=Q2.stN m2 3 (.bool false)
 obtain ⟨g4,Q4,m4,-⟩:=Q3.stN m3 4 (.int .i64 0)
 obtain ⟨g5,Q5,m5,-⟩:=Q4.stN m4 5 (.bool false)
 obtain ⟨g6,Q6,m6,-⟩:=Q5.stN m5 6 (.slice none 0 0)
 obtain ⟨g7,Q7,m7,-⟩:=Q6.stN m6 7 (.bool false)
 obtain ⟨g8,Q8,m8,-⟩:=Q7.stN m7 8 (.bool false)
 have hyF : ErrIs r (((((((((w3.setCell ⟨o,0,none⟩ (.int .i64 0)).setCell ⟨o,1,none⟩ (.slice none 0 0)).setCell ⟨o,2,none⟩ (.bool false)).setCell ⟨o,3,none⟩ (.bool false)).setCell ⟨o,4,none⟩ (.int .i64 0)).setCell ⟨o,5,none⟩ (.bool false)).setCell ⟨o,6,none⟩ (.slice none 0 0)).setCell ⟨o,7,none⟩ (.bool false)).setCell ⟨o,8,none⟩ (.bool false)) (under sLab 0 (some t)) y:=by
  have cs : ∀ (W : World) (f : Names) (cs : List Value) (c0 : ∀ s,cs[0]? ≠ some (.string s)) (R : Rows w.heap.size W f) (n : f (42,0) = some (boxN 46 9 o cs)) (k : Nat) (u : Value),ErrIs r W (under sLab 0 (some t)) y → ErrIs r (W.setCell ⟨o,k,none⟩ u) (under sLab 0 (some t)) y:=fun W f cs c0 R n k u h => h.set (b:=o) (i:=k) (fun s q => c0 s ((R.cellN n 0 (by decide)).symm.trans q)) u
  exact (cs _ _ _ (by intro s q; simp at q) Q7 m7 8 _ (cs _ _ _ (by intro s q; simp at q) Q6 m6 7 _ (cs _ _ _ (by intro s q; simp at q) Q5 m5 6 _ (cs _ _ _ (by intro s q; simp at q) Q4 m4 5 _ (cs _ _ _ (by intro s q; simp at q) Q3 m3 4 _ (cs _ _ _ (by intro s q; simp at q) Q2 m2 3 _ (cs _ _ _ (by intro s q; simp at q) Q1 m1 2 _ (cs _ _ _ (by intro s q; simp at q) Q0 m0 1 _ (cs _ _ _ (by intro s q; simp at q) R3 n42.out 0 _ hy)))))))))
 obtain ⟨WF,hWF⟩ : ∃ W : World,(((((((((w3.setCell ⟨o,0,none⟩ (.int .i64 0)).setCell ⟨o,1,none⟩ (.slice none 0 0)).setCell ⟨o,2,none⟩ (.bool false)).setCell ⟨o,3,none⟩ (.bool false)).setCell ⟨o,4,none⟩ (.int .i64 0)).setCell ⟨o,5,none⟩ (.bool false)).setCell ⟨o,6,none⟩ (.slice none 0 0)).setCell ⟨o,7,none⟩ (.bool false)).setCell ⟨o,8,none⟩ (.bool false)) = W:=⟨_,rfl⟩
 rw [hWF] at bF hyF Q8
 have cr0:=Hd (Q8.cellN m8 0 (by decide))
 have cr1:=Hd (Q8.cellN m8 1 (by decide))
 have cr2:=Hd (Q8.cellN m8 2 (by decide))
 have cr3:=Hd (Q8.cellN m8 3 (by decide))
 have cr4:=Hd (Q8.cellN m8 4 (by decide))
 have cr5:=Hd (Q8.cellN m8 5 (by decide))
 have cr6:=Hd (Q8.cellN m8 6 (by decide))
 have cr7:=Hd (Q8.cellN m8 7 (by decide))
 have cr8:=Hd (Q8.cellN m8 8 (by decide))
 replace hyF:=Hd hyF
 replace hWF:=Hd hWF
 replace bF:=Hd bF
 clear R3 n42 hR1 hg h hy he Q0 m0 Q1 m1 Q2 m2 Q3 m3 Q4 m4 Q5 m5 Q6 m6 Q7 m7 Q8 m8 b01 b2 b12 b3 b13 lo
 obtain ⟨T3,p3,rfl⟩ : ∃ T a,y = .iface T (.pointer (some a)):=by
  have hh:=hyF.out
  unfold under at hh
  exact hh.some_shape
 go_wp2
 rw [hWF.out]
 exact bodyPost_ret (v:=.tuple #[zRep,.iface T3 (.pointer (some p3))]) (by simp [results,Tryz.results23,go_sem,cr0.out,cr1.out,cr2.out,cr3.out,cr4.out,cr5.out,cr6.out,cr7.out,cr8.out]) rfl ⟨_,_,rfl,bF.out,rfl,hyF.out⟩
/-- A report's kind. -/
def kindB (Y F : Bool) : ByteArray:=if Y = true then ⟨#[114,101,118,101,114,115,105,98,108,101]⟩ else if F = true then ⟨#[111,110,116,111]⟩ else ⟨#[108,111,115,115,121]⟩
theorem kind_any (v0 v1 v4 v5 v6 v7 v8 : Value) (Y F : Bool) (w : World) :
 Calls Tryz.prog 31 #[.agg #[v0,v1,.bool Y,.bool F,v4,v5,v6,v7,v8]] w (Ret1 (fun x _ => x = .string (kindB Y F)) w):=by
 have b0:=belowAlloc w (.cells #[v0,v1,.bool Y,.bool F,v4,v5,v6,v7,v8] 46)
 cases Y <;> cases F <;> (go_enter Tryz.func31,Tryz.ntmps31; go_wp2; go_ret; exact ⟨_,rfl,b0,rfl⟩)
theorem heavy26 (r : Nat → Addr) (k R : Int) (va : Option Addr) (vn vc : Nat) (T : List Int) (w : World) (hg : Glob r w) (h : IntsAt w (.slice va vn vc) T) :
 Calls Tryz.prog 22 #[.agg #[.int .i64 k,.int .i64 R,.slice va vn vc]] w (Ret1 (fun x _ => ∃ b,x = .bool b ∧ (b = true ↔ 64 < T.length ∧ smallP k R T = none)) w):=by
 have b0:=belowAlloc w (.cells #[.int .i64 k,.int .i64 R,.slice va vn vc] 24)
 have q : Box3 (w.alloc (.cells #[.int .i64 k,.int .i64 R,.slice va vn vc] 24)) w.heap.size (.int .i64 k) (.int .i64 R) (.slice va vn vc):=by simp [Box3,go_sem]
 have lT:=h.len
 obtain ⟨tl,htl⟩ : ∃ t,T.length = t:=⟨_,rfl⟩
 rw [htl] at lT ⊢
 replace htl:=Hd htl
 replace hg:=Hd (hg.below b0)
 replace h:=Hd (h.below b0)
 obtain ⟨⟨z0,z1,z2⟩,-,-,-⟩:=q
 by_cases c : 64 < tl
 ·have d : decide (64 < (tl : Int)) = true:=decide_eq_true (by omega)
  have d' : decide ((tl : Int) > 64) = true:=decide_eq_true (by omega)
  go_enter Tryz.func22,Tryz.ntmps22
  go_wp2_with fail
  refine (small_any r k R va vn vc T _ hg.out h.out).mono ?_
  rintro e w1 ⟨x,rfl,b1,he⟩
  have b01:=Below.step b0 b1
  clear z0 z1 z2
  cases hc : smallP k R T with
  | none =>
   rw [hc] at he
   obtain rfl:=he.none_eq
   clear he
   go_wp2
   go_ret
   exact ⟨_,rfl,b01,true,rfl,⟨fun _ => ⟨c,hc⟩,fun _ => rfl⟩⟩
  | some t =>
   rw [hc] at he
   obtain ⟨T4,p4,rfl⟩:=he.some_shape
   clear he
   go_wp2
   go_ret
   exact ⟨_,rfl,b01,false,rfl,⟨fun q => (by cases q),fun q => (by rw [hc] at q; cases q.2)⟩⟩
 ·have d : decide (64 < (tl : Int)) = false:=decide_eq_false (by omega)
  have d' : decide ((tl : Int) > 64) = false:=decide_eq_false (by omega)
  go_enter Tryz.func22,Tryz.ntmps22
  go_wp2
  go_ret
  exact ⟨_,rfl,b0,false,rfl,⟨fun q => (by cases q),fun q => absurd q.1 c⟩⟩
theorem beq_refl_bool (b : Bool) : (b == b) = true:=by cases b <;> rfl
set_option maxHeartbeats 1000000 in
/-- Two reports that tell the same. -/
theorem same_eq (n ρ : Int) (Y F S L P : Bool) (a1 : Option Addr) (a2 a3 : Nat) (b1 : Option Addr) (b2 b3 : Nat) (c1 : Option Addr) (c2 c3 : Nat) (d1 : Option Addr) (d2 d3 : Nat) (l m : List Int) (w : World)
 (hA : IntsAt w (.slice a1 a2 a3) l) (hB : IntsAt w (.slice b1 b2 b3) m) (hC : IntsAt w (.slice c1 c2 c3) l) (hD : IntsAt w (.slice d1 d2 d3) m) :
 Calls Tryz.prog 24 #[.agg #[.int .i64 n,.slice a1 a2 a3,.bool Y,.bool F,.int .i64 ρ,.bool S,.slice b1 b2 b3,.bool L,.bool P],.agg #[.int .i64 n,.slice c1 c2 c3,.bool Y,.bool F,.int .i64 ρ,.bool S,.slice d1 d2 d3,.bool L,.bool P]] w (Ret1 (fun x _ => x = .bool true) w):=by
 have e0:=Below.step (belowAlloc w (.cells #[.int .i64 n,.slice a1 a2 a3,.bool Y,.bool F,.int .i64 ρ,.bool S,.slice b1 b2 b3,.bool L,.bool P] 46)) (belowAlloc _ (.cells #[.int .i64 n,.slice c1 c2 c3,.bool Y,.bool F,.int .i64 ρ,.bool S,.slice d1 d2 d3,.bool L,.bool P] 46))
 have qa:=(Cells9.alloc w 46 (.int .i64 n) (.slice a1 a2 a3) (.bool Y) (.bool F) (.int .i64 ρ) (.bool S) (.slice b1 b2 b3) (.bool L) (.bool P)).below (belowAlloc _ (.cells #[.int .i64 n,.slice c1 c2 c3,.bool Y,.bool F,.int .i64 ρ,.bool S,.slice d1 d2 d3,.bool L,.bool P] 46))
 have qb:=Cells9.alloc (w.alloc (.cells #[.int .i64 n,.slice a1 a2 a3,.bool Y,.bool F,.int .i64 ρ,.bool S,.slice b1 b2 b3,.bool L,.bool P] 46)) 46 (.int .i64 n) (.slice c1 c2 c3) (.bool Y) (.bool F) (.int .i64 ρ) (.bool S) (.slice d1 d2 d3) (.bool L) (.bool P)
 rw [show (w.alloc (.cells #[.int .i64 n,.slice a1 a2 a3,.bool Y,.bool F,.int .i64 ρ,.bool S,.slice b1 b2 b3,.bool L,.bool P] 46)).heap.size = w.heap.size + 1 by simp] at qb
 obtain ⟨w0,hw0⟩ : ∃ W : World,(w.alloc (.cells #[.int .i64 n,.slice a1 a2 a3,.bool Y,.bool F,.int .i64 ρ,.bool S,.slice b1 b2 b3,.bool L,.bool P] 46)).alloc (.cells #[.int .i64 n,.slice c1 c2 c3,.bool Y,.bool F,.int .i64 ρ,.bool S,.slice d1 d2 d3,.bool L,.bool P] 46) = W:=⟨_,rfl⟩
 rw [hw0] at e0 qa qb
 have iA:=ints_any _ _ l l _ (hA.below e0) (hC.below e0)
 replace hB:=Hd (hB.below e0)
 replace hD:=Hd (hD.below e0)
 rw [show decide (l = l) = true from decide_eq_true rfl] at iA
 have y1:=beq_refl_bool Y
 have y2:=beq_refl_bool F
 have y3:=beq_refl_bool S
 have y4:=beq_refl_bool L
 have y5:=beq_refl_bool P
 replace hw0:=Hd hw0
 obtain ⟨z0,z1,z2,z3,z4,z5,z6,z7,z8⟩:=id qa
 obtain ⟨u0,u1,u2,u3,u4,u5,u6,u7,u8⟩:=id qb
 clear hA hC
 go_enter Tryz.func24,Tryz.ntmps24
 go_upto_region 1 with fail
 rw [hw0.out]
 go_wp2_with fail
 refine iA.mono ?_
 rintro e w1 hq
 obtain ⟨rfl,e1⟩:=hq.below
 clear hq iA z0 z1 z2 z3 z4 z5 z6 z7 z8 u0 u1 u2 u3 u4 u5 u6 u7 u8
 obtain ⟨z0,z1,z2,z3,z4,z5,z6,z7,z8⟩:=qa.below e1
 obtain ⟨u0,u1,u2,u3,u4,u5,u6,u7,u8⟩:=qb.below e1
 have iB:=ints_any _ _ m m _ (hB.out.below e1) (hD.out.below e1)
 rw [show decide (m = m) = true from decide_eq_true rfl] at iB
 go_wp2_with fail
 refine iB.mono ?_
 rintro e w2 hq
 obtain ⟨rfl,e2⟩:=hq.below
 clear hq iB z0 z1 z2 z3 z4 z5 z6 z7 z8 u0 u1 u2 u3 u4 u5 u6 u7 u8
 have e12:=Below.step e1 e2
 obtain ⟨z0,z1,z2,z3,z4,z5,z6,z7,z8⟩:=qa.below e12
 obtain ⟨u0,u1,u2,u3,u4,u5,u6,u7,u8⟩:=qb.below e12
 have bE:=Below.step e0 e12
 go_wp2
 go_ret
 exact ⟨_,rfl,bE,rfl⟩
/-- Rule 90. -/
def tab26 : List Int:=[0,1,0,1,1,0,1,0]
theorem tab26_ok : RuleOk 2 1 tab26:=⟨by decide,by decide,by decide,by decide,by intro x hx; simp [tab26] at hx; omega⟩
theorem tab26_u1 : unlikeP 2 tab26 1 = true:=by decide +kernel
theorem tab26_u4 : unlikeP 2 tab26 (tab26.length / 2) = true:=by decide +kernel
theorem tab26_not : NotOne 2 1 tab26:=sides_not_one tab26_ok tab26_u4 tab26_u1 (by decide) (by decide)
theorem tab26_on : ontoN (subR 2 (pw 2 (2 * 1)) tab26) = 1:=by decide +kernel
theorem tab26_rad : radL 2 1 tab26 = -1:=by
 unfold radL
 rw [(invE_ok tab26_ok (by decide)).1 tab26_not,if_neg (by unfold fresh; simp)]
set_option maxHeartbeats 2000000 in
theorem awake26 (r : Nat → Addr) (w : World) (hg : Glob r w) (hG : GlobE w) : Calls Tryz.prog 21 #[] w (Ret1 (fun x _ => x = .bool true) w):=by
 have bl:=belowAlloc w (.cells #[.int .i64 0,.int .i64 1,.int .i64 0,.int .i64 1,.int .i64 1,.int .i64 0,.int .i64 1,.int .i64 0] 3)
 have hlit:=lit_ints w tab26 #[.int .i64 0,.int .i64 1,.int .i64 0,.int .i64 1,.int .i64 1,.int .i64 0,.int .i64 1,.int .i64 0] rfl (by decide)
 replace hg:=hg.below bl
 replace hG:=hG.below bl
 have look:=look_ok r 2 1 (some ⟨w.heap.size,0,none⟩) 8 8 tab26 _ hg hG hlit tab26_ok (by decide)
 clear hlit
 replace hg:=Hd hg
 replace hG:=Hd hG
 go_enter Tryz.func21,Tryz.ntmps21
 go_wp2_with fail
 refine look.mono ?_
 clear look
 rintro e w2 ⟨_,_,rfl,b2,rfl,Y,F,a1,a2,a3,b1,c2,c3,hY,hF,rfl,-,-,-⟩
 obtain rfl : Y = false:=by
  cases Y with
  | false => rfl
  | true => exact absurd tab26_not (hY.1 rfl)
 obtain rfl : F = true:=hF.2 (side_no_twins tab26_ok (.inl tab26_u4))
 rw [tab26_on,tab26_rad,tab26_u4,tab26_u1]
 obtain ⟨S,hS⟩ : ∃ S,isSum 2 1 tab26 = S:=⟨_,rfl⟩
 rw [hS]
 clear hS hY hF
 have b3:=belowAlloc w2 (.cells #[.int .i64 1,.slice a1 a2 a3,.bool false,.bool true,.int .i64 (-1),.bool S,.slice b1 c2 c3,.bool true,.bool true] 46)
 have q:=Cells9.alloc w2 46 (.int .i64 1) (.slice a1 a2 a3) (.bool false) (.bool true) (.int .i64 (-1)) (.bool S) (.slice b1 c2 c3) (.bool true) (.bool true)
 have bE:=Below.step bl (Below.step b2 b3)
 obtain ⟨z0,z1,z2,z3,z4,z5,z6,z7,z8⟩:=q
 go_wp2_with fail
 refine (kind_any _ _ _ _ _ _ _ _ _ _).mono ?_
 rintro e w4 ⟨_,rfl,b4,rfl⟩
 have bF:=Below.step bE b4
 rw [show kindB false true = ⟨#[111,110,116,111]⟩ from rfl]
 go_wp2
 go_ret
 exact ⟨_,rfl,bF,rfl⟩
end Go.Proofs.YtncpnaoabkjegaaGreatDoor
namespace Go.Proofs.YtncpnaoabkjegaaGreatDoor
theorem subStep_short {K N i t : Nat} {T : List Int} {sets : List (List Bool)} {words : List (List Int)} (h : WkOk sets words) (hi : i < sets.length) :
 (∀ w,subStep K N T i t sets words = .orphan w → w.length ≤ 4097) ∧ ∀ a b,subStep K N T i t sets words = .on a b → WkOk a b ∧ sets.length ≤ a.length:=by
 rw [← wkStep_sub]
 refine ⟨fun w e => ?_,fun a b e => ?_⟩
 ·unfold wkStep at e
  split at e
  ·rw [if_pos rfl] at e
   injection e with e
   subst e
   have:=h.short i
   have:=h.small
   rw [List.length_append,List.length_singleton]; omega
  ·split at e
   ·cases e
   ·split at e <;> cases e
 ·cases hs : wkStep true K N T i t sets words with
  | on a' b' id =>
   rw [hs] at e
   injection e with e1 e2
   subst e1; subst e2
   exact wkStep_ok h hi hs
  | orphan w => rw [hs] at e; cases e
  | big => rw [hs] at e; cases e
theorem subRow_short {K N i : Nat} {T : List Int} : ∀ (m t : Nat) (sets : List (List Bool)) (words : List (List Int)),WkOk sets words → i < sets.length →
 (∀ w,subRow K N T i m t sets words = .orphan w → w.length ≤ 4097) ∧ ∀ a b,subRow K N T i m t sets words = .on a b → WkOk a b ∧ sets.length ≤ a.length
 | 0,_,sets,words,h,_ => ⟨fun w e => (by cases e),fun a b e => (by
  injection (show SubR.on sets words = SubR.on a b from e) with e1 e2
  subst e1; subst e2; exact ⟨h,Nat.le_refl _⟩)⟩
 | m + 1,t,sets,words,h,hi => by
  obtain ⟨h1,h2⟩:=subStep_short (K:=K) (N:=N) (T:=T) (t:=t) h hi
  unfold subRow
  cases hs : subStep K N T i t sets words with
  | on a b =>
   obtain ⟨k,l⟩:=h2 a b hs
   obtain ⟨g1,g2⟩:=subRow_short m (t + 1) a b k (by omega) (K:=K) (N:=N) (T:=T) (i:=i)
   exact ⟨g1,fun c d e => ⟨(g2 c d e).1,Nat.le_trans l (g2 c d e).2⟩⟩
  | orphan w => exact ⟨fun v e => (by injection e with e; subst e; exact h1 w hs),fun a b e => (by cases e)⟩
  | big => exact ⟨fun v e => (by cases e),fun a b e => (by cases e)⟩
theorem subGo_short {K N : Nat} {T : List Int} : ∀ (f i : Nat) (sets : List (List Bool)) (words : List (List Int)),WkOk sets words → ∀ w,subGo K N T f i sets words = .orphan w → w.length ≤ 4097
 | 0,_,_,_,_,w,e => by cases e
 | f + 1,i,sets,words,h,w,e => by
  unfold subGo at e
  by_cases hi : i < sets.length
  ·rw [if_pos hi] at e
   obtain ⟨h1,h2⟩:=subRow_short (K:=K) (N:=N) (T:=T) (i:=i) K 0 sets words h hi
   cases hs : subRow K N T i K 0 sets words with
   | on a b => rw [hs] at e; exact subGo_short f (i + 1) a b (h2 a b hs).1 w e
   | orphan v => rw [hs] at e; injection e with e; subst e; exact h1 v hs
   | big => rw [hs] at e; cases e
  ·rw [if_neg hi] at e; cases e
/-- An orphan that is told. -/
theorem sub_short {K N : Nat} {T : List Int} {w : List Int} (h : subR K N T = .orphan w) : w.length ≤ 4097:=subGo_short 4097 0 _ _ (WkOk.init N) w h
open Go.RowKit
set_option maxRecDepth 100000
/-- The sum of both neighbours. -/
def xT : List Int:=[0,1,0,1,1,0,1,0]
/-- Apart, called with a literal list of lists in any order. -/
theorem apart_litK (vs : List Value) (xs : List (List Int)) (lo : Nat) (w : World) (h : Kin w lo vs xs) (hlo : lo ≤ w.heap.size) (hn : vs.length ≤ 1000) (hx : ∀ x ∈ xs,x.length ≤ 1099511627776) (cs : Array Value) (hcs : cs.toList = vs) (n : Nat) (hnn : n = vs.length) :
 Calls Tryz.prog 25 #[.slice (some ⟨w.heap.size,0,none⟩) n n] (w.alloc (.cells cs 22)) fun e w' => e = .returned (.bool true) ∧ Below lo (w.alloc (.cells cs 22)) w':=by
 subst hnn
 have hs : cs.size = vs.length * 1:=by rw [← Array.length_toList,hcs]; simp
 have hm : vs.length ≤ maxLen:=by unfold maxLen; omega
 have hv : ValsAt (w.alloc (.cells cs 22)) (.slice (some ⟨w.heap.size,0,none⟩) vs.length vs.length) vs:=by
  have:=World.ownsRow_lit (base:=0) (e:=22) (size:=1) w cs vs.length (Nat.zero_le _) hm hs
  rw [hcs] at this
  exact OwnV.at (E:=22) (B:=0) this
 refine apart_kin _ vs xs lo _ (h.of_kept fun t ht ho => ho.alloc _) hv hn hx (by simp; omega) (fun i t hi ht e => ?_)
 rw [valAt_row] at e
 have:=((h.own t ht).lt _ e).2
 simp at this
theorem apart_sym {x y : Option Nat} (h : x = none ∨ x ≠ y) : y = none ∨ y ≠ x:=by
 rcases h with h | h
 ·cases y with
  | none => exact .inl rfl
  | some y => rw [h]; exact .inr (by simp)
 ·exact .inr fun e => h e.symm
theorem Kin.four {w : World} {lo mid : Nat} {a b c d : Value} {p q x y : List Int} (hA : OwnI lo w a p) (hB : OwnI lo w b q) (hC : OwnI mid w c x) (hD : OwnI mid w d y) (hlm : lo ≤ mid)
 (kA : ∀ k,a.ownBlock = some k → k < mid) (kB : ∀ k,b.ownBlock = some k → k < mid) (dAB : a.ownBlock = none ∨ a.ownBlock ≠ b.ownBlock) (dCD : c.ownBlock = none ∨ c.ownBlock ≠ d.ownBlock) :
 Kin w lo [a,b,c,d] [p,q,x,y]:=by
 have far : ∀ (u v : Value) (z : List Int),(∀ k,u.ownBlock = some k → k < mid) → OwnI mid w v z → u.ownBlock = none ∨ u.ownBlock ≠ v.ownBlock:=fun u v z hu hv => by
  cases e : u.ownBlock with
  | none => exact .inl rfl
  | some k =>
   refine .inr fun e2 => ?_
   have h1:=hu k e
   have h2:=(hv.lt k e2.symm).1
   omega
 have ac:=far a c x kA hC
 have ad:=far a d y kA hD
 have bc:=far b c x kB hC
 have bd:=far b d y kB hD
 refine ⟨rfl,fun t ht => ?_,fun s t hs ht hne => ?_⟩
 ·have : t = 0 ∨ t = 1 ∨ t = 2 ∨ t = 3:=by simp at ht; omega
  rcases this with rfl | rfl | rfl | rfl
  ·exact hA
  ·exact hB
  ·exact hC.mono hlm
  ·exact hD.mono hlm
 ·have h1 : s = 0 ∨ s = 1 ∨ s = 2 ∨ s = 3:=by simp at hs; omega
  have h2 : t = 0 ∨ t = 1 ∨ t = 2 ∨ t = 3:=by simp at ht; omega
  rcases h1 with rfl | rfl | rfl | rfl <;> rcases h2 with rfl | rfl | rfl | rfl
  ·exact absurd rfl hne
  ·exact dAB
  ·exact ac
  ·exact ad
  ·exact apart_sym dAB
  ·exact absurd rfl hne
  ·exact bc
  ·exact bd
  ·exact apart_sym ac
  ·exact apart_sym bc
  ·exact absurd rfl hne
  ·exact dCD
  ·exact apart_sym ad
  ·exact apart_sym bd
  ·exact apart_sym dCD
  ·exact absurd rfl hne
theorem FinPost.two {w w1 u u1 : World} {K R : Nat} {T : List Int} {y a b e z c d f : Value} (h : FinPost w K R T y a b e w1) (k : FinPost u K R T z c d f u1) :
 e = .nilIface ∧ f = .nilIface ∧ y = z ∧ ∃ p q,p.length ≤ 20010 ∧ q.length ≤ 20010 ∧ OwnI w.heap.size w1 a p ∧ OwnI w.heap.size w1 b q ∧ OwnI u.heap.size u1 c p ∧ OwnI u.heap.size u1 d q ∧
  (a.ownBlock = none ∨ a.ownBlock ≠ b.ownBlock) ∧ (c.ownBlock = none ∨ c.ownBlock ≠ d.ownBlock):=by
 obtain ⟨rfl,h⟩:=h
 obtain ⟨rfl,k⟩:=k
 refine ⟨rfl,rfl,?_⟩
 rcases h with ⟨rfl,rfl,rfl,hno⟩ | ⟨rfl,p,q,hf,ht,-,hl,hoa,hob,hd⟩ <;> rcases k with ⟨rfl,rfl,rfl,kno⟩ | ⟨rfl,p',q',kf,kt,-,kl,koa,kob,kd⟩
 ·exact ⟨rfl,[],[],by simp,by simp,OwnI.nil _ _,OwnI.nil _ _,OwnI.nil _ _,OwnI.nil _ _,.inl rfl,.inl rfl⟩
 ·exact absurd kt (hno _ _)
 ·exact absurd ht (kno _ _)
 ·obtain ⟨rfl,rfl⟩:=hf.unique kf
  exact ⟨rfl,p,q,hl,by rw [← ht.len]; exact hl,hoa,hob,koa,kob,hd,kd⟩
theorem iff_bool {Y Z : Bool} {p : Prop} (h : Y = true ↔ p) (k : Z = true ↔ p) : Y = Z:=by
 cases Y <;> cases Z
 ·rfl
 ·exact absurd (h.2 (k.1 rfl)) (by decide)
 ·exact absurd (k.2 (h.1 rfl)) (by decide)
 ·rfl
theorem orphL_len (K N : Nat) (T : List Int) : (orphL (subR K N T)).length ≤ 4097:=by
 cases h : subR K N T with
 | on _ _ => exact Nat.zero_le _
 | orphan w => exact sub_short h
 | big => exact Nat.zero_le _
theorem facR_len (K R : Nat) (T : List Int) : (facR K R T).length ≤ 2 * R + 1:=by
 unfold facR
 split
 ·rw [facs_length]; exact Nat.le_refl _
 ·exact Nat.zero_le _
set_option maxHeartbeats 4000000 in
theorem labKeeps_bad (r : Nat → Addr) (k R : Int) (va : Option Addr) (vn vc : Nat) (T : List Int) (w : World) (hg : Glob r w) (hG : GlobE w) (h : IntsAt w (.slice va vn vc) T) (t : Int × List (ByteArray × Int)) (hc : smallP k R T = some t) :
 Calls Tryz.prog 5 #[.agg #[.int .i64 k,.int .i64 R,.slice va vn vc]] w (Ret1 (fun x _ => x = .bool true) w):=by
 have b0:=belowAlloc w (.cells #[.int .i64 k,.int .i64 R,.slice va vn vc] 24)
 have q : Box3 (w.alloc (.cells #[.int .i64 k,.int .i64 R,.slice va vn vc] 24)) w.heap.size (.int .i64 k) (.int .i64 R) (.slice va vn vc):=by simp [Box3,go_sem]
 replace hg:=Hd (hg.below b0)
 replace hG:=Hd (hG.below b0)
 replace h:=Hd (h.below b0)
 replace hc:=Hd hc
 go_enter Tryz.func5,Tryz.ntmps5
 go_wp2_with fail
 refine (awake26 r _ hg.out hG.out).mono ?_
 rintro e w1 ⟨_,rfl,b1,rfl⟩
 obtain ⟨⟨q_0,q_1,q_2⟩,-,-,-⟩:=(q.below b1)
 go_wp2_with fail
 refine (heavy26 r k R va vn vc T _ (hg.out.below b1) (h.out.below b1)).mono ?_
 rintro e w2 ⟨_,rfl,b2,hv,rfl,hvi⟩
 clear q_0 q_1 q_2
 obtain rfl : hv = false:=by
  cases hv with
  | false => rfl
  | true => have:=(hvi.1 rfl).2; rw [hc.out] at this; cases this
 clear hvi
 have c0_2:=Below.step b1 b2
 obtain ⟨⟨q_0,q_1,q_2⟩,-,-,-⟩:=(q.below c0_2)
 go_wp2_with fail
 refine (look_bad r k R va vn vc T t _ (hg.out.below c0_2) (h.out.below c0_2) hc.out).mono ?_
 rintro e w3 ⟨_,y3,rfl,b3,rfl,he3⟩
 obtain ⟨T3,p3,rfl⟩ : ∃ T a,y3 = .iface T (.pointer (some a)):=by
  unfold under at he3
  exact he3.some_shape
 clear he3
 clear q_0 q_1 q_2
 have al3:=(belowAlloc w3 (.cells #[.int .i64 0,.slice none 0 0,.bool false,.bool false,.int .i64 0,.bool false,.slice none 0 0,.bool false,.bool false] 46))
 have d3:=Below.step b3 al3
 have c0_3:=Below.step c0_2 d3
 obtain ⟨⟨q_0,q_1,q_2⟩,-,-,-⟩:=(q.below c0_3)
 go_wp2_with fail
 refine (look_bad r k R va vn vc T t _ (hg.out.below c0_3) (h.out.below c0_3) hc.out).mono ?_
 rintro e w4 ⟨_,y4,rfl,b4,rfl,he4⟩
 obtain ⟨T4,p4,rfl⟩ : ∃ T a,y4 = .iface T (.pointer (some a)):=by
  unfold under at he4
  exact he4.some_shape
 clear he4
 clear q_0 q_1 q_2
 have al4:=(belowAlloc w4 (.cells #[.int .i64 0,.slice none 0 0,.bool false,.bool false,.int .i64 0,.bool false,.slice none 0 0,.bool false,.bool false] 46))
 have d4:=Below.step b4 al4
 have c0_4:=Below.step c0_3 d4
 have bE:=Below.step b0 c0_4
 go_wp2
 go_ret
 exact ⟨_,rfl,bE,rfl⟩
set_option maxHeartbeats 4000000 in
theorem labKeeps_ok (r : Nat → Addr) (K R : Nat) (va : Option Addr) (vn vc : Nat) (T : List Int) (w : World) (hg : Glob r w) (hG : GlobE w) (h : IntsAt w (.slice va vn vc) T) (hr : RuleOk K R T) (hl : T.length ≤ 256) :
 Calls Tryz.prog 5 #[.agg #[.int .i64 K,.int .i64 R,.slice va vn vc]] w (Ret1 (fun x _ => x = .bool true) w):=by
 have b0:=belowAlloc w (.cells #[.int .i64 K,.int .i64 R,.slice va vn vc] 24)
 have q : Box3 (w.alloc (.cells #[.int .i64 K,.int .i64 R,.slice va vn vc] 24)) w.heap.size (.int .i64 K) (.int .i64 R) (.slice va vn vc):=by simp [Box3,go_sem]
 replace hg:=Hd (hg.below b0)
 replace hG:=Hd (hG.below b0)
 replace h:=Hd (h.below b0)
 have hol:=orphL_len K (pw K (2 * R)) T
 have hfl:=facR_len K R T
 have hR3:=hr.r3
 replace hr:=Hd hr
 replace hol:=Hd hol
 replace hfl:=Hd hfl
 go_enter Tryz.func5,Tryz.ntmps5
 go_wp2_with fail
 refine (awake26 r _ hg.out hG.out).mono ?_
 rintro e w1 ⟨_,rfl,b1,rfl⟩
 obtain ⟨⟨q_0,q_1,q_2⟩,-,-,-⟩:=(q.below b1)
 go_wp2_with fail
 refine (heavy26 r K R va vn vc T _ (hg.out.below b1) (h.out.below b1)).mono ?_
 rintro e w2 ⟨_,rfl,b2,hv,rfl,hvi⟩
 clear q_0 q_1 q_2
 clear hvi
 cases hv with
 | true =>
  have c0_2:=Below.step b1 b2
  have bE:=Below.step b0 c0_2
  go_wp2
  go_ret
  exact ⟨_,rfl,bE,rfl⟩
 | false =>
  have c0_2:=Below.step b1 b2
  obtain ⟨⟨q_0,q_1,q_2⟩,-,-,-⟩:=(q.below c0_2)
  go_wp2_with fail
  refine (look_ok r K R va vn vc T _ (hg.out.below c0_2) (hG.out.below c0_2) (h.out.below c0_2) hr.out hl).mono ?_
  rintro e w3 ⟨_,_,rfl,b3,rfl,Y3,F3,oa3,on3,oc3,fa3,fn3,fc3,hY3,hF3,rfl,hA3,hB3,hD3⟩
  clear q_0 q_1 q_2
  obtain ⟨N,hN⟩ : ∃ N,ontoN (subR K (pw K (2 * R)) T) = N:=⟨_,rfl⟩
  obtain ⟨X,hX⟩ : ∃ N,radL K R T = N:=⟨_,rfl⟩
  obtain ⟨Z,hZ⟩ : ∃ N,isSum K R T = N:=⟨_,rfl⟩
  obtain ⟨L,hL⟩ : ∃ N,unlikeP K T (T.length / K) = N:=⟨_,rfl⟩
  obtain ⟨P,hP⟩ : ∃ N,unlikeP K T 1 = N:=⟨_,rfl⟩
  obtain ⟨ol,hol2⟩ : ∃ N,orphL (subR K (pw K (2 * R)) T) = N:=⟨_,rfl⟩
  obtain ⟨fl,hfl2⟩ : ∃ N,facR K R T = N:=⟨_,rfl⟩
  rw [hol2] at hA3
  rw [hfl2] at hB3
  replace hY3:=Hd hY3
  replace hF3:=Hd hF3
  rw [hN,hX,hZ,hL,hP]
  replace hN:=Hd hN
  replace hX:=Hd hX
  replace hZ:=Hd hZ
  replace hL:=Hd hL
  replace hP:=Hd hP
  replace hol2:=Hd hol2
  replace hfl2:=Hd hfl2
  have al3:=(belowAlloc w3 (.cells #[.int .i64 N,.slice oa3 on3 oc3,.bool Y3,.bool F3,.int .i64 X,.bool Z,.slice fa3 fn3 fc3,.bool L,.bool P] 46))
  have d3:=Below.step b3 al3
  have u3:=Cells9.alloc w3 46 (.int .i64 N) (.slice oa3 on3 oc3) (.bool Y3) (.bool F3) (.int .i64 X) (.bool Z) (.slice fa3 fn3 fc3) (.bool L) (.bool P)
  replace hA3:=hA3.below al3
  replace hB3:=hB3.below al3
  replace hA3:=Hd hA3
  replace hB3:=Hd hB3
  replace hD3:=Hd hD3
  have c0_3:=Below.step c0_2 d3
  obtain ⟨⟨q_0,q_1,q_2⟩,-,-,-⟩:=(q.below c0_3)
  go_wp2_with fail
  refine (look_ok r K R va vn vc T _ (hg.out.below c0_3) (hG.out.below c0_3) (h.out.below c0_3) hr.out hl).mono ?_
  rintro e w4 ⟨_,_,rfl,b4,rfl,Y4,F4,oa4,on4,oc4,fa4,fn4,fc4,hY4,hF4,rfl,hA4,hB4,hD4⟩
  clear q_0 q_1 q_2
  rw [iff_bool hY4 hY3.out,iff_bool hF4 hF3.out,hN.out,hX.out,hZ.out,hL.out,hP.out]
  clear hY4 hF4
  rw [hol2.out] at hA4
  rw [hfl2.out] at hB4
  have al4:=(belowAlloc w4 (.cells #[.int .i64 N,.slice oa4 on4 oc4,.bool Y3,.bool F3,.int .i64 X,.bool Z,.slice fa4 fn4 fc4,.bool L,.bool P] 46))
  have d4:=Below.step b4 al4
  have u4:=Cells9.alloc w4 46 (.int .i64 N) (.slice oa4 on4 oc4) (.bool Y3) (.bool F3) (.int .i64 X) (.bool Z) (.slice fa4 fn4 fc4) (.bool L) (.bool P)
  replace hA4:=hA4.below al4
  replace hB4:=hB4.below al4
  replace hA4:=Hd hA4
  replace hB4:=Hd hB4
  replace hD4:=Hd hD4
  obtain ⟨u3_0,u3_1,u3_2,u3_3,u3_4,u3_5,u3_6,u3_7,u3_8⟩:=(u3.below d4)
  obtain ⟨u4_0,u4_1,u4_2,u4_3,u4_4,u4_5,u4_6,u4_7,u4_8⟩:=id u4
  have hsame:=same_eq N X Y3 F3 Z L P oa3 on3 oc3 fa3 fn3 fc3 oa4 on4 oc4 fa4 fn4 fc4 ol fl _ (hA3.out.at.below d4) (hB3.out.at.below d4) hA4.out.at hB4.out.at
  go_wp2_with fail
  refine (hsame).mono ?_
  rintro e w5 ⟨_,rfl,b5,rfl⟩
  clear hsame
  clear u3_0 u3_1 u3_2 u3_3 u3_4 u3_5 u3_6 u3_7 u3_8 u4_0 u4_1 u4_2 u4_3 u4_4 u4_5 u4_6 u4_7 u4_8
  have c3_5:=Below.step d4 b5
  obtain ⟨u3_0,u3_1,u3_2,u3_3,u3_4,u3_5,u3_6,u3_7,u3_8⟩:=(u3.below c3_5)
  obtain ⟨u4_0,u4_1,u4_2,u4_3,u4_4,u4_5,u4_6,u4_7,u4_8⟩:=(u4.below b5)
  have hk:=Kin.four (hA3.out.below c3_5) (hB3.out.below c3_5) (hA4.out.below b5) (hB4.out.below b5) (Nat.le_trans b3.size al3.size) (fun k hk => (hA3.out.lt k hk).2) (fun k hk => (hB3.out.lt k hk).2) hD3.out hD4.out
  have c2_4:=Below.step d3 d4
  have c2_5:=Below.step c2_4 b5
  have hap:=apart_litK [.slice oa3 on3 oc3,.slice fa3 fn3 fc3,.slice oa4 on4 oc4,.slice fa4 fn4 fc4] [ol,fl,ol,fl] _ w5 hk c2_5.size (by simp) (by intro x hx; have a1:=hol.out; have a2:=hfl.out; rw [hol2.out] at a1; rw [hfl2.out] at a2; simp at hx; rcases hx with rfl | rfl | rfl | rfl <;> omega) #[.slice oa3 on3 oc3,.slice fa3 fn3 fc3,.slice oa4 on4 oc4,.slice fa4 fn4 fc4] rfl 4 rfl
  replace hk:=Hd hk
  have c0_4:=Below.step c0_3 d4
  have c0_5:=Below.step c0_4 b5
  have b5':=Below.step b0 c0_5
  have s02:=(Below.step b0 c0_2).size
  go_wp2_with fail
  refine hap.mono ?_
  rintro e w6 ⟨rfl,b6⟩
  clear u3_0 u3_1 u3_2 u3_3 u3_4 u3_5 u3_6 u3_7 u3_8 u4_0 u4_1 u4_2 u4_3 u4_4 u4_5 u4_6 u4_7 u4_8
  have bE:=(Below.step b5' (belowAlloc w5 (.cells #[.slice oa3 on3 oc3,.slice fa3 fn3 fc3,.slice oa4 on4 oc4,.slice fa4 fn4 fc4] 22))).trans (b6.mono s02)
  go_wp2
  go_ret
  exact ⟨_,rfl,bE,rfl⟩
/-- Any rule. -/
theorem labKeeps_any (r : Nat → Addr) (k R : Int) (v : Value) (T : List Int) (w : World) (hg : Glob r w) (hG : GlobE w) (h : IntsAt w v T) :
 Calls Tryz.prog 5 #[.agg #[.int .i64 k,.int .i64 R,v]] w (Ret1 (fun x _ => x = .bool true) w):=by
 obtain ⟨va,vn,vc,rfl⟩:=h.shape
 cases hc : smallP k R T with
 | some t => exact labKeeps_bad r k R va vn vc T w hg hG h t hc
 | none =>
  obtain ⟨K,Q,rfl,rfl,hr,hl⟩:=smallP_of hc
  exact labKeeps_ok r K Q va vn vc T w hg hG h hr hl
end Go.Proofs.YtncpnaoabkjegaaGreatDoor
namespace Go.Proofs.YtncpnaoabkjegaaGreatDoor
open Go.ChangeShapes Go.WideShapes Go.ChangeAt Go.RowKit Go.Joins
set_option maxRecDepth 100000
theorem own : ownKnob Tryz.prog.godebug = none:=by kernel_rfl
theorem laidOut : laidOutB Tryz.prog = true:=by kernel_rfl
theorem cellsInt : Tryz.prog.cellsOf 3 = 1:=by kernel_rfl
theorem uInt : Tryz.prog.underlying 3 = some (.int .i64):=by kernel_rfl
theorem bytesInt : Tryz.prog.bytesOf 3 = 8:=by kernel_rfl
theorem i64_of_wf {n : Int} (h : (Lit.int .i64 n).wf = true) : I64 n:=by
 have:=bounds_i64 h
 unfold I64
 omega
/-- A []int that came in. -/
theorem open_intsV {H : Type} {enc : TypeId × Value → H} {W : World} {held : Bool} {fuel : Nat} {v : Value} {y : DataW H × List MemPlace}
 (h : DataW.trod enc Tryz.prog W 0 (fun _ => true) held fuel 22 [v] = some y) (hw : ∀ n ∈ y.1.weights Tryz.prog 22,n ≤ reachBytes) :
 ∃ xs,IntsAt W v xs ∧ xs.length ≤ 17592186043904 ∧ ∀ x ∈ xs,I64 x:=by
 rcases open_ints uInts uInt cellsInt h with ⟨hcs,_⟩ | ⟨a,len,cap,zs,hcs,_,hl,hm,hz,hx,hcell,hwz⟩
 ·simp at hcs
  subst hcs
  exact ⟨[],(OwnI.nil 0 W).at,by simp,by simp⟩
 ·simp at hcs
  subst hcs
  simp only [if_true] at hz
  have hzl : (zs.take len).length = len:=by simp; omega
  refine ⟨zs.take len,⟨some a,cap,by rw [hzl],by rw [hzl]; exact hl,hm,(fun e => by cases e),fun i hi => ?_⟩,?_,fun x hx => i64_of_wf (hwz x (List.mem_of_mem_take hx))⟩
  ·have hi' : i < zs.length:=by rw [hzl] at hi; omega
   show W.cell? (a.add i) = _
   rw [hcell i hi']
   simp [List.getD,hi']
  ·rw [hx] at hw
   have:=hw ((lits (H:=H) .i64 (zs.take len)).length * 8 + (lits (H:=H) .i64 (zs.drop len)).length * 8) (by
    simp only [DataW.weights,uInts,bytesInt,List.mem_cons]
    left; omega)
   simp only [lits,List.length_map,reachBytes] at this
   omega
theorem weights_each3 {H : Type} {t0 t1 t2 : TypeId} {y0 y1 y2 : DataW H} {n : Nat} (h : n ∈ y2.weights Tryz.prog t2) : n ∈ DataW.weightsEach Tryz.prog [t0,t1,t2] [y0,y1,y2]:=by
 simp only [DataW.weightsEach,List.mem_append]
 exact .inr (.inr (.inl h))
/-- A rule that came in. -/
theorem open_ruleV {H : Type} {enc : TypeId × Value → H} {W : World} {held : Bool} {v : Value} {d : DataW H} {p : List MemPlace} {b0 : Nat}
 (hv : Value.okWide Tryz.prog W .any b0 24 v) (h : DataW.Trod enc Tryz.prog W 0 (fun _ => true) held 24 v d p) (hw : ∀ n ∈ d.weights Tryz.prog 24,n ≤ reachBytes) :
 ∃ (k R : Int) (u : Value) (xs : List Int),v = .agg #[.int .i64 k,.int .i64 R,u] ∧ IntsAt W u xs ∧ xs.length ≤ 17592186043904 ∧ (∀ x ∈ xs,I64 x) ∧ I64 k ∧ I64 R:=by
 obtain ⟨v0,v1,v2,y0,y1,y2,n,rfl,rfl,rfl,h0,h1,h2⟩:=open_agg3 Tryz.underlying24 (by kernel_rfl) (by kernel_rfl) hv h
 obtain ⟨a,e0,_,wa⟩:=DataW.trod_int uInt h0
 obtain ⟨b,e1,_,wb⟩:=DataW.trod_int uInt h1
 simp at e0 e1
 subst e0 e1
 obtain ⟨xs,hx,hl,hb⟩:=open_intsV h2 fun n hn => hw n (by
  simp only [DataW.weights,Tryz.underlying24]
  exact weights_each3 (t0:=3) (t1:=3) (t2:=22) hn)
 exact ⟨a,b,v2,xs,rfl,hx,hl,hb,i64_of_wf wa,i64_of_wf wb⟩
/-! The package-level errors. -/
theorem star : "*" ++ "errors.errorString" = "*errors.errorString" := by decide
theorem rowES (u : TypeId) (h : Tryz.prog.typeName? 3 u = some "*errors.errorString") : u = 322 :=
 typeName_ptr_named (nm := "errors.errorString") (by rw [star]; kernel_rfl) (by kernel_rfl) (by decide) u (by rw [star]; exact h)
theorem pES : Tryz.prog.underlying 322 = some (.pointer 340):=by kernel_rfl
theorem cES : Tryz.prog.cellsOf 340 = 1:=by kernel_rfl
theorem cStr : Tryz.prog.cellsOf 9 = 1:=by kernel_rfl
def laid12 : List (String × DataW Unit) := [("eden/api.BadRule", Rows.laid_eden_api_BadRule), ("eden/api.BadWord", Rows.laid_eden_api_BadWord), ("eden/api.BadArg", Rows.laid_eden_api_BadArg), ("eden/api.TooBig", Rows.laid_eden_api_TooBig), ("eden/api.NoBudget", Rows.laid_eden_api_NoBudget), ("eden/api.BadText", Rows.laid_eden_api_BadText), ("eden/api.BadPatch", Rows.laid_eden_api_BadPatch), ("eden/api.BadCert", Rows.laid_eden_api_BadCert), ("eden/api.NoInverse", Rows.laid_eden_api_NoInverse), ("eden/api.BadLine", Rows.laid_eden_api_BadLine), ("eden/api.BadState", Rows.laid_eden_api_BadState), ("eden/api.Unknown", Rows.laid_eden_api_Unknown)]
theorem sentinel {n : String} {text : List UInt8} {r : List (String × DataW Unit)} {W : World} {g : Nat}
 (h : laidMet Tryz.prog ((n, .iface "*errors.errorString" (.ptr (.agg [.lit (.string text)]))) :: r) W)
 (hg : Tryz.prog.globalNamed n = some g) (ht : (Tryz.prog.globals[g]?).map (·.type) = some 27) :
 (∃ a : Addr,W.cell? ⟨g,0,none⟩ = some (.iface 322 (.pointer (some a))) ∧ ∃ s,W.cell? a = some (.string s) ∧ s.data.toList = text ∧ ∃ c t,W.heap[a.block]? = some (.cells c t (0,0))) ∧ laidMet Tryz.prog r W:=by
 refine ⟨?_,h.tail⟩
 obtain ⟨ps,⟨g0,t0,cs0,f0,p0,q0,hg0,ht0,hv0,hd0,_,e0⟩,_,hrows⟩:=h
 obtain rfl:=Option.some.inj (hg.symm.trans hg0)
 obtain rfl:=Option.some.inj (ht.symm.trans ht0)
 subst e0
 obtain ⟨l0⟩:=cs0
 have ok0 : ∀ u v,l0 = [.iface u v] → Value.okWide Tryz.prog W .any 0 u v:=fun u v e => by
  subst e
  exact (hrows g 0 (by simp [MemPlace.row])).2 u v (by simpa using World.var?_cell hg hv0 0)
 obtain ⟨a0,s0,rfl,hc0,hs0,hz0,rfl⟩:=errorString_of_trod Tryz.underlying27 rowES pES Tryz.underlying340 rfl rfl Tryz.underlying9 cES cStr hd0 ok0
 exact ⟨a0,by simpa using World.var?_cell hg hv0 0,s0,hc0,hs0,(hrows a0.block a0.off (by simp [MemPlace.row])).1⟩
def txt : Nat → List UInt8
 | 1 => [98,97,100,32,114,117,108,101]
 | 2 => [98,97,100,32,119,111,114,100]
 | 3 => [98,97,100,32,97,114,103,117,109,101,110,116]
 | 4 => [116,111,111,32,98,105,103]
 | 5 => [110,111,32,98,117,100,103,101,116]
 | 6 => [98,97,100,32,116,101,120,116]
 | 7 => [98,97,100,32,112,97,116,99,104]
 | 8 => [98,97,100,32,99,101,114,116,105,102,105,99,97,116,101]
 | 9 => [110,111,32,105,110,118,101,114,115,101]
 | 10 => [98,97,100,32,108,105,110,101]
 | 11 => [98,97,100,32,115,116,97,116,101]
 | 99 => [117,110,107,110,111,119,110]
 | _ => []
theorem txt_apart : ∀ m n : Fin 12,1 ≤ m.val → 1 ≤ n.val → txt m.val = txt n.val → m = n:=by decide
theorem glob_of_laidR {W : World} {l : List (String × DataW Unit)} (h : laidMet Tryz.prog (laid12 ++ l) W) : ∃ r,Glob r W:=by
 obtain ⟨⟨a1,c1,s1,e1,t1,f1⟩,h⟩:=sentinel (text:=txt 1) h (g:=3) (by kernel_rfl) (by kernel_rfl)
 obtain ⟨⟨a2,c2,s2,e2,t2,f2⟩,h⟩:=sentinel (text:=txt 2) h (g:=4) (by kernel_rfl) (by kernel_rfl)
 obtain ⟨⟨a3,c3,s3,e3,t3,f3⟩,h⟩:=sentinel (text:=txt 3) h (g:=5) (by kernel_rfl) (by kernel_rfl)
 obtain ⟨⟨a4,c4,s4,e4,t4,f4⟩,h⟩:=sentinel (text:=txt 4) h (g:=0) (by kernel_rfl) (by kernel_rfl)
 obtain ⟨⟨a5,c5,s5,e5,t5,f5⟩,h⟩:=sentinel (text:=txt 5) h (g:=6) (by kernel_rfl) (by kernel_rfl)
 obtain ⟨⟨a6,c6,s6,e6,t6,f6⟩,h⟩:=sentinel (text:=txt 6) h (g:=7) (by kernel_rfl) (by kernel_rfl)
 obtain ⟨⟨a7,c7,s7,e7,t7,f7⟩,h⟩:=sentinel (text:=txt 7) h (g:=8) (by kernel_rfl) (by kernel_rfl)
 obtain ⟨⟨a8,c8,s8,e8,t8,f8⟩,h⟩:=sentinel (text:=txt 8) h (g:=9) (by kernel_rfl) (by kernel_rfl)
 obtain ⟨⟨a9,c9,s9,e9,t9,f9⟩,h⟩:=sentinel (text:=txt 9) h (g:=1) (by kernel_rfl) (by kernel_rfl)
 obtain ⟨⟨a10,c10,s10,e10,t10,f10⟩,h⟩:=sentinel (text:=txt 10) h (g:=10) (by kernel_rfl) (by kernel_rfl)
 obtain ⟨⟨a11,c11,s11,e11,t11,f11⟩,h⟩:=sentinel (text:=txt 11) h (g:=11) (by kernel_rfl) (by kernel_rfl)
 obtain ⟨⟨a99,c99,s99,e99,t99,f99⟩,h⟩:=sentinel (text:=txt 99) h (g:=12) (by kernel_rfl) (by kernel_rfl)
 clear h
 have key : ∀ n : Nat,(1 ≤ n ∧ n ≤ 11) ∨ n = 99 → ∃ s,W.cell? ((fun n : Nat => match n with | 1 => a1 | 2 => a2 | 3 => a3 | 4 => a4 | 5 => a5 | 6 => a6 | 7 => a7 | 8 => a8 | 9 => a9 | 10 => a10 | 11 => a11 | _ => a99) n) = some (.string s) ∧ s.data.toList = txt n ∧ ∃ c t,W.heap[((fun n : Nat => match n with | 1 => a1 | 2 => a2 | 3 => a3 | 4 => a4 | 5 => a5 | 6 => a6 | 7 => a7 | 8 => a8 | 9 => a9 | 10 => a10 | 11 => a11 | _ => a99) n).block]? = some (.cells c t (0,0)):=by
  intro n hn
  have : n = 1 ∨ n = 2 ∨ n = 3 ∨ n = 4 ∨ n = 5 ∨ n = 6 ∨ n = 7 ∨ n = 8 ∨ n = 9 ∨ n = 10 ∨ n = 11 ∨ n = 99:=by omega
  rcases this with rfl | rfl | rfl | rfl | rfl | rfl | rfl | rfl | rfl | rfl | rfl | rfl
  ·exact ⟨s1,e1,t1,f1⟩
  ·exact ⟨s2,e2,t2,f2⟩
  ·exact ⟨s3,e3,t3,f3⟩
  ·exact ⟨s4,e4,t4,f4⟩
  ·exact ⟨s5,e5,t5,f5⟩
  ·exact ⟨s6,e6,t6,f6⟩
  ·exact ⟨s7,e7,t7,f7⟩
  ·exact ⟨s8,e8,t8,f8⟩
  ·exact ⟨s9,e9,t9,f9⟩
  ·exact ⟨s10,e10,t10,f10⟩
  ·exact ⟨s11,e11,t11,f11⟩
  ·exact ⟨s99,e99,t99,f99⟩
 refine ⟨(fun n : Nat => match n with | 1 => a1 | 2 => a2 | 3 => a3 | 4 => a4 | 5 => a5 | 6 => a6 | 7 => a7 | 8 => a8 | 9 => a9 | 10 => a10 | 11 => a11 | _ => a99),c1,c2,c3,c4,c5,c6,c7,c8,c9,c10,c11,c99,(fun n hn => ?_),fun m n hm1 hm2 hn1 hn2 he => ?_,fun n hn => ?_⟩
 ·obtain ⟨s,hs,_⟩:=key n hn
  exact ⟨s,hs⟩
 ·obtain ⟨s,hs,ts,_⟩:=key m.toNat (by omega)
  obtain ⟨s',hs',ts',_⟩:=key n.toNat (by omega)
  have hss : s = s':=by
   have:=hs.symm.trans ((congrArg W.cell? he).trans hs')
   simpa using this
  subst hss
  have:=txt_apart ⟨m.toNat,by omega⟩ ⟨n.toNat,by omega⟩ (by simp; omega) (by simp; omega) (ts.symm.trans ts')
  have:=congrArg Fin.val this
  simp at this
  omega
 ·obtain ⟨_,_,_,hf⟩:=key n hn
  exact hf
theorem glob_of_laid {W : World} (h : laidMet Tryz.prog laid12 W) : ∃ r,Glob r W:=glob_of_laidR (l:=[]) h
end Go.Proofs.YtncpnaoabkjegaaGreatDoor
namespace Go.Proofs.YtncpnaoabkjegaaGreatDoor
open Go.RowKit
set_option maxRecDepth 100000
def laid13 : List (String × DataW Unit) := ("errors.errorType", Rows.laid_errors_errorType) :: laid12
theorem rtypeNo : (Tryz.prog.cutTypes.find? (·.1 == "internal/reflectlite.rtype")).map (·.2) = some 239 := by kernel_rfl
theorem errorTypeNo : Tryz.prog.globalNamed "errors.errorType" = some 2 := by kernel_rfl
theorem typesNo : Tryz.prog.types.size = 452 - 100:=by kernel_rfl
theorem oneError : ((List.range (452 - 100)).filter fun t => Tryz.prog.rowNamed t [101,114,114,111,114]) = [27]:=by kernel_rfl
theorem handleErr : typeHandle Tryz.prog 27 = .pointer (some ⟨17,27,none⟩):=by kernel_rfl
theorem glob_of_laidH {W : World} (h : laidMetH Tryz.prog laid13 W) : ∃ r,Glob r W ∧ GlobE W:=by
 have h' : laidMet Tryz.prog laid12 W ∧ handlesMet Tryz.prog [("errors.errorType", Rows.laid_errors_errorType)] W := h
 obtain ⟨r,hg⟩:=glob_of_laid h'.1
 refine ⟨r,hg,?_⟩
 obtain ⟨name,u,ty,e1,e2,e3,e4,e5⟩:=h'.2 _ (List.mem_cons_self ..)
 have en : name = [101,114,114,111,114]:=(Option.some.inj e1).symm
 subst en
 obtain rfl:=Option.some.inj (rtypeNo.symm.trans e2)
 have hm : ty ∈ (List.range (452 - 100)).filter fun t => Tryz.prog.rowNamed t [101,114,114,111,114]:=List.mem_filter.2 ⟨List.mem_range.2 (by rw [← typesNo]; exact e3),e4⟩
 rw [oneError] at hm
 obtain rfl:=List.mem_singleton.1 hm
 rw [handleErr] at e5
 simpa [GlobE] using World.var?_cell errorTypeNo e5 0
end Go.Proofs.YtncpnaoabkjegaaGreatDoor
namespace Go.Proofs.YtncpnaoabkjegaaGreatDoor
open Go.ChangeShapes Go.WideShapes Go.ChangeAt Go.RowKit Go.Joins
namespace LabKeepsP
set_option maxRecDepth 100000 in
theorem door_met (os : Os) (args : Array Value) : laidMetH Tryz.prog Rows.labKeepsRow.laid ((World.doorLaid Tryz.prog 400 os).forCall (fun _ _ => 0) ⟨#[],args,[]⟩).memory :=
 laidMetH_of_parts3 (fuel:=8) (laidMet_of_run' 8 (by kernel_rfl) (by kernel_rfl)) (by kernel_rfl) (by kernel_rfl)
set_option maxRecDepth 100000 in
theorem lifted (os : Os) (started : os.Started) (H : Type) (enc : TypeId × Value → H) :
 ReturnsInHanded {} Tryz.checked os 5 .any (fun w args => (Rows.labKeepsSpec.pre enc Tryz.prog Tryz.f5 [] false w args ∧ laidMetH Tryz.prog Rows.labKeepsRow.laid w) ∧ sizedMet enc Tryz.prog Tryz.f5 (OpenSpec.ofChange Rows.labKeepsSpec) false w args)
  (Rows.labKeepsSpec.post enc Tryz.prog Tryz.f5 false true false false):=by
 refine returnsInHanded_of_change_and (C:=Tryz.checked) (X:=fun w _ => laidMetH Tryz.prog Rows.labKeepsRow.laid w) (fun _ _ _ hh h => h.of_heap hh) own started (by kernel_rfl) Tryz.func5
  (ChangeSpec.witness_shaped (enc:=enc) (C:=Tryz.checked) (os:=os) (X:=fun w _ => laidMetH Tryz.prog Rows.labKeepsRow.laid w) false (World.doorLaid Tryz.prog 400 os) #[.agg #[.int .i64 0,.int .i64 0,.slice none 0 0]] 8 rfl (World.shaped_of_RefB (by kernel_rfl) (by kernel_rfl)) (by kernel_rfl) (by kernel_rfl) (by kernel_rfl) (door_met os _)) ?_
 intro W base args ds gs before hval0 hW _ hsz hL _
 have hval : ∀ (j : Nat) t v,Tryz.f5.params[j]? = some t → args[j]? = some v → Value.okWide Tryz.prog W .any base t v:=hval0
 have hW':=hW
 obtain ⟨p,q,hA0,hV,rfl,hfz,hnd⟩:=hW
 have hA : DataW.TrodAll enc Tryz.prog W 0 (fun _ => true) true Tryz.f5.params.toList args.toList ds p:=hA0
 rw [Tryz.params5] at hA hval hsz
 obtain ⟨v0,vs0,d0,ds0,p0,q0,hargs,rfl,rfl,g0,t0⟩:=trodAll_cons hA
 obtain ⟨rfl,rfl,rfl⟩:=trodAll_nil t0
 obtain rfl : args = #[v0]:=by cases args; simp_all
 obtain ⟨rfl,rfl⟩:=trodVars_none hV
 have kk0:=g0
 have lt0 : ∀ x ∈ p0,x.block < W.heap.size:=by obtain ⟨m,hm⟩:=kk0; exact DataW.trod_lt m _ _ _ hm
 obtain ⟨kr0,rr0,u0,x0,rfl,h0,l0,b0,bk0,br0⟩:=open_ruleV (hval 0 24 v0 rfl rfl) g0 (fun n hn => by
  have:=List.all_eq_true.1 hsz n (DataW.weights_mem_each (j:=0) (t:=24) rfl rfl n hn)
  simpa using this)
 obtain ⟨r,hg,hG⟩:=glob_of_laidH (W:=W) (by
  exact hL)
 clear hA0 hval0
 refine (labKeeps_any r _ _ _ _ _ hg hG h0).mono fun e W' ⟨x,he,bel,hxx⟩ => ?_
 subst he; subst hxx
 exact ⟨_,rfl,_,_,_,[],_,[],hW',trodAll_mk1 (shut_bool Tryz.underlying4 _),(trodAll_cons_mk (Below.trod laidOut (by kernel_rfl) (of_decide_eq_true (by kernel_rfl)) kk0 bel lt0) trodAll_mk0),rfl,bel.frame _,fun h => by cases h⟩
theorem and_t {a b : Bool} (h : a = true) (k : b = true) : (a && b) = true:=by rw [h,k]; rfl
theorem jf_wf : Rows.labKeepsRow.wf (OpenSpec.ofChange Rows.labKeepsSpec) = true:=by kernel_rfl
theorem jf_lo : laidOutB Tryz.prog = true:=by kernel_rfl
theorem jf_mr : mapsRowed Tryz.prog = true:=by kernel_rfl
theorem jf_nt : namedTie Tryz.prog Rows.labKeepsRow.named Rows.labKeepsSpec.vars = true:=by kernel_rfl
theorem jf_ip : (Rows.labKeepsRow.inPlace == Tryz.prog.inPlace 5) = true:=by kernel_rfl
theorem jf_uf : (Rows.labKeepsRow.unfollowed == Tryz.prog.unfollowed 5) = true:=by kernel_rfl
theorem jf_rc : (Rows.labKeepsRow.recurses == Tryz.prog.recurses 5) = true:=by kernel_rfl
theorem jf_nm : (Rows.labKeepsRow.named == Tryz.prog.varsNamed 5) = true:=by kernel_rfl
theorem jf_pk : (Rows.labKeepsRow.plainKeys == Tryz.prog.plainKeys) = true:=by kernel_rfl
theorem jf_sh : Tryz.prog.stopsHeard = true:=by kernel_rfl
theorem jf_me : Tryz.prog.mayEnter = true:=by kernel_rfl
theorem jf_lf : (Rows.labKeepsRow.lifted == Tryz.prog.liftsFinal) = true:=by kernel_rfl
theorem jf_mk : (Tryz.prog.make == some Rows.labKeepsRow.make) = true:=by kernel_rfl
theorem joined : joinedFacts Tryz.prog 5 Tryz.f5 Rows.labKeepsSpec Rows.labKeepsRow = true:=and_t (and_t (and_t (and_t (and_t (and_t (and_t (and_t (and_t (and_t (and_t (and_t (and_t (and_t (and_t (and_t (and_t (and_t (and_t (and_t (and_t (and_t (and_t (and_t (and_t (and_t (and_t (and_t (and_t (and_t (and_t jf_wf jf_lo) jf_mr) (by kernel_rfl)) jf_nt) (by kernel_rfl)) (by kernel_rfl)) (by kernel_rfl)) (by kernel_rfl)) jf_ip) jf_uf) jf_rc) jf_nm) (by kernel_rfl)) (by kernel_rfl)) (by kernel_rfl)) (by kernel_rfl)) (by kernel_rfl)) (by kernel_rfl)) (by kernel_rfl)) (by kernel_rfl)) (by kernel_rfl)) jf_pk) (by kernel_rfl)) jf_sh) jf_me) jf_lf) jf_mk) (by kernel_rfl)) (by kernel_rfl)) (by kernel_rfl)) (by kernel_rfl)
theorem fnamed : Tryz.prog.funcNamed Rows.labKeepsRow.func = some 5:=by kernel_rfl
theorem inst : Tryz.f5.isInstance Tryz.prog Rows.labKeepsRow.origin Rows.labKeepsRow.targs:=of_decide_eq_true (by kernel_rfl)
theorem wrapd : Tryz.f5.isWrapper Tryz.prog Rows.labKeepsRow.wrapper Rows.labKeepsRow.mainSum:=by unfold Func.isWrapper; first | (rw [if_pos (by decide +kernel)]; kernel_rfl) | (rw [if_neg (by decide +kernel)]; exact ⟨rfl,rfl⟩)
theorem over : Rows.LabKeepsSaid :=
 OpenClaim.holds_of_wide 5 Tryz.f5 rfl rfl rfl rfl rfl rfl rfl ⟨rfl,rfl,rfl,rfl,rfl⟩ rfl rfl rfl rfl rfl fnamed Tryz.func5 joined
  inst wrapd
  (fun os started H enc _ => lifted os started H enc)
theorem cw : Rows.labKeepsRow.wfByText (OpenSpec.ofChange Rows.labKeepsSpec) = true:=by kernel_rfl
theorem cm : Tryz.prog.mainIs = some (Rows.labKeepsCard.stood.harness.1,Rows.labKeepsCard.stood.harness.2.toList):=by kernel_rfl
theorem cl : Rows.labKeepsCard.stood.looks = Tryz.prog.looks []:=by kernel_rfl
theorem cg : false = Rows.labKeepsRow.goesBy Tryz.prog:=by kernel_rfl
theorem cs : ([24].all fun u => !Tryz.prog.wantsStandIn u) = true:=by kernel_rfl
/-- The tied card. -/
theorem card_holds : Rows.LabKeepsCardSaid :=
 Claim7.holds_tied_plain_at .later [] [.handle,.sentinel,.sentinel,.sentinel,.sentinel,.sentinel,.sentinel,.sentinel,.sentinel,.sentinel,.sentinel,.sentinel,.sentinel] true _ _
  over (fun _ h => by cases h) cw (fun _ h => by cases h) labKeeps_row_tie rfl ⟨rfl,rfl⟩ cm rfl
  (fun f fn hf hfn => by
    obtain rfl : f = 5:=Option.some.inj (fnamed.symm.trans hf) |>.symm
    obtain rfl : fn = Tryz.f5:=(Option.some.inj (Tryz.func5.symm.trans hfn)).symm
    exact ⟨cl,fun j t ht => by
     rw [Tryz.params5] at ht
     have hm : t ∈ [24]:=by simpa using Array.mem_of_getElem? ht
     exact (show Tryz.prog.wantsStandIn t = false by simpa using List.all_eq_true.1 cs t hm)⟩)
  cg
end LabKeepsP
#print axioms LabKeepsP.card_holds
end Go.Proofs.YtncpnaoabkjegaaGreatDoor
