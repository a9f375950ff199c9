/-
  Walk: lab.Look at a small rule.
  Plain mathematics of layer 20: the inverse is the only one of its radius, is as narrow as can be, and has the rule as its inverse.
  Plain mathematics: the garden of Eden theorem: a rule that is onto has no twins (the other way is onto_of_no_twins).
  Plain mathematics of layer 26: the inverse's radius, the orphans and the sums of a mirrored rule.
  Plain mathematics of layer 19: a rule that permutes at one side has no twins and is onto; one that permutes at both sides is not one to one.
  Walks: lab.Look at a rule that is refused; lab.Kind; edenlaw26.heavy, same, awake.
  Walks: forms.Rename.
  Plain mathematics: a renamed rule permutes on the same sides.
  Plain mathematics: the image and the twins of a renamed rule.
  Plain mathematics: with other names for the symbols a rule is one to one just if it is.
  Plain mathematics of layer 26: the inverse's radius and the orphans of a rule with other names for its symbols.
  What the reports of two rules share, one of them the other's mirror or the other with its symbols renamed.
  Walk: edenlaw26.LabForms returns true.
  Opening what a call is handed: []int, api.Rule, the package-level errors.
  From a card's list of laid variables that holds the handle of the type error: the package errors and errors.errorType.
-/
import Derived.Test.YtncpnaoabkjegaaGreatDoorMLf10
import Derived.Deep.CutBlock
import Derived.Test.YtncpnaoabkjegaaGreatDoorRows
import Derived.ProofKit
import Derived.OpenShut
import Derived.ShutString
import Derived.ChangeOld
import Derived.LaidMore
import Derived.Stop.Joined
import Derived.Stop.LaidErr
import Derived.Lib.SmallJoins
import Derived.LaidHandle
namespace Go.Proofs.YtncpnaoabkjegaaGreatDoor
open Go.RowKit
set_option maxRecDepth 100000
theorem OntoPost.parts {r : Nat → Addr} {B : Nat} {s : SubR} {x y z : Value} {w : World} (h : OntoPost r B s x y z w) : (∃ a n c,y = .slice a n c ∧ OwnI B w (.slice a n c) (orphL s)):=by
 cases s with
 | on _ _ => obtain ⟨rfl,rfl,rfl⟩:=h; exact ⟨_,_,_,rfl,OwnI.nil _ _⟩
 | orphan wd => obtain ⟨rfl,rfl,ho⟩:=h; obtain ⟨a,n,c,rfl⟩:=ho.at.shape; exact ⟨_,_,_,rfl,ho⟩
 | big => obtain ⟨rfl,rfl,he⟩:=h; exact ⟨_,_,_,rfl,OwnI.nil _ _⟩
theorem idx5_0 (w : World) : (Instr.index 101 (.agg #[.nilIface,.nilIface,.nilIface,.nilIface,.nilIface]) (.int .i64 0)).run Tryz.prog w = .ok .nilIface w:=by kernel_rfl
theorem idx5_1 (w : World) : (Instr.index 101 (.agg #[.nilIface,.nilIface,.nilIface,.nilIface,.nilIface]) (.int .i64 1)).run Tryz.prog w = .ok .nilIface w:=by kernel_rfl
theorem idx5_2 (w : World) : (Instr.index 101 (.agg #[.nilIface,.nilIface,.nilIface,.nilIface,.nilIface]) (.int .i64 2)).run Tryz.prog w = .ok .nilIface w:=by kernel_rfl
theorem idx5_3 (w : World) : (Instr.index 101 (.agg #[.nilIface,.nilIface,.nilIface,.nilIface,.nilIface]) (.int .i64 3)).run Tryz.prog w = .ok .nilIface w:=by kernel_rfl
theorem idx5_4 (w : World) : (Instr.index 101 (.agg #[.nilIface,.nilIface,.nilIface,.nilIface,.nilIface]) (.int .i64 4)).run Tryz.prog w = .ok .nilIface w:=by kernel_rfl
/-- The radius that a report tells. -/
noncomputable def radL (K R : Nat) (T : List Int) : Int:=if invE K R T = none then radN K R T else -1
/-- The factors that a report tells. -/
def facR (K R : Nat) (T : List Int) : List Int:=if isSum K R T = true then facs K R T else []
/-- A report of a rule. -/
def RepIs (B : Nat) (w : World) (K R : Nat) (T : List Int) (v : Value) : Prop :=
 ∃ (Y F : Bool) (oa : Option Addr) (on oc : Nat) (fa : Option Addr) (fn fc : Nat),(Y = true ↔ ¬ NotOne K R T) ∧ (F = true ↔ ∀ x y,¬ IsTwins K R T x y) ∧
  v = .agg #[.int .i64 (ontoN (subR K (pw K (2 * R)) T)),.slice oa on oc,.bool Y,.bool F,.int .i64 (radL K R T),.bool (isSum K R T),.slice fa fn fc,.bool (unlikeP K T (T.length / K)),.bool (unlikeP K T 1)] ∧
  OwnI B w (.slice oa on oc) (orphL (subR K (pw K (2 * R)) T)) ∧ OwnI B w (.slice fa fn fc) (facR K R T) ∧ ((Value.slice oa on oc).ownBlock = none ∨ (Value.slice oa on oc).ownBlock ≠ (Value.slice fa fn fc).ownBlock)
set_option maxHeartbeats 4000000 in
theorem look_ok (r : Nat → Addr) (K R : Nat) (va : Option Addr) (vn vc : Nat) (T : List Int) (w : World) (hg : Glob r w) (hG : GlobE w) (h : IntsAt w (.slice va vn vc) T) (hr : RuleOk K R T) (hl : T.length ≤ 256) :
 Calls Tryz.prog 23 #[.agg #[.int .i64 K,.int .i64 R,.slice va vn vc]] w (Ret2 (fun x y w' => y = .nilIface ∧ RepIs w.heap.size w' K R T x) w):=by
 have b0:=belowAlloc w (.cells #[.int .i64 K,.int .i64 R,.slice va vn vc] 24)
 have q : Box3 (w.alloc (.cells #[.int .i64 K,.int .i64 R,.slice va vn vc] 24)) w.heap.size (.int .i64 K) (.int .i64 R) (.slice va vn vc):=by simp [Box3,go_sem]
 obtain ⟨f0,hR0,n45,-⟩:=(Rows.void w.heap.size w).mkN (45,0) (Nat.le_refl _) 24 3 #[.int .i64 K,.int .i64 R,.slice va vn vc] rfl
 obtain ⟨f1,hR1,n42,o1⟩:=hR0.mkN (42,0) (by simp) 46 9 #[.int .i64 0,.slice none 0 0,.bool false,.bool false,.int .i64 0,.bool false,.slice none 0 0,.bool false,.bool false] rfl
 replace n45:=(o1 _ (by decide)).trans n45
 have b1:=belowAlloc (w.alloc (.cells #[.int .i64 K,.int .i64 R,.slice va vn vc] 24)) (.cells #[.int .i64 0,.slice none 0 0,.bool false,.bool false,.int .i64 0,.bool false,.slice none 0 0,.bool false,.bool false] 46)
 have hsz : (w.alloc (.cells #[.int .i64 K,.int .i64 R,.slice va vn vc] 24)).heap.size = w.heap.size + 1:=by simp
 rw [hsz] at n42
 replace q:=q.below b1
 have b01:=Below.step b0 b1
 obtain ⟨w1,hw1⟩ : ∃ W : World,(w.alloc (.cells #[.int .i64 K,.int .i64 R,.slice va vn vc] 24)).alloc (.cells #[.int .i64 0,.slice none 0 0,.bool false,.bool false,.int .i64 0,.bool false,.slice none 0 0,.bool false,.bool false] 46) = W:=⟨_,rfl⟩
 have hs1 : ((w.alloc (.cells #[.int .i64 K,.int .i64 R,.slice va vn vc] 24)).alloc (.cells #[.int .i64 0,.slice none 0 0,.bool false,.bool false,.int .i64 0,.bool false,.slice none 0 0,.bool false,.bool false] 46)).heap.size = w.heap.size + 2:=by simp
 rw [hw1] at q b01 hR1 hs1
 have hsm:=smallP_small hr hl
 have hg1:=Hd (hg.below b01)
 have hG1:=Hd (hG.below b01)
 have hT1:=Hd (h.below b01)
 obtain ⟨S,hS⟩ : ∃ S,subR K (pw K (2 * R)) T = S:=⟨_,rfl⟩
 obtain ⟨i1,i2,i3⟩:=invE_ok hr hl
 obtain ⟨L,hL⟩ : ∃ L,unlikeP K T (T.length / K) = L:=⟨_,rfl⟩
 obtain ⟨P,hP⟩ : ∃ P,unlikeP K T 1 = P:=⟨_,rfl⟩
 have hsum : (isSum K R T = true → facR K R T = facs K R T) ∧ (isSum K R T = false → facR K R T = []):=⟨fun e => by unfold facR; rw [if_pos e],fun e => by unfold facR; rw [e]; rfl⟩
 have hrad : (invE K R T = none → radL K R T = radN K R T) ∧ (invE K R T ≠ none → radL K R T = -1):=⟨fun e => by unfold radL; rw [if_pos e],fun e => by unfold radL; rw [if_neg e]⟩
 have hB : w.heap.size ≤ w1.heap.size:=b01.size
 replace hg:=Hd hg
 replace hG:=Hd hG
 replace h:=Hd h
 replace hr:=Hd hr
 replace hsm:=Hd hsm
 replace hS:=Hd hS
 replace i1:=Hd i1
 replace i2:=Hd i2
 replace i3:=Hd i3
 replace hL:=Hd hL
 replace hP:=Hd hP
 replace hsum:=Hd hsum
 replace hrad:=Hd hrad
 replace hR1:=Hd hR1
 replace n42:=Hd n42
 replace n45:=Hd n45
 replace hw1:=Hd hw1
 replace hsz:=Hd hsz
 clear b0 b1 o1 hR0
 obtain ⟨⟨z0,z1,z2⟩,-,-,-⟩:=id q
 go_enter Tryz.func23,Tryz.ntmps23
 go_upto_region 1 with fail
 rw [hw1.out]
 go_wp2_with fail
 refine (small_any r K R va vn vc T w1 hg1.out hT1.out).mono ?_
 rintro e w2 ⟨x,rfl,b2,he⟩
 rw [hsm.out] at he
 obtain rfl:=he.none_eq
 clear he z0 z1 z2
 have b12:=Below.step b01 b2
 -- the boxes of the report and of the errors
 obtain ⟨f3,hR3,n40,o3⟩:=(hR1.out.below b2).mkN (40,0) b12.size 46 9 #[.int .i64 0,.slice none 0 0,.bool false,.bool false,.int .i64 0,.bool false,.slice none 0 0,.bool false,.bool false] rfl
 have b3:=belowAlloc w2 (.cells #[.int .i64 0,.slice none 0 0,.bool false,.bool false,.int .i64 0,.bool false,.slice none 0 0,.bool false,.bool false] 46)
 have b13:=Below.step b12 b3
 obtain ⟨f4,hR4,n41,o4⟩:=hR3.mkN (41,0) b13.size 101 5 #[.nilIface,.nilIface,.nilIface,.nilIface,.nilIface] rfl
 have b4:=belowAlloc (w2.alloc (.cells #[.int .i64 0,.slice none 0 0,.bool false,.bool false,.int .i64 0,.bool false,.slice none 0 0,.bool false,.bool false] 46)) (.cells #[.nilIface,.nilIface,.nilIface,.nilIface,.nilIface] 101)
 have hsz3 : (w2.alloc (.cells #[.int .i64 0,.slice none 0 0,.bool false,.bool false,.int .i64 0,.bool false,.slice none 0 0,.bool false,.bool false] 46)).heap.size = w2.heap.size + 1:=by simp
 rw [hsz3] at n41
 have b24:=Below.step b3 b4
 have b14:=Below.step b12 b24
 obtain ⟨w4,hw4⟩ : ∃ W : World,(w2.alloc (.cells #[.int .i64 0,.slice none 0 0,.bool false,.bool false,.int .i64 0,.bool false,.slice none 0 0,.bool false,.bool false] 46)).alloc (.cells #[.nilIface,.nilIface,.nilIface,.nilIface,.nilIface] 101) = W:=⟨_,rfl⟩
 rw [hw4] at hR4 b14 b24
 have A4 : LkAt w.heap.size w4 w.heap.size w2.heap.size (w2.heap.size + 1) (w.heap.size + 1) [.int .i64 K,.int .i64 R,.slice va vn vc] [.int .i64 0,.slice none 0 0,.bool false,.bool false,.int .i64 0,.bool false,.slice none 0 0,.bool false,.bool false] [.nilIface,.nilIface,.nilIface,.nilIface,.nilIface] [.int .i64 0,.slice none 0 0,.bool false,.bool false,.int .i64 0,.bool false,.slice none 0 0,.bool false,.bool false] (.slice none 0 0) (.slice none 0 0) [] []:=by
  obtain ⟨f5,hR5,n43,o5⟩:=hR4.addE (43,0) (r':=rowI (.slice none 0 0) []) (Below.refl _ _) (OwnI.nil _ _) (fun k hk => by cases hk)
  obtain ⟨f6,hR6,n44,o6⟩:=hR5.addE (44,0) (r':=rowI (.slice none 0 0) []) (Below.refl _ _) (OwnI.nil _ _) (fun k hk => by cases hk)
  exact ⟨f6,hR6,(o6 _ (by decide)).trans ((o5 _ (by decide)).trans ((o4 _ (by decide)).trans n40)),(o6 _ (by decide)).trans ((o5 _ (by decide)).trans n41),(o6 _ (by decide)).trans ((o5 _ (by decide)).trans ((o4 _ (by decide)).trans ((o3 _ (by decide)).trans n42.out))),(o6 _ (by decide)).trans n43,n44,(o6 _ (by decide)).trans ((o5 _ (by decide)).trans ((o4 _ (by decide)).trans ((o3 _ (by decide)).trans n45.out)))⟩
 obtain ⟨x,hx⟩ : ∃ x,w2.heap.size = x:=⟨_,rfl⟩
 obtain ⟨ee,hee⟩ : ∃ x,w2.heap.size + 1 = x:=⟨_,rfl⟩
 obtain ⟨o,ho⟩ : ∃ x,w.heap.size + 1 = x:=⟨_,rfl⟩
 rw [hee,hx,ho] at A4
 have hs2:=b2.size
 have hxe : ¬ (x = ee):=by omega
 have hex : ¬ (ee = x):=by omega
 have hxo : ¬ (x = o):=by omega
 have hox : ¬ (o = x):=by omega
 have heo : ¬ (ee = o):=by omega
 have hoe : ¬ (o = ee):=by omega
 clear hs1 hs2
 clear hR3 hR4 n40 n41 o3 o4 b3 b4 b13 hsz3 f3 f4
 replace A4:=Hd A4
 replace hw4:=Hd hw4
 replace hx:=Hd hx
 replace hee:=Hd hee
 replace ho:=Hd ho
 clear hR1 n42 n45 hsz hw1 q
 go_upto_region 7 with fail
 rw [hw4.out,hee.out,hx.out,ho.out]
 clear hw4
 have z0:=A4.out.cr 0 (by decide)
 have z1:=A4.out.cr 1 (by decide)
 have z2:=A4.out.cr 2 (by decide)
 have lowx:=A4.out.low
 go_wp2_with fail
 refine (sub_onto r K R va vn vc T w4 (hg.out.below b14) (hG.out.below b14) (h.out.below b14) hr.out hl).mono ?_
 rintro e w5 ⟨xv,_,zv,rfl,b5,hon⟩
 clear z0 z1 z2
 rw [hS.out] at hon
 obtain ⟨oa,on,oc,rfl,hor⟩:=hon.parts
 obtain ⟨xb,rfl⟩ : ∃ b,xv = .bool b:=by
  cases S with
  | on _ _ => exact ⟨_,hon.1⟩
  | orphan _ => exact ⟨_,hon.1⟩
  | big => exact ⟨_,hon.1⟩
 have hcz : (zv = .nilIface ∧ (xb = true → ontoN S = 1) ∧ (xb = false → ontoN S = 2)) ∨ ∃ p,zv = .iface 119 (.pointer (some p)) ∧ ErrIs r w5 (fresh sSubset 0 4) zv ∧ ontoN S = 3:=by
  cases S with
  | on _ _ => obtain ⟨h1,-,h3⟩:=hon; injection h1 with h1; exact .inl ⟨h3,fun _ => rfl,fun q => by rw [h1] at q; cases q⟩
  | orphan _ => obtain ⟨h1,h3,-⟩:=hon; injection h1 with h1; exact .inl ⟨h3,(fun q => by rw [h1] at q; cases q),fun _ => rfl⟩
  | big =>
   obtain ⟨-,-,h3⟩:=hon
   have h4:=h3
   obtain ⟨p,u,rfl,-⟩:=h4
   exact .inr ⟨_,rfl,h3,rfl⟩
 clear hon
 have A5:=A4.out.orphan b5 b14.size hor
 have c5:=Below.step b14 b5
 replace hor:=Hd hor
 rcases hcz with ⟨rfl,k1,k2⟩ | ⟨zp,rfl,hze,k3⟩
 case' inl =>
  have g1:=A5.cx 1 (by decide)
  have h1:=A5.fx 1
  have S1:=A5.sx 1 (.slice oa on oc)
  have d1:=c5.setCell (p:=⟨x,1,none⟩) lowx.1 (.slice oa on oc)
  have g2:=S1.ce 0 (by decide)
  have h2:=S1.fe 0
  have S2:=S1.se 0 (.nilIface)
  have d2:=d1.setCell (p:=⟨ee,0,none⟩) lowx.2.1 (.nilIface)
  replace k1:=Hd k1
  replace k2:=Hd k2
  go_upto_block 0 with fail
  clear g1 h1 g2 h2
  go_cut [] from 27 (fun wx => Below w.heap.size w wx ∧ LkAt w.heap.size wx w.heap.size x ee o [.int .i64 K,.int .i64 R,.slice va vn vc] [.int .i64 (ontoN S),.slice oa on oc,.bool false,.bool false,.int .i64 0,.bool false,.slice none 0 0,.bool false,.bool false] [.nilIface,.nilIface,.nilIface,.nilIface,.nilIface] [.int .i64 0,.slice none 0 0,.bool false,.bool false,.int .i64 0,.bool false,.slice none 0 0,.bool false,.bool false] (.slice oa on oc) (.slice none 0 0) (orphL S) [])
  case first =>
   have tb:=(hg.out.below d2).c4
   have e1:=S2.ce 0 (by decide)
   go_wp2_with fail
   refine (Errs.is_nil _ _ _).mono ?_
   rintro e w6 ⟨rfl,rfl⟩
   clear e1
   cases xb with
   | true =>
    have g3:=S2.cx 0 (by decide)
    have h3:=S2.fx 0
    have S3:=S2.sx 0 (.int .i64 1)
    have d3:=d2.setCell (p:=⟨x,0,none⟩) lowx.1 (.int .i64 1)
    have RK:=S3
    have Rb:=d3
    have hfin : Below w.heap.size w (((w5.setCell ⟨x,1,none⟩ (.slice oa on oc)).setCell ⟨ee,0,none⟩ .nilIface).setCell ⟨x,0,none⟩ (.int .i64 1)) ∧ LkAt w.heap.size (((w5.setCell ⟨x,1,none⟩ (.slice oa on oc)).setCell ⟨ee,0,none⟩ .nilIface).setCell ⟨x,0,none⟩ (.int .i64 1)) w.heap.size x ee o [.int .i64 K,.int .i64 R,.slice va vn vc] [.int .i64 (ontoN S),.slice oa on oc,.bool false,.bool false,.int .i64 0,.bool false,.slice none 0 0,.bool false,.bool false] [.nilIface,.nilIface,.nilIface,.nilIface,.nilIface] [.int .i64 0,.slice none 0 0,.bool false,.bool false,.int .i64 0,.bool false,.slice none 0 0,.bool false,.bool false] (.slice oa on oc) (.slice none 0 0) (orphL S) []:=by rw [k1.out rfl]; exact ⟨Rb,RK⟩
    clear RK Rb k1 k2
    replace hfin:=Hd hfin
    go_wp2
    go_meet
    case rel => exact hfin.out
   | false =>
    have g3:=S2.cx 0 (by decide)
    have h3:=S2.fx 0
    have S3:=S2.sx 0 (.int .i64 2)
    have d3:=d2.setCell (p:=⟨x,0,none⟩) lowx.1 (.int .i64 2)
    have RK:=S3
    have Rb:=d3
    have hfin : Below w.heap.size w (((w5.setCell ⟨x,1,none⟩ (.slice oa on oc)).setCell ⟨ee,0,none⟩ .nilIface).setCell ⟨x,0,none⟩ (.int .i64 2)) ∧ LkAt w.heap.size (((w5.setCell ⟨x,1,none⟩ (.slice oa on oc)).setCell ⟨ee,0,none⟩ .nilIface).setCell ⟨x,0,none⟩ (.int .i64 2)) w.heap.size x ee o [.int .i64 K,.int .i64 R,.slice va vn vc] [.int .i64 (ontoN S),.slice oa on oc,.bool false,.bool false,.int .i64 0,.bool false,.slice none 0 0,.bool false,.bool false] [.nilIface,.nilIface,.nilIface,.nilIface,.nilIface] [.int .i64 0,.slice none 0 0,.bool false,.bool false,.int .i64 0,.bool false,.slice none 0 0,.bool false,.bool false] (.slice oa on oc) (.slice none 0 0) (orphL S) []:=by rw [k2.out rfl]; exact ⟨Rb,RK⟩
    clear RK Rb k1 k2
    replace hfin:=Hd hfin
    go_wp2
    go_meet
    case rel => exact hfin.out
 case' inr =>
  have g1:=A5.cx 1 (by decide)
  have h1:=A5.fx 1
  have S1:=A5.sx 1 (.slice oa on oc)
  have d1:=c5.setCell (p:=⟨x,1,none⟩) lowx.1 (.slice oa on oc)
  have g2:=S1.ce 0 (by decide)
  have h2:=S1.fe 0
  have S2:=S1.se 0 ((.iface 119 (.pointer (some zp))))
  have d2:=d1.setCell (p:=⟨ee,0,none⟩) lowx.2.1 ((.iface 119 (.pointer (some zp))))
  replace k3:=Hd k3
  go_upto_block 0 with fail
  clear g1 h1 g2 h2
  go_cut [] from 27 (fun wx => Below w.heap.size w wx ∧ LkAt w.heap.size wx w.heap.size x ee o [.int .i64 K,.int .i64 R,.slice va vn vc] [.int .i64 (ontoN S),.slice oa on oc,.bool false,.bool false,.int .i64 0,.bool false,.slice none 0 0,.bool false,.bool false] [.nilIface,.nilIface,.nilIface,.nilIface,.nilIface] [.int .i64 0,.slice none 0 0,.bool false,.bool false,.int .i64 0,.bool false,.slice none 0 0,.bool false,.bool false] (.slice oa on oc) (.slice none 0 0) (orphL S) [])
  case first =>
   have tb:=(hg.out.below d2).c4
   have his:=Errs.is_any r 4 _ _ _ ((hze.set (b:=x) (i:=1) (fun s q => by rw [A5.cx 0 (by decide)] at q; cases q) (.slice oa on oc)).set (b:=ee) (i:=0) (fun s q => by rw [S1.ce 0 (by decide)] at q; cases q) (.iface 119 (.pointer (some zp))))
   have e1:=S2.ce 0 (by decide)
   replace hze:=Hd hze
   go_wp2_with fail
   refine his.mono ?_
   rintro e w6 ⟨rfl,rfl⟩
   clear his
   clear e1
   have g3:=S2.cx 0 (by decide)
   have h3:=S2.fx 0
   have S3:=S2.sx 0 (.int .i64 3)
   have d3:=d2.setCell (p:=⟨x,0,none⟩) lowx.1 (.int .i64 3)
   have g4:=S3.ce 0 (by decide)
   have h4:=S3.fe 0
   have S4:=S3.se 0 (.nilIface)
   have d4:=d3.setCell (p:=⟨ee,0,none⟩) lowx.2.1 (.nilIface)
   have RK:=S4
   have Rb:=d4
   have hfin : Below w.heap.size w ((((w5.setCell ⟨x,1,none⟩ (.slice oa on oc)).setCell ⟨ee,0,none⟩ (.iface 119 (.pointer (some zp)))).setCell ⟨x,0,none⟩ (.int .i64 3)).setCell ⟨ee,0,none⟩ .nilIface) ∧ LkAt w.heap.size ((((w5.setCell ⟨x,1,none⟩ (.slice oa on oc)).setCell ⟨ee,0,none⟩ (.iface 119 (.pointer (some zp)))).setCell ⟨x,0,none⟩ (.int .i64 3)).setCell ⟨ee,0,none⟩ .nilIface) w.heap.size x ee o [.int .i64 K,.int .i64 R,.slice va vn vc] [.int .i64 (ontoN S),.slice oa on oc,.bool false,.bool false,.int .i64 0,.bool false,.slice none 0 0,.bool false,.bool false] [.nilIface,.nilIface,.nilIface,.nilIface,.nilIface] [.int .i64 0,.slice none 0 0,.bool false,.bool false,.int .i64 0,.bool false,.slice none 0 0,.bool false,.bool false] (.slice oa on oc) (.slice none 0 0) (orphL S) []:=by rw [k3.out]; exact ⟨Rb,RK⟩
   clear RK Rb k3
   replace hfin:=Hd hfin
   go_wp2
   go_meet
   case rel => exact hfin.out
 all_goals
  obtain ⟨bc,AC⟩:=hcut
  clear S1 S2 d1 d2 A5 c5 b14 A4 lowx
  have lowx:=AC.low
  have hBx:=bc.size
  have z0:=AC.cr 0 (by decide)
  have z1:=AC.cr 1 (by decide)
  have z2:=AC.cr 2 (by decide)
  go_wp2_with fail
  refine (one_ok r K R va vn vc T _ (hg.out.below bc) (h.out.below bc) hr.out hl).mono ?_
  rintro e w7 ⟨_,_,_,_,rfl,b7,hp⟩
  clear z0 z1 z2
  obtain ⟨rfl,Y,rfl,hY,e1,f1,g1,e2,f2,g2,e3,f3,g3,e4,f4,g4,e5,f5,g5,e6,f6,g6,rfl,rfl⟩:=hp.ans
  clear hp
  replace hY:=Hd hY
  have A7:=AC.below b7
  have c7:=Below.step bc b7
  have g11:=A7.cx 2 (by decide)
  have h11:=A7.fx 2
  have S11:=A7.sx 2 (.bool Y)
  have d11:=c7.setCell (p:=⟨x,2,none⟩) lowx.1 (.bool Y)
  have g12:=S11.ce 1 (by decide)
  have h12:=S11.fe 1
  have S12:=S11.se 1 (.nilIface)
  have d12:=d11.setCell (p:=⟨ee,1,none⟩) lowx.2.1 (.nilIface)
  have z0:=S12.cr 0 (by decide)
  have z1:=S12.cr 1 (by decide)
  have z2:=S12.cr 2 (by decide)
  go_wp2_with fail
  refine (finite_ok r K R va vn vc T _ (hg.out.below d12) (h.out.below d12) hr.out hl).mono ?_
  rintro e w8 ⟨fy,fa9,fb9,_,rfl,b8,hf⟩
  clear g11 h11 g12 h12 z0 z1 z2
  obtain ⟨F,rfl,hF⟩ : ∃ F : Bool,fy = .bool F ∧ (F = true ↔ ∀ x y,¬ IsTwins K R T x y):=by
   obtain ⟨-,⟨rfl,-,-,hn⟩ | ⟨rfl,x1,y1,-,ht,-⟩⟩:=hf
   ·exact ⟨true,rfl,⟨fun _ => hn,fun _ => rfl⟩⟩
   ·exact ⟨false,rfl,⟨fun q => (by cases q),fun q => absurd ht (q x1 y1)⟩⟩
  obtain ⟨⟨qa1,qa2,qa3,rfl⟩,qb1,qb2,qb3,rfl⟩ : (∃ a n c,fa9 = .slice a n c) ∧ ∃ a n c,fb9 = .slice a n c:=by
   obtain ⟨-,⟨-,rfl,rfl,-⟩ | ⟨-,x1,y1,-,-,-,-,o1,o2,-⟩⟩:=hf
   ·exact ⟨⟨_,_,_,rfl⟩,_,_,_,rfl⟩
   ·exact ⟨o1.at.shape,o2.at.shape⟩
  obtain rfl:=hf.1
  clear hf
  replace hF:=Hd hF
  have A8:=S12.below b8
  have c8:=Below.step d12 b8
  have g13:=A8.cx 3 (by decide)
  have h13:=A8.fx 3
  have S13:=A8.sx 3 (.bool F)
  have d13:=c8.setCell (p:=⟨x,3,none⟩) lowx.1 (.bool F)
  have g14:=S13.ce 2 (by decide)
  have h14:=S13.fe 2
  have S14:=S13.se 2 (.nilIface)
  have d14:=d13.setCell (p:=⟨ee,2,none⟩) lowx.2.1 (.nilIface)
  have z0:=S14.cr 0 (by decide)
  have z1:=S14.cr 1 (by decide)
  have z2:=S14.cr 2 (by decide)
  go_wp2_with fail
  refine (inv_radius r K R va vn vc T _ (hg.out.below d14) (h.out.below d14)).mono ?_
  rintro e w9 ⟨_,ev,rfl,b9,hev,rfl⟩
  clear g13 h13 g14 h14 z0 z1 z2
  have A9:=S14.below b9
  have c9:=Below.step d14 b9
  obtain ⟨N,hN⟩ : ∃ N,radN K R T = N:=⟨_,rfl⟩
  rw [hN]
  replace hN:=Hd hN
  have hev2:=hev.open2
  go_upto_block 1 with fail
  go_cut [] from 61 (fun wx => Below w.heap.size w wx ∧ LkAt w.heap.size wx w.heap.size x ee o [.int .i64 K,.int .i64 R,.slice va vn vc] [.int .i64 (ontoN S),.slice oa on oc,.bool Y,.bool F,.int .i64 (radL K R T),.bool false,.slice none 0 0,.bool false,.bool false] [.nilIface,.nilIface,.nilIface,.nilIface,.nilIface] [.int .i64 0,.slice none 0 0,.bool false,.bool false,.int .i64 0,.bool false,.slice none 0 0,.bool false,.bool false] (.slice oa on oc) (.slice none 0 0) (orphL S) [])
  case first =>
   by_cases hE : invE K R T = none
   ·rw [hE] at hev
    obtain rfl:=hev.none_eq
    have hrd:=hrad.out.1 hE
    rw [hN.out] at hrd
    clear hev2
    replace hE:=Hd hE
    replace hev:=Hd hev
    have g15:=A9.cx 4 (by decide)
    have h15:=A9.fx 4
    have S15:=A9.sx 4 (.int .i64 N)
    have d15:=c9.setCell (p:=⟨x,4,none⟩) lowx.1 (.int .i64 N)
    have RK:=S15
    have Rb:=d15
    have hfin : LkAt w.heap.size (w9.setCell ⟨x,4,none⟩ (.int .i64 N)) w.heap.size x ee o [.int .i64 K,.int .i64 R,.slice va vn vc] [.int .i64 (ontoN S),.slice oa on oc,.bool Y,.bool F,.int .i64 (radL K R T),.bool false,.slice none 0 0,.bool false,.bool false] [.nilIface,.nilIface,.nilIface,.nilIface,.nilIface] [.int .i64 0,.slice none 0 0,.bool false,.bool false,.int .i64 0,.bool false,.slice none 0 0,.bool false,.bool false] (.slice oa on oc) (.slice none 0 0) (orphL S) []:=by rw [hrd]; exact RK
    clear RK hrd
    replace hfin:=Hd hfin
    replace Rb:=Hd Rb
    go_wp2
    go_meet
    case rel => exact ⟨Rb.out,hfin.out⟩
   ·have hrd:=hrad.out.2 hE
    have hcode : invE K R T = fresh sInverse 0 9 ∨ invE K R T = fresh sInverse 0 4:=by
     by_cases hno : NotOne K R T
     ·exact .inl (i1.out hno)
     ·refine .inr (i2.out hno (Classical.byContradiction fun q => hE (i3.out hno q)))
    have tb:=(hg.out.below c9).c4
    have tn:=(hg.out.below c9).c9
    have hgw:=hg.out.below c9
    clear hev2
    replace hE:=Hd hE
    replace hgw:=Hd hgw
    rcases hcode with hc | hc
    ·rw [hc] at hev
     have hev':=hev
     obtain ⟨zp,zu,rfl,-⟩:=hev'
     replace hc:=Hd hc
     replace hev:=Hd hev
     go_wp2_with fail
     refine (Errs.is_any r 9 _ _ _ hev.out).mono ?_
     rintro e w11 ⟨rfl,rfl⟩
     have g15:=A9.cx 4 (by decide)
     have h15:=A9.fx 4
     have S15:=A9.sx 4 (.int .i64 (-1))
     have d15:=c9.setCell (p:=⟨x,4,none⟩) lowx.1 (.int .i64 (-1))
     have RK:=S15
     have Rb:=d15
     have hfin : LkAt w.heap.size (w9.setCell ⟨x,4,none⟩ (.int .i64 (-1))) w.heap.size x ee o [.int .i64 K,.int .i64 R,.slice va vn vc] [.int .i64 (ontoN S),.slice oa on oc,.bool Y,.bool F,.int .i64 (radL K R T),.bool false,.slice none 0 0,.bool false,.bool false] [.nilIface,.nilIface,.nilIface,.nilIface,.nilIface] [.int .i64 0,.slice none 0 0,.bool false,.bool false,.int .i64 0,.bool false,.slice none 0 0,.bool false,.bool false] (.slice oa on oc) (.slice none 0 0) (orphL S) []:=by rw [hrd]; exact RK
     clear RK hrd
     replace hfin:=Hd hfin
     replace Rb:=Hd Rb
     go_wp2
     go_meet
     case rel => exact ⟨Rb.out,hfin.out⟩
    ·rw [hc] at hev
     have hev':=hev
     obtain ⟨zp,zu,rfl,-⟩:=hev'
     replace hc:=Hd hc
     replace hev:=Hd hev
     go_wp2_with fail
     refine (Errs.is_no r 4 9 _ _ _ hgw.out hev.out (by decide) (by decide) (by decide)).mono ?_
     rintro e w11 ⟨rfl,rfl⟩
     go_wp2_with fail
     refine (Errs.is_any r 4 _ _ _ hev.out).mono ?_
     rintro e w11 ⟨rfl,rfl⟩
     have g15:=A9.cx 4 (by decide)
     have h15:=A9.fx 4
     have S15:=A9.sx 4 (.int .i64 (-1))
     have d15:=c9.setCell (p:=⟨x,4,none⟩) lowx.1 (.int .i64 (-1))
     have RK:=S15
     have Rb:=d15
     have hfin : LkAt w.heap.size (w9.setCell ⟨x,4,none⟩ (.int .i64 (-1))) w.heap.size x ee o [.int .i64 K,.int .i64 R,.slice va vn vc] [.int .i64 (ontoN S),.slice oa on oc,.bool Y,.bool F,.int .i64 (radL K R T),.bool false,.slice none 0 0,.bool false,.bool false] [.nilIface,.nilIface,.nilIface,.nilIface,.nilIface] [.int .i64 0,.slice none 0 0,.bool false,.bool false,.int .i64 0,.bool false,.slice none 0 0,.bool false,.bool false] (.slice oa on oc) (.slice none 0 0) (orphL S) []:=by rw [hrd]; exact RK
     clear RK hrd
     replace hfin:=Hd hfin
     replace Rb:=Hd Rb
     go_wp2
     go_meet
     case rel => exact ⟨Rb.out,hfin.out⟩
  case rest =>
   obtain ⟨bd,AD⟩:=hcut
   clear hev hev2
   clear lowx
   have lowx:=AD.low
   have hBd:=bd.size
   have z0:=AD.cr 0 (by decide)
   have z1:=AD.cr 1 (by decide)
   have z2:=AD.cr 2 (by decide)
   go_wp2_with fail
   refine (of_ok K R _ T _ (h.out.below bd) hr.out).mono ?_
   rintro e w12 ⟨fv9,_,_,rfl,b12,rfl,rfl,hs1,hs0⟩
   clear z0 z1 z2
   obtain ⟨fa,fn,fc,rfl,hfo⟩ : ∃ a n c,fv9 = .slice a n c ∧ OwnI wc.heap.size w12 (.slice a n c) (facR K R T):=by
    cases hi : isSum K R T with
    | true => have ho:=hs1 hi; rw [← hsum.out.1 hi] at ho; obtain ⟨a,n,c,rfl⟩:=ho.at.shape; exact ⟨_,_,_,rfl,ho⟩
    | false => rw [hs0 hi,hsum.out.2 hi]; exact ⟨_,_,_,rfl,OwnI.nil _ _⟩
   clear hs1 hs0
   have A12:=AD.facs b12 bd.size hfo
   have c12:=Below.step bd b12
   replace hfo:=Hd hfo
   have g21:=A12.cx 6 (by decide)
   have h21:=A12.fx 6
   have S21:=A12.sx 6 (.slice fa fn fc)
   have d21:=c12.setCell (p:=⟨x,6,none⟩) lowx.1 (.slice fa fn fc)
   have g22:=S21.cx 5 (by decide)
   have h22:=S21.fx 5
   have S22:=S21.sx 5 (.bool (isSum K R T))
   have d22:=d21.setCell (p:=⟨x,5,none⟩) lowx.1 (.bool (isSum K R T))
   have g23:=S22.ce 3 (by decide)
   have h23:=S22.fe 3
   have S23:=S22.se 3 (.nilIface)
   have d23:=d22.setCell (p:=⟨ee,3,none⟩) lowx.2.1 (.nilIface)
   have z0:=S23.cr 0 (by decide)
   have z1:=S23.cr 1 (by decide)
   have z2:=S23.cr 2 (by decide)
   go_wp2_with fail
   refine (sides_ok K R va vn vc T _ (h.out.below d23) hr.out).mono ?_
   rintro e w13 ⟨_,_,_,rfl,b13,rfl,rfl,rfl⟩
   clear g21 h21 g22 h22 g23 h23 z0 z1 z2
   rw [hL.out,hP.out]
   have A13:=S23.below b13
   have c13:=Below.step d23 b13
   have g24:=A13.cx 7 (by decide)
   have h24:=A13.fx 7
   have S24:=A13.sx 7 (.bool L)
   have d24:=c13.setCell (p:=⟨x,7,none⟩) lowx.1 (.bool L)
   have g25:=S24.cx 8 (by decide)
   have h25:=S24.fx 8
   have S25:=S24.sx 8 (.bool P)
   have d25:=d24.setCell (p:=⟨x,8,none⟩) lowx.1 (.bool P)
   have g26:=S25.ce 4 (by decide)
   have h26:=S25.fe 4
   have S26:=S25.se 4 (.nilIface)
   have d26:=d25.setCell (p:=⟨ee,4,none⟩) lowx.2.1 (.nilIface)
   have AE:=S26
   have bE:=d26
   obtain ⟨WE,hWE⟩ : ∃ W : World,(((w13.setCell ⟨x,7,none⟩ (.bool L)).setCell ⟨x,8,none⟩ (.bool P)).setCell ⟨ee,4,none⟩ .nilIface) = W:=⟨_,rfl⟩
   rw [hWE] at AE bE
   replace AE:=Hd AE
   replace bE:=Hd bE
   replace hWE:=Hd hWE
   go_upto_region 23 with fail
   rw [hWE.out]
   replace AE:=AE.out
   replace bE:=bE.out
   clear g24 h24 g25 h25 g26 h26
   clear hWE
   have ce0:=AE.ce 0 (by decide)
   have ce1:=AE.ce 1 (by decide)
   have ce2:=AE.ce 2 (by decide)
   have ce3:=AE.ce 3 (by decide)
   have ce4:=AE.ce 4 (by decide)
   have cx0:=AE.cx 0 (by decide)
   have co0:=AE.co 0 (by decide)
   have cf0:=AE.fo 0
   have cx1:=AE.cx 1 (by decide)
   have co1:=AE.co 1 (by decide)
   have cf1:=AE.fo 1
   have cx2:=AE.cx 2 (by decide)
   have co2:=AE.co 2 (by decide)
   have cf2:=AE.fo 2
   have cx3:=AE.cx 3 (by decide)
   have co3:=AE.co 3 (by decide)
   have cf3:=AE.fo 3
   have cx4:=AE.cx 4 (by decide)
   have co4:=AE.co 4 (by decide)
   have cf4:=AE.fo 4
   have cx5:=AE.cx 5 (by decide)
   have co5:=AE.co 5 (by decide)
   have cf5:=AE.fo 5
   have cx6:=AE.cx 6 (by decide)
   have co6:=AE.co 6 (by decide)
   have cf6:=AE.fo 6
   have cx7:=AE.cx 7 (by decide)
   have co7:=AE.co 7 (by decide)
   have cf7:=AE.fo 7
   have cx8:=AE.cx 8 (by decide)
   have co8:=AE.co 8 (by decide)
   have cf8:=AE.fo 8
   have AF:=(((((((((AE.so 0 (.int .i64 (ontoN S))).so 1 (.slice oa on oc)).so 2 (.bool Y)).so 3 (.bool F)).so 4 (.int .i64 (radL K R T))).so 5 (.bool (isSum K R T))).so 6 (.slice fa fn fc)).so 7 (.bool L)).so 8 (.bool P))
   have bF:=(((((((((bE.setCell (p:=⟨o,0,none⟩) lowx.2.2 (.int .i64 (ontoN S))).setCell (p:=⟨o,1,none⟩) lowx.2.2 (.slice oa on oc)).setCell (p:=⟨o,2,none⟩) lowx.2.2 (.bool Y)).setCell (p:=⟨o,3,none⟩) lowx.2.2 (.bool F)).setCell (p:=⟨o,4,none⟩) lowx.2.2 (.int .i64 (radL K R T))).setCell (p:=⟨o,5,none⟩) lowx.2.2 (.bool (isSum K R T))).setCell (p:=⟨o,6,none⟩) lowx.2.2 (.slice fa fn fc)).setCell (p:=⟨o,7,none⟩) lowx.2.2 (.bool L)).setCell (p:=⟨o,8,none⟩) lowx.2.2 (.bool P))
   obtain ⟨WF,hWF⟩ : ∃ W : World,(((((((((WE.setCell ⟨o,0,none⟩ (.int .i64 (ontoN S))).setCell ⟨o,1,none⟩ (.slice oa on oc)).setCell ⟨o,2,none⟩ (.bool Y)).setCell ⟨o,3,none⟩ (.bool F)).setCell ⟨o,4,none⟩ (.int .i64 (radL K R T))).setCell ⟨o,5,none⟩ (.bool (isSum K R T))).setCell ⟨o,6,none⟩ (.slice fa fn fc)).setCell ⟨o,7,none⟩ (.bool L)).setCell ⟨o,8,none⟩ (.bool P)) = W:=⟨_,rfl⟩
   rw [hWF] at AF bF
   have cr0:=AF.co 0 (by decide)
   have cr1:=AF.co 1 (by decide)
   have cr2:=AF.co 2 (by decide)
   have cr3:=AF.co 3 (by decide)
   have cr4:=AF.co 4 (by decide)
   have cr5:=AF.co 5 (by decide)
   have cr6:=AF.co 6 (by decide)
   have cr7:=AF.co 7 (by decide)
   have cr8:=AF.co 8 (by decide)
   replace hWF:=Hd hWF
   replace cr0:=Hd cr0
   replace cr1:=Hd cr1
   replace cr2:=Hd cr2
   replace cr3:=Hd cr3
   replace cr4:=Hd cr4
   replace cr5:=Hd cr5
   replace cr6:=Hd cr6
   replace cr7:=Hd cr7
   replace cr8:=Hd cr8
   obtain ⟨l1,l2,l3⟩:=AF.lists
   have hrep : RepIs w.heap.size WF K R T (.agg #[.int .i64 (ontoN S),.slice oa on oc,.bool Y,.bool F,.int .i64 (radL K R T),.bool (isSum K R T),.slice fa fn fc,.bool L,.bool P]):=⟨Y,F,oa,on,oc,fa,fn,fc,hY.out,hF.out,by rw [hS.out,hL.out,hP.out],by rw [hS.out]; exact l1,l2,l3⟩
   clear AE AF l1 l2 l3 bE hg1 hG1 hT1 hB i1 i2 i3 hsum hrad hsm AC AD bc bd hN
   replace hrep:=Hd hrep
   replace bF:=Hd bF
   have ix0:=idx5_0
   have ix1:=idx5_1
   have ix2:=idx5_2
   have ix3:=idx5_3
   have ix4:=idx5_4
   go_wp2
   refine wp_loop_rounds 6 ?_
   iterate 6
    rw [rounds_succ]
    go_wp2
   rw [hWF.out]
   exact bodyPost_ret (v:=.tuple #[.agg #[.int .i64 (ontoN S),.slice oa on oc,.bool Y,.bool F,.int .i64 (radL K R T),.bool (isSum K R T),.slice fa fn fc,.bool L,.bool P],.nilIface]) (by simp [results,Tryz.results23,go_sem,cr0.out,cr1.out,cr2.out,cr3.out,cr4.out,cr5.out,cr6.out,cr7.out,cr8.out]) rfl ⟨_,_,rfl,bF.out,rfl,hrep.out⟩
end Go.Proofs.YtncpnaoabkjegaaGreatDoor
namespace Go.Proofs.YtncpnaoabkjegaaGreatDoor
/-- There is no inverse of a radius just if two words with one image differ in their middle. -/
theorem try_split {K R d : Nat} {T : List Int} (hr : RuleOk K R T) : (tryF K R T d).1 = false ↔ Split K R T (R + d):=by
 constructor
 ·intro h
  obtain ⟨u,v,hu,hv,lu,lv,hi,hne⟩:=try_fail hr h
  exact ⟨u,v,hu,hv,lu,lv,hne,hi⟩
 ·rintro ⟨x,y,sx,sy,lx,ly,hne,e⟩
  cases h : (tryF K R T d).1 with
  | false => rfl
  | true =>
   have ht:=try_takes hr h
   exact absurd (by rw [← ht x sx lx,← ht y sy ly,e]) hne
theorem find_fst {K R : Nat} {T T' : List Int} (hr : RuleOk K R T) (hr' : RuleOk K R T') (h : ∀ n,Split K R T n ↔ Split K R T' n) : ∀ m e,(findF K R T m e).map Prod.fst = (findF K R T' m e).map Prod.fst
 | 0,_ => rfl
 | m + 1,e => by
  have hb : (tryF K R T e).1 = (tryF K R T' e).1:=by
   have h1:=try_split (d:=e) hr
   have h2:=try_split (d:=e) hr'
   rw [h] at h1
   cases a : (tryF K R T e).1 <;> cases b : (tryF K R T' e).1 <;> simp_all
  unfold findF
  rw [hb]
  split
  ·rfl
  ·exact find_fst hr hr' h m (e + 1)
/-- Rules that split alike have inverses of one radius. -/
theorem find_radius {K R : Nat} {T T' : List Int} (hr : RuleOk K R T) (hr' : RuleOk K R T') (h : ∀ n,Split K R T n ↔ Split K R T' n) : (findP K R T).map Prod.fst = (findP K R T').map Prod.fst:=find_fst hr hr' h 4 0
theorem split_mir {K R : Nat} {T : List Int} (h : RuleOk K R T) {n : Nat} : Split K R (mirT K (2 * R + 1) T) n ↔ Split K R T n :=
 ⟨fun t => split_rev (fun _ hx => img_mir h hx) t,fun t => split_rev (T:=mirT K (2 * R + 1) T) (fun x hx => by rw [img_mir h (syms_rev hx),List.reverse_reverse,List.reverse_reverse]) t⟩
theorem pre_mir {K R : Nat} {T : List Int} (h : RuleOk K R T) {y : List Int} : HasPre K R (mirT K (2 * R + 1) T) y ↔ HasPre K R T y.reverse:=by
 constructor
 ·rintro ⟨x,sx,lx,ex⟩
  exact ⟨x.reverse,syms_rev sx,by simpa using lx,by rw [← ex,img_mir h sx,List.reverse_reverse]⟩
 ·rintro ⟨x,sx,lx,ex⟩
  exact ⟨x.reverse,syms_rev sx,by simpa using lx,by rw [img_mir h (syms_rev sx),List.reverse_reverse,ex,List.reverse_reverse]⟩
/-- The least length of a word that has no preimage. -/
def OrphanLen (K R : Nat) (T : List Int) (n : Nat) : Prop:=(∃ w,Syms K w ∧ w.length = n ∧ ¬ HasPre K R T w) ∧ ∀ y,Syms K y → y.length < n → HasPre K R T y
theorem OrphanLen.unique {K R : Nat} {T : List Int} {n m : Nat} (h : OrphanLen K R T n) (k : OrphanLen K R T m) : n = m:=by
 obtain ⟨⟨w,sw,lw,hw⟩,h2⟩:=h
 obtain ⟨⟨v,sv,lv,hv⟩,k2⟩:=k
 rcases Nat.lt_trichotomy n m with q | q | q
 ·exact absurd (k2 w sw (by omega)) hw
 ·exact q
 ·exact absurd (h2 v sv (by omega)) hv
theorem orphanLen_of {K R : Nat} {T : List Int} (hr : RuleOk K R T) {w : List Int} (h : subR K (pw K (2 * R)) T = .orphan w) : OrphanLen K R T w.length:=by
 obtain ⟨s,_,n,l⟩:=sub_orphan hr h
 exact ⟨⟨w,s,rfl,n⟩,l⟩
theorem orphanLen_mir {K R : Nat} {T : List Int} (h : RuleOk K R T) {n : Nat} (o : OrphanLen K R T n) : OrphanLen K R (mirT K (2 * R + 1) T) n:=by
 obtain ⟨⟨w,sw,lw,hw⟩,h2⟩:=o
 exact ⟨⟨w.reverse,syms_rev sw,by simpa using lw,fun q => hw (by have:=(pre_mir h).1 q; rwa [List.reverse_reverse] at this)⟩,fun y sy hy => (pre_mir h).2 (h2 _ (syms_rev sy) (by simpa using hy))⟩
theorem onto_mir {K R : Nat} {T : List Int} (h : RuleOk K R T) : Onto K R (mirT K (2 * R + 1) T) ↔ Onto K R T:=by
 constructor
 ·intro ho y sy
  have:=(pre_mir h).1 (ho y.reverse (syms_rev sy))
  rwa [List.reverse_reverse] at this
 ·intro ho y sy
  exact (pre_mir h).2 (ho _ (syms_rev sy))
theorem Sm_cons (f : Nat → Int) (n : Nat) : Sm f (n + 1) = f 0 + Sm (fun i => f (i + 1)) n:=by
 induction n with
 | zero => simp [Sm]
 | succ n ih => rw [Sm,ih,Sm]; omega
theorem Sm_rev (f : Nat → Int) (n : Nat) : Sm (fun i => f (n - 1 - i)) n = Sm f n:=by
 induction n generalizing f with
 | zero => rfl
 | succ n ih =>
  rw [Sm_cons (fun i => f (n + 1 - 1 - i)),Sm,← ih f]
  have e : Sm (fun i => f (n + 1 - 1 - (i + 1))) n = Sm (fun i => f (n - 1 - i)) n:=Sm_congr n fun i hi => by congr 1; omega
  rw [e]
  show f (n + 1 - 1 - 0) + _ = _
  rw [show n + 1 - 1 - 0 = n by omega]; omega
theorem getD_rev {l : List Int} {i : Nat} (h : i < l.length) : l.reverse.getD i 0 = l.getD (l.length - 1 - i) 0:=by
 simp [List.getD,h,show l.length - 1 - i < l.length by omega]
/-- A sum's mirror is the sum with the factors from their end. -/
theorem mir_sumT {K : Nat} (hK : 1 ≤ K) (f : List Int) : mirT K f.length (sumT K f) = sumT K f.reverse:=by
 have l1:=sumT_length K f
 refine ext_getD (by rw [mirT_length,l1,sumT_length,List.length_reverse]) fun t ht => ?_
 rw [mirT_length,l1] at ht
 have hw:=digs_syms hK f.length t
 have hl:=digs_length K f.length t
 have en:=numW_digs hK f.length t ht
 rw [← en,mirT_at hK l1 _ hw hl,sumT_at K f _ (by rw [List.length_reverse,hl]) (syms_rev hw),sumT_at K f.reverse _ (by rw [List.length_reverse,hl]) hw,List.length_reverse,← Sm_rev]
 congr 1
 refine Sm_congr _ fun i hi => ?_
 rw [getD_rev (by rw [hl]; omega),getD_rev hi,hl]
 congr 2
 omega
theorem sum_mir {K R : Nat} {T : List Int} (hr : RuleOk K R T) (h : isSum K R T = true) : isSum K R (mirT K (2 * R + 1) T) = true ∧ facs K R (mirT K (2 * R + 1) T) = (facs K R T).reverse:=by
 have e : sumT K (facs K R T) = T:=of_decide_eq_true h
 have hl:=facs_length K R T
 have hm:=mir_sumT hr.k1 (facs K R T)
 rw [hl,e] at hm
 have hs : Syms K (facs K R T).reverse:=syms_rev (facs_syms hr)
 rw [hm]
 exact ⟨isSum_sumT1 hr.k1 (by rw [List.length_reverse,hl]) hs,facs_sumT1 hr.k1 (by rw [List.length_reverse,hl]) hs⟩
theorem mir_mir {K R : Nat} {T : List Int} (hr : RuleOk K R T) : mirT K (2 * R + 1) (mirT K (2 * R + 1) T) = T:=by
 have hm:=mirT_ok hr
 refine ext_getD (by rw [mirT_length,mirT_length]) fun t ht => ?_
 rw [mirT_length,mirT_length,hr.len] at ht
 have hw:=digs_syms hr.k1 (2 * R + 1) t
 have hl:=digs_length K (2 * R + 1) t
 have en:=numW_digs hr.k1 (2 * R + 1) t ht
 rw [← en,mirT_at hr.k1 hm.len _ hw hl,mirT_at hr.k1 hr.len _ (syms_rev hw) (by rw [List.length_reverse,hl]),List.reverse_reverse]
theorem isSum_mir {K R : Nat} {T : List Int} (hr : RuleOk K R T) : isSum K R (mirT K (2 * R + 1) T) = isSum K R T:=by
 cases h : isSum K R T with
 | true => exact (sum_mir hr h).1
 | false =>
  cases h2 : isSum K R (mirT K (2 * R + 1) T) with
  | false => rfl
  | true =>
   have:=(sum_mir (mirT_ok hr) h2).1
   rw [mir_mir hr,h] at this; cases this
theorem right_ext {K R : Nat} {T : List Int} (h : RuleOk K R T) (hp : unlikeP K T 1 = true) {u : List Int} (hu : Syms K u) (hl : u.length = 2 * R) {y : Int} (y0 : 0 ≤ y) (y1 : y < K) : ∃ s : Int,0 ≤ s ∧ s < K ∧ T.getD (numW K (u ++ [s])) 0 = y:=by
 have h1:=h.k1
 have hn:=numW_lt u hu
 rw [hl] at hn
 have hf:=unlikeP_full hp (numW K u * K) (by rw [h.half.2]; exact Nat.mul_lt_mul_of_pos_right hn (by omega)) (by rw [Nat.div_one,Nat.mul_mod_left])
 obtain ⟨s,hs,he⟩:=fullP_all h1 h.syms hf y.toNat (by omega)
 rw [Nat.mul_one] at he
 refine ⟨s,by omega,by omega,?_⟩
 rw [numW_snoc,Int.toNat_natCast,he]
 omega
theorem left_ext {K R : Nat} {T : List Int} (h : RuleOk K R T) (hp : unlikeP K T (T.length / K) = true) {u : List Int} (hu : Syms K u) (hl : u.length = 2 * R) {y : Int} (y0 : 0 ≤ y) (y1 : y < K) : ∃ s : Int,0 ≤ s ∧ s < K ∧ T.getD (numW K (s :: u)) 0 = y:=by
 obtain ⟨s,s0,s1,e⟩:=right_ext (mirT_ok h) (by rw [(mir_sides h).2]; exact hp) (syms_rev hu) (by rw [List.length_reverse,hl]) y0 y1
 refine ⟨s,s0,s1,?_⟩
 have sw : Syms K (u.reverse ++ [s]):=syms_snoc s0 s1 (syms_rev hu)
 rw [mirT_at h.k1 h.len _ sw (by simp [hl]),List.reverse_append,List.reverse_reverse] at e
 exact e
/-- The first place where two words differ. -/
theorem firstP_ne {a b : List Int} (hl : a.length = b.length) (hne : a ≠ b) : ∃ t,t < a.length ∧ a.getD t 0 ≠ b.getD t 0 ∧ ∀ i,i < t → a.getD i 0 = b.getD i 0:=by
 have key : ∀ n,(∃ t,t ≤ n ∧ t < a.length ∧ a.getD t 0 ≠ b.getD t 0) → ∃ t,t < a.length ∧ a.getD t 0 ≠ b.getD t 0 ∧ ∀ i,i < t → a.getD i 0 = b.getD i 0:=by
  intro n
  induction n with
  | zero => rintro ⟨t,h1,h2,h3⟩; exact ⟨t,h2,h3,fun i hi => by omega⟩
  | succ n ih =>
   rintro ⟨t,h1,h2,h3⟩
   by_cases q : ∃ t,t ≤ n ∧ t < a.length ∧ a.getD t 0 ≠ b.getD t 0
   ·exact ih q
   ·refine ⟨t,h2,h3,fun i hi => Classical.byContradiction fun r => q ⟨i,by omega,by omega,r⟩⟩
 obtain ⟨j,hj,h⟩:=ne_at hl hne
 exact key j ⟨j,Nat.le_refl _,hj,h⟩
theorem right_no_twins {K R : Nat} {T : List Int} (h : RuleOk K R T) (hp : unlikeP K T 1 = true) (a b : List Int) : ¬ IsTwins K R T a b:=fun t => by
 have hw:=(unlike_rightW h).1 hp
 have hl:=t.len
 obtain ⟨i,hi,hne,heq⟩:=firstP_ne hl t.ne
 have hi2 : 2 * R ≤ i:=by
  apply Classical.byContradiction
  intro q
  have e:=congrArg (fun l : List Int => l.getD i 0) t.front
  rw [List.getD_eq_getElem?_getD,List.getD_eq_getElem?_getD,List.getElem?_take,List.getElem?_take,if_pos (by omega),if_pos (by omega),← List.getD_eq_getElem?_getD,← List.getD_eq_getElem?_getD] at e
  exact hne e
 have hu : (a.drop (i - 2 * R)).take (2 * R) = (b.drop (i - 2 * R)).take (2 * R):=ext_getD (by simp only [List.length_take,List.length_drop]; omega) fun k hk => by
  rw [List.length_take,List.length_drop] at hk
  rw [sub_get (by omega),sub_get (by omega)]
  exact heq _ (by omega)
 have win : ∀ c : List Int,c.length = a.length → (c.drop (i - 2 * R)).take (2 * R + 1) = (c.drop (i - 2 * R)).take (2 * R) ++ [c.getD i 0]:=fun c hc => by
  have hk : 2 * R < (c.drop (i - 2 * R)).length:=by rw [List.length_drop]; omega
  rw [List.take_succ_eq_append_getElem hk]
  congr 2
  rw [List.getElem_drop]
  have : i - 2 * R + 2 * R = i:=by omega
  simp [this,List.getD,show i < c.length by omega]
 have e:=congrArg (fun l : List Int => l.getD (i - 2 * R) 0) t.img
 rw [imgP_getD _ _ _ _ _ (by omega),imgP_getD _ _ _ _ _ (by omega),win a rfl,win b hl.symm,hu] at e
 have ga:=getD_syms t.sa hi
 have gb:=getD_syms t.sb (i:=i) (by omega)
 exact hw _ (syms_take (syms_drop t.sb _) _) (by rw [List.length_take,List.length_drop]; omega) _ _ ga.1 ga.2 gb.1 gb.2 hne e
theorem side_no_twins {K R : Nat} {T : List Int} (h : RuleOk K R T) (hp : unlikeP K T (T.length / K) = true ∨ unlikeP K T 1 = true) (a b : List Int) : ¬ IsTwins K R T a b:=fun t => by
 rcases hp with hp | hp
 ·exact right_no_twins (mirT_ok h) (by rw [(mir_sides h).2]; exact hp) _ _ (mir_twins h t)
 ·exact right_no_twins h hp a b t
/-- Words all of whose windows have one answer. -/
def AllAt (K R : Nat) (T : List Int) (z : Int) (x : List Int) : Prop:=∀ j,j + 2 * R < x.length → T.getD (numW K ((x.drop j).take (2 * R + 1))) 0 = z
theorem all_right {K R : Nat} {T : List Int} (h : RuleOk K R T) (hp : unlikeP K T 1 = true) {z : Int} (z0 : 0 ≤ z) (z1 : z < K) {x : List Int} (sx : Syms K x) (hx : AllAt K R T z x) (hl : 2 * R ≤ x.length) : ∃ v : Int,0 ≤ v ∧ v < K ∧ AllAt K R T z (x ++ [v]):=by
 obtain ⟨v,v0,v1,e⟩:=right_ext h hp (u:=x.drop (x.length - 2 * R)) (syms_drop sx _) (by rw [List.length_drop]; omega) z0 z1
 refine ⟨v,v0,v1,fun j hj => ?_⟩
 rw [List.length_append,List.length_singleton] at hj
 by_cases q : j + 2 * R < x.length
 ·rw [List.drop_append_of_le_length (by omega),List.take_append_of_le_length (by rw [List.length_drop]; omega)]
  exact hx j q
 ·obtain rfl : j = x.length - 2 * R:=by omega
  rw [List.drop_append_of_le_length (by omega),List.take_of_length_le (by simp; omega)]
  exact e
theorem all_left {K R : Nat} {T : List Int} (h : RuleOk K R T) (hp : unlikeP K T (T.length / K) = true) {z : Int} (z0 : 0 ≤ z) (z1 : z < K) {x : List Int} (sx : Syms K x) (hx : AllAt K R T z x) (hl : 2 * R ≤ x.length) : ∃ v : Int,0 ≤ v ∧ v < K ∧ AllAt K R T z (v :: x):=by
 obtain ⟨v,v0,v1,e⟩:=left_ext h hp (u:=x.take (2 * R)) (syms_take sx _) (by rw [List.length_take]; omega) z0 z1
 refine ⟨v,v0,v1,fun j hj => ?_⟩
 rw [List.length_cons] at hj
 cases j with
 | zero => rw [List.drop_zero,List.take_succ_cons]; exact e
 | succ j => rw [List.drop_succ_cons]; exact hx j (by omega)
theorem all_word {K R : Nat} {T : List Int} (h : RuleOk K R T) (hl : unlikeP K T (T.length / K) = true) (hr : unlikeP K T 1 = true) (hK : 2 ≤ K) (hR : 1 ≤ R) {z : Int} (z0 : 0 ≤ z) (z1 : z < K) : ∀ L M,∃ x,Syms K x ∧ AllAt K R T z x ∧ x.length = L + 2 * R + M ∧ x.getD L 0 = 1:=by
 intro L
 have left : ∃ x,Syms K x ∧ AllAt K R T z x ∧ x.length = L + 2 * R ∧ x.getD L 0 = 1:=by
  induction L with
  | zero =>
   refine ⟨1 :: List.replicate (2 * R - 1) 0,fun q hq => ?_,fun j hj => ?_,by simp; omega,rfl⟩
   ·rcases List.mem_cons.1 hq with rfl | hq
    ·omega
    ·rw [List.eq_of_mem_replicate hq]; omega
   ·rw [List.length_cons,List.length_replicate] at hj; omega
  | succ L ih =>
   obtain ⟨x,sx,ax,lx,dx⟩:=ih
   obtain ⟨v,v0,v1,av⟩:=all_left h hl z0 z1 sx ax (by omega)
   exact ⟨v :: x,syms_cons v0 v1 sx,av,by simp [lx]; omega,by rw [List.getD_cons_succ]; exact dx⟩
 intro M
 induction M with
 | zero => exact left
 | succ M ih =>
  obtain ⟨x,sx,ax,lx,dx⟩:=ih
  obtain ⟨v,v0,v1,av⟩:=all_right h hr z0 z1 sx ax (by omega)
  refine ⟨x ++ [v],syms_snoc v0 v1 sx,av,by simp [lx]; omega,?_⟩
  rw [← dx]
  simp [List.getD,List.getElem?_append_left (show L < x.length by omega)]
/-- A rule that permutes at both sides is not one to one, but for one symbol or radius 0. -/
theorem sides_not_one {K R : Nat} {T : List Int} (h : RuleOk K R T) (hl : unlikeP K T (T.length / K) = true) (hr : unlikeP K T 1 = true) (hK : 2 ≤ K) (hR : 1 ≤ R) : NotOne K R T:=fun n => by
 have hT : 0 < T.length:=by rw [h.len]; exact pw_pos _ h.k1
 have gz:=getD_syms h.syms hT
 obtain ⟨x,sx,ax,lx,dx⟩:=all_word h hl hr hK hR gz.1 gz.2 n (n + 1)
 have sO : Syms K (List.replicate (2 * n + 1) (0 : Int)):=fun q hq => by rw [List.eq_of_mem_replicate hq]; omega
 refine ⟨x.take (2 * n + 1),List.replicate (2 * n + 1) 0,syms_take sx _,sO,by rw [List.length_take]; omega,by simp,?_,?_⟩
 ·rw [List.getD_eq_getElem?_getD,List.getElem?_take,if_pos (by omega),← List.getD_eq_getElem?_getD,dx]
  simp [List.getD,show n < 2 * n + 1 by omega]
 ·refine ext_getD (by rw [imgP_length,imgP_length,List.length_take]; simp; omega) fun j hj => ?_
  rw [imgP_length,List.length_take] at hj
  rw [imgP_getD _ _ _ _ _ (by rw [List.length_take]; omega),imgP_getD _ _ _ _ _ (by simp; omega)]
  have e1 : ((x.take (2 * n + 1)).drop j).take (2 * R + 1) = (x.drop j).take (2 * R + 1):=by rw [List.drop_take,List.take_take,Nat.min_eq_left (by omega)]
  rw [e1,ax j (by omega),List.drop_replicate,List.take_replicate]
  congr 1
  have key : ∀ m,numW K (List.replicate m (0 : Int)) = 0:=fun m => by
   induction m with
   | zero => rfl
   | succ m ih => rw [List.replicate_succ',numW_snoc,ih]; simp
  exact (key _).symm
open Go.RowKit
set_option maxRecDepth 100000
def sLab : ByteArray:=⟨#[108,97,98]⟩
/-- The report that tells nothing. -/
abbrev zRep : Value:=.agg #[.int .i64 0,.slice none 0 0,.bool false,.bool false,.int .i64 0,.bool false,.slice none 0 0,.bool false,.bool false]
/-- A report's cells. -/
structure Cells9 (w : World) (g : Nat) (v0 v1 v2 v3 v4 v5 v6 v7 v8 : Value) : Prop where
 c0 : w.cell? ⟨g,0,none⟩ = some v0
 c1 : w.cell? ⟨g,1,none⟩ = some v1
 c2 : w.cell? ⟨g,2,none⟩ = some v2
 c3 : w.cell? ⟨g,3,none⟩ = some v3
 c4 : w.cell? ⟨g,4,none⟩ = some v4
 c5 : w.cell? ⟨g,5,none⟩ = some v5
 c6 : w.cell? ⟨g,6,none⟩ = some v6
 c7 : w.cell? ⟨g,7,none⟩ = some v7
 c8 : w.cell? ⟨g,8,none⟩ = some v8
theorem Cells9.below {w w' : World} {g : Nat} {v0 v1 v2 v3 v4 v5 v6 v7 v8 : Value} (h : Cells9 w g v0 v1 v2 v3 v4 v5 v6 v7 v8) (hb : Below w.heap.size w w') : Cells9 w' g v0 v1 v2 v3 v4 v5 v6 v7 v8 :=
 ⟨cell_keep hb h.c0,cell_keep hb h.c1,cell_keep hb h.c2,cell_keep hb h.c3,cell_keep hb h.c4,cell_keep hb h.c5,cell_keep hb h.c6,cell_keep hb h.c7,cell_keep hb h.c8⟩
theorem Cells9.alloc (w : World) (T : TypeId) (v0 v1 v2 v3 v4 v5 v6 v7 v8 : Value) : Cells9 (w.alloc (.cells #[v0,v1,v2,v3,v4,v5,v6,v7,v8] T)) w.heap.size v0 v1 v2 v3 v4 v5 v6 v7 v8:=by
 refine ⟨?_,?_,?_,?_,?_,?_,?_,?_,?_⟩ <;> simp [go_sem]
set_option maxHeartbeats 1000000 in
theorem look_bad (r : Nat → Addr) (k R : Int) (va : Option Addr) (vn vc : Nat) (T : List Int) (t : Int × List (ByteArray × Int)) (w : World) (hg : Glob r w) (h : IntsAt w (.slice va vn vc) T) (hc : smallP k R T = some t) :
 Calls Tryz.prog 23 #[.agg #[.int .i64 k,.int .i64 R,.slice va vn vc]] w (Ret2 (fun x y w' => x = zRep ∧ ErrIs r w' (under sLab 0 (some t)) y) w):=by
 have b0:=belowAlloc w (.cells #[.int .i64 k,.int .i64 R,.slice va vn vc] 24)
 have b1:=belowAlloc (w.alloc (.cells #[.int .i64 k,.int .i64 R,.slice va vn vc] 24)) (.cells #[.int .i64 0,.slice none 0 0,.bool false,.bool false,.int .i64 0,.bool false,.slice none 0 0,.bool false,.bool false] 46)
 have b01:=Below.step b0 b1
 have q : Box3 (w.alloc (.cells #[.int .i64 k,.int .i64 R,.slice va vn vc] 24)) w.heap.size (.int .i64 k) (.int .i64 R) (.slice va vn vc):=by simp [Box3,go_sem]
 replace q:=q.below b1
 obtain ⟨f1,hR1,n42,-⟩:=((Rows.void w.heap.size w).below b0).mkN (42,0) (by simp) 46 9 #[.int .i64 0,.slice none 0 0,.bool false,.bool false,.int .i64 0,.bool false,.slice none 0 0,.bool false,.bool false] rfl
 have hsz : (w.alloc (.cells #[.int .i64 k,.int .i64 R,.slice va vn vc] 24)).heap.size = w.heap.size + 1:=by simp
 rw [hsz] at n42
 obtain ⟨w1,hw1⟩ : ∃ W : World,(w.alloc (.cells #[.int .i64 k,.int .i64 R,.slice va vn vc] 24)).alloc (.cells #[.int .i64 0,.slice none 0 0,.bool false,.bool false,.int .i64 0,.bool false,.slice none 0 0,.bool false,.bool false] 46) = W:=⟨_,rfl⟩
 rw [hw1] at q b01 hR1
 replace hg:=Hd (hg.below b01)
 replace h:=Hd (h.below b01)
 replace hc:=Hd hc
 replace hR1:=Hd hR1
 obtain ⟨o,ho⟩ : ∃ o,w.heap.size + 1 = o:=⟨_,rfl⟩
 rw [ho] at n42
 replace ho:=Hd ho
 replace n42:=Hd n42
 replace hw1:=Hd hw1
 clear b0 b1 hsz
 obtain ⟨⟨z0,z1,z2⟩,-,-,-⟩:=q
 go_enter Tryz.func23,Tryz.ntmps23
 go_upto_region 1 with fail
 rw [hw1.out,ho.out]
 go_wp2_with fail
 refine (small_any r k R va vn vc T w1 hg.out h.out).mono ?_
 rintro e w2 ⟨x,rfl,b2,he⟩
 rw [hc.out] at he
 obtain ⟨T2,p2,rfl⟩:=he.some_shape
 clear z0 z1 z2
 have b12:=Below.step b01 b2
 have hund:=under_any r sLab 0 (some t) _ w2 he
 replace he:=Hd he
 go_wp2_with fail
 refine hund.mono ?_
 rintro e w3 ⟨y,rfl,b3,hy⟩
 clear hund
 have b13:=Below.step b12 b3
 have R3:=(hR1.out.below b2).below b3
 have co0:=R3.cellN n42.out 0 (by decide)
 have cf0:=R3.frzN n42.out 0
 have co1:=R3.cellN n42.out 1 (by decide)
 have cf1:=R3.frzN n42.out 1
 have co2:=R3.cellN n42.out 2 (by decide)
 have cf2:=R3.frzN n42.out 2
 have co3:=R3.cellN n42.out 3 (by decide)
 have cf3:=R3.frzN n42.out 3
 have co4:=R3.cellN n42.out 4 (by decide)
 have cf4:=R3.frzN n42.out 4
 have co5:=R3.cellN n42.out 5 (by decide)
 have cf5:=R3.frzN n42.out 5
 have co6:=R3.cellN n42.out 6 (by decide)
 have cf6:=R3.frzN n42.out 6
 have co7:=R3.cellN n42.out 7 (by decide)
 have cf7:=R3.frzN n42.out 7
 have co8:=R3.cellN n42.out 8 (by decide)
 have cf8:=R3.frzN n42.out 8
 have lo:=(R3.lowN n42.out).1
 have bF:=(((((((((b13.setCell (p:=⟨o,0,none⟩) lo (.int .i64 0)).setCell (p:=⟨o,1,none⟩) lo (.slice none 0 0)).setCell (p:=⟨o,2,none⟩) lo (.bool false)).setCell (p:=⟨o,3,none⟩) lo (.bool false)).setCell (p:=⟨o,4,none⟩) lo (.int .i64 0)).setCell (p:=⟨o,5,none⟩) lo (.bool false)).setCell (p:=⟨o,6,none⟩) lo (.slice none 0 0)).setCell (p:=⟨o,7,none⟩) lo (.bool false)).setCell (p:=⟨o,8,none⟩) lo (.bool false))
 obtain ⟨g0,Q0,m0,-⟩:=R3.stN n42.out 0 (.int .i64 0)
 obtain ⟨g1,Q1,m1,-⟩:=Q0.stN m0 1 (.slice none 0 0)
 obtain ⟨g2,Q2,m2,-⟩:=Q1.stN m1 2 (.bool false)
 obtain ⟨g3,Q3,m3,-⟩:=Q2.stN m2 3 (.bool false)
 obtain ⟨g4,Q4,m4,-⟩:=Q3.stN m3 4 (.int .i64 0)
 obtain ⟨g5,Q5,m5,-⟩:=Q4.stN m4 5 (.bool false)
 obtain ⟨g6,Q6,m6,-⟩:=Q5.stN m5 6 (.slice none 0 0)
 obtain ⟨g7,Q7,m7,-⟩:=Q6.stN m6 7 (.bool false)
 obtain ⟨g8,Q8,m8,-⟩:=Q7.stN m7 8 (.bool false)
 have hyF : ErrIs r (((((((((w3.setCell ⟨o,0,none⟩ (.int .i64 0)).setCell ⟨o,1,none⟩ (.slice none 0 0)).setCell ⟨o,2,none⟩ (.bool false)).setCell ⟨o,3,none⟩ (.bool false)).setCell ⟨o,4,none⟩ (.int .i64 0)).setCell ⟨o,5,none⟩ (.bool false)).setCell ⟨o,6,none⟩ (.slice none 0 0)).setCell ⟨o,7,none⟩ (.bool false)).setCell ⟨o,8,none⟩ (.bool false)) (under sLab 0 (some t)) y:=by
  have cs : ∀ (W : World) (f : Names) (cs : List Value) (c0 : ∀ s,cs[0]? ≠ some (.string s)) (R : Rows w.heap.size W f) (n : f (42,0) = some (boxN 46 9 o cs)) (k : Nat) (u : Value),ErrIs r W (under sLab 0 (some t)) y → ErrIs r (W.setCell ⟨o,k,none⟩ u) (under sLab 0 (some t)) y:=fun W f cs c0 R n k u h => h.set (b:=o) (i:=k) (fun s q => c0 s ((R.cellN n 0 (by decide)).symm.trans q)) u
  exact (cs _ _ _ (by intro s q; simp at q) Q7 m7 8 _ (cs _ _ _ (by intro s q; simp at q) Q6 m6 7 _ (cs _ _ _ (by intro s q; simp at q) Q5 m5 6 _ (cs _ _ _ (by intro s q; simp at q) Q4 m4 5 _ (cs _ _ _ (by intro s q; simp at q) Q3 m3 4 _ (cs _ _ _ (by intro s q; simp at q) Q2 m2 3 _ (cs _ _ _ (by intro s q; simp at q) Q1 m1 2 _ (cs _ _ _ (by intro s q; simp at q) Q0 m0 1 _ (cs _ _ _ (by intro s q; simp at q) R3 n42.out 0 _ hy)))))))))
 obtain ⟨WF,hWF⟩ : ∃ W : World,(((((((((w3.setCell ⟨o,0,none⟩ (.int .i64 0)).setCell ⟨o,1,none⟩ (.slice none 0 0)).setCell ⟨o,2,none⟩ (.bool false)).setCell ⟨o,3,none⟩ (.bool false)).setCell ⟨o,4,none⟩ (.int .i64 0)).setCell ⟨o,5,none⟩ (.bool false)).setCell ⟨o,6,none⟩ (.slice none 0 0)).setCell ⟨o,7,none⟩ (.bool false)).setCell ⟨o,8,none⟩ (.bool false)) = W:=⟨_,rfl⟩
 rw [hWF] at bF hyF Q8
 have cr0:=Hd (Q8.cellN m8 0 (by decide))
 have cr1:=Hd (Q8.cellN m8 1 (by decide))
 have cr2:=Hd (Q8.cellN m8 2 (by decide))
 have cr3:=Hd (Q8.cellN m8 3 (by decide))
 have cr4:=Hd (Q8.cellN m8 4 (by decide))
 have cr5:=Hd (Q8.cellN m8 5 (by decide))
 have cr6:=Hd (Q8.cellN m8 6 (by decide))
 have cr7:=Hd (Q8.cellN m8 7 (by decide))
 have cr8:=Hd (Q8.cellN m8 8 (by decide))
 replace hyF:=Hd hyF
 replace hWF:=Hd hWF
 replace bF:=Hd bF
 clear R3 n42 hR1 hg h hy he Q0 m0 Q1 m1 Q2 m2 Q3 m3 Q4 m4 Q5 m5 Q6 m6 Q7 m7 Q8 m8 b01 b2 b12 b3 b13 lo
 obtain ⟨T3,p3,rfl⟩ : ∃ T a,y = .iface T (.pointer (some a)):=by
  have hh:=hyF.out
  unfold under at hh
  exact hh.some_shape
 go_wp2
 rw [hWF.out]
 exact bodyPost_ret (v:=.tuple #[zRep,.iface T3 (.pointer (some p3))]) (by simp [results,Tryz.results23,go_sem,cr0.out,cr1.out,cr2.out,cr3.out,cr4.out,cr5.out,cr6.out,cr7.out,cr8.out]) rfl ⟨_,_,rfl,bF.out,rfl,hyF.out⟩
/-- A report's kind. -/
def kindB (Y F : Bool) : ByteArray:=if Y = true then ⟨#[114,101,118,101,114,115,105,98,108,101]⟩ else if F = true then ⟨#[111,110,116,111]⟩ else ⟨#[108,111,115,115,121]⟩
theorem kind_any (v0 v1 v4 v5 v6 v7 v8 : Value) (Y F : Bool) (w : World) :
 Calls Tryz.prog 31 #[.agg #[v0,v1,.bool Y,.bool F,v4,v5,v6,v7,v8]] w (Ret1 (fun x _ => x = .string (kindB Y F)) w):=by
 have b0:=belowAlloc w (.cells #[v0,v1,.bool Y,.bool F,v4,v5,v6,v7,v8] 46)
 cases Y <;> cases F <;> (go_enter Tryz.func31,Tryz.ntmps31; go_wp2; go_ret; exact ⟨_,rfl,b0,rfl⟩)
theorem heavy26 (r : Nat → Addr) (k R : Int) (va : Option Addr) (vn vc : Nat) (T : List Int) (w : World) (hg : Glob r w) (h : IntsAt w (.slice va vn vc) T) :
 Calls Tryz.prog 22 #[.agg #[.int .i64 k,.int .i64 R,.slice va vn vc]] w (Ret1 (fun x _ => ∃ b,x = .bool b ∧ (b = true ↔ 64 < T.length ∧ smallP k R T = none)) w):=by
 have b0:=belowAlloc w (.cells #[.int .i64 k,.int .i64 R,.slice va vn vc] 24)
 have q : Box3 (w.alloc (.cells #[.int .i64 k,.int .i64 R,.slice va vn vc] 24)) w.heap.size (.int .i64 k) (.int .i64 R) (.slice va vn vc):=by simp [Box3,go_sem]
 have lT:=h.len
 obtain ⟨tl,htl⟩ : ∃ t,T.length = t:=⟨_,rfl⟩
 rw [htl] at lT ⊢
 replace htl:=Hd htl
 replace hg:=Hd (hg.below b0)
 replace h:=Hd (h.below b0)
 obtain ⟨⟨z0,z1,z2⟩,-,-,-⟩:=q
 by_cases c : 64 < tl
 ·have d : decide (64 < (tl : Int)) = true:=decide_eq_true (by omega)
  have d' : decide ((tl : Int) > 64) = true:=decide_eq_true (by omega)
  go_enter Tryz.func22,Tryz.ntmps22
  go_wp2_with fail
  refine (small_any r k R va vn vc T _ hg.out h.out).mono ?_
  rintro e w1 ⟨x,rfl,b1,he⟩
  have b01:=Below.step b0 b1
  clear z0 z1 z2
  cases hc : smallP k R T with
  | none =>
   rw [hc] at he
   obtain rfl:=he.none_eq
   clear he
   go_wp2
   go_ret
   exact ⟨_,rfl,b01,true,rfl,⟨fun _ => ⟨c,hc⟩,fun _ => rfl⟩⟩
  | some t =>
   rw [hc] at he
   obtain ⟨T4,p4,rfl⟩:=he.some_shape
   clear he
   go_wp2
   go_ret
   exact ⟨_,rfl,b01,false,rfl,⟨fun q => (by cases q),fun q => (by rw [hc] at q; cases q.2)⟩⟩
 ·have d : decide (64 < (tl : Int)) = false:=decide_eq_false (by omega)
  have d' : decide ((tl : Int) > 64) = false:=decide_eq_false (by omega)
  go_enter Tryz.func22,Tryz.ntmps22
  go_wp2
  go_ret
  exact ⟨_,rfl,b0,false,rfl,⟨fun q => (by cases q),fun q => absurd q.1 c⟩⟩
/-- Rule 90. -/
def tab26 : List Int:=[0,1,0,1,1,0,1,0]
theorem tab26_ok : RuleOk 2 1 tab26:=⟨by decide,by decide,by decide,by decide,by intro x hx; simp [tab26] at hx; omega⟩
theorem tab26_u1 : unlikeP 2 tab26 1 = true:=by decide +kernel
theorem tab26_u4 : unlikeP 2 tab26 (tab26.length / 2) = true:=by decide +kernel
theorem tab26_not : NotOne 2 1 tab26:=sides_not_one tab26_ok tab26_u4 tab26_u1 (by decide) (by decide)
theorem tab26_on : ontoN (subR 2 (pw 2 (2 * 1)) tab26) = 1:=by decide +kernel
theorem tab26_rad : radL 2 1 tab26 = -1:=by
 unfold radL
 rw [(invE_ok tab26_ok (by decide)).1 tab26_not,if_neg (by unfold fresh; simp)]
set_option maxHeartbeats 2000000 in
theorem awake26 (r : Nat → Addr) (w : World) (hg : Glob r w) (hG : GlobE w) : Calls Tryz.prog 21 #[] w (Ret1 (fun x _ => x = .bool true) w):=by
 have bl:=belowAlloc w (.cells #[.int .i64 0,.int .i64 1,.int .i64 0,.int .i64 1,.int .i64 1,.int .i64 0,.int .i64 1,.int .i64 0] 3)
 have hlit:=lit_ints w tab26 #[.int .i64 0,.int .i64 1,.int .i64 0,.int .i64 1,.int .i64 1,.int .i64 0,.int .i64 1,.int .i64 0] rfl (by decide)
 replace hg:=hg.below bl
 replace hG:=hG.below bl
 have look:=look_ok r 2 1 (some ⟨w.heap.size,0,none⟩) 8 8 tab26 _ hg hG hlit tab26_ok (by decide)
 clear hlit
 replace hg:=Hd hg
 replace hG:=Hd hG
 go_enter Tryz.func21,Tryz.ntmps21
 go_wp2_with fail
 refine look.mono ?_
 clear look
 rintro e w2 ⟨_,_,rfl,b2,rfl,Y,F,a1,a2,a3,b1,c2,c3,hY,hF,rfl,-,-,-⟩
 obtain rfl : Y = false:=by
  cases Y with
  | false => rfl
  | true => exact absurd tab26_not (hY.1 rfl)
 obtain rfl : F = true:=hF.2 (side_no_twins tab26_ok (.inl tab26_u4))
 rw [tab26_on,tab26_rad,tab26_u4,tab26_u1]
 obtain ⟨S,hS⟩ : ∃ S,isSum 2 1 tab26 = S:=⟨_,rfl⟩
 rw [hS]
 clear hS hY hF
 have b3:=belowAlloc w2 (.cells #[.int .i64 1,.slice a1 a2 a3,.bool false,.bool true,.int .i64 (-1),.bool S,.slice b1 c2 c3,.bool true,.bool true] 46)
 have q:=Cells9.alloc w2 46 (.int .i64 1) (.slice a1 a2 a3) (.bool false) (.bool true) (.int .i64 (-1)) (.bool S) (.slice b1 c2 c3) (.bool true) (.bool true)
 have bE:=Below.step bl (Below.step b2 b3)
 obtain ⟨z0,z1,z2,z3,z4,z5,z6,z7,z8⟩:=q
 go_wp2_with fail
 refine (kind_any _ _ _ _ _ _ _ _ _ _).mono ?_
 rintro e w4 ⟨_,rfl,b4,rfl⟩
 have bF:=Below.step bE b4
 rw [show kindB false true = ⟨#[111,110,116,111]⟩ from rfl]
 go_wp2
 go_ret
 exact ⟨_,rfl,bF,rfl⟩
theorem frename_bad1 (r : Nat → Addr) (k R : Int) (va : Option Addr) (vn vc : Nat) (T : List Int) (pa : Option Addr) (pn pc : Nat) (t : Int × List (ByteArray × Int)) (w : World) (hg : Glob r w) (h : IntsAt w (.slice va vn vc) T) (hc : checkP k R T = some t) :
 Calls Tryz.prog 34 #[.agg #[.int .i64 k,.int .i64 R,.slice va vn vc],.slice pa pn pc] w (Ret2 (fun x y w' => x = zR ∧ ErrIs r w' (under sForms 0 (some t)) y) w):=by
 have b0:=Below.step (Below.step (belowAlloc w (.cells #[.int .i64 k,.int .i64 R,.slice va vn vc] 24)) (belowAlloc _ (.cells #[.slice pa pn pc] 22))) (belowAlloc _ (.cells #[.int .i64 0,.int .i64 0,.slice none 0 0] 24))
 obtain ⟨w0,hw0⟩ : ∃ w0,w0 = ((w.alloc (.cells #[.int .i64 k,.int .i64 R,.slice va vn vc] 24)).alloc (.cells #[.slice pa pn pc] 22)).alloc (.cells #[.int .i64 0,.int .i64 0,.slice none 0 0] 24):=⟨_,rfl⟩
 have q1 : Box3 w0 w.heap.size (.int .i64 k) (.int .i64 R) (.slice va vn vc):=by simp [hw0,Box3,go_sem]
 have q2 : w0.cell? ⟨w.heap.size + 1,0,none⟩ = some (.slice pa pn pc):=by simp [hw0,go_sem]
 have q3 : Box3 w0 (w.heap.size + 1 + 1) (.int .i64 0) (.int .i64 0) (.slice none 0 0):=by simp [hw0,Box3,go_sem]
 have s0 : w0.heap.size = w.heap.size + 3:=by simp [hw0]
 rw [← hw0] at b0
 replace hg:=Hd (hg.below b0)
 replace h:=Hd (h.below b0)
 replace hc:=Hd hc
 go_enter Tryz.func34,Tryz.ntmps34
 go_wp2_with fail
 rw [← hw0]
 clear hw0
 refine (forms_check r _ k R va vn vc T _ hg.out h.out).mono ?_
 rintro e w1 ⟨x,rfl,hb,he⟩
 rw [hc.out] at he
 obtain ⟨T1,a1,rfl⟩:=ErrIs.some_shape he
 replace he:=Hd he
 obtain ⟨⟨y0,y1,y2⟩,f0,f1,f2⟩:=q3.below hb
 go_wp2
 rw [setCell_self3 y0 y1 y2]
 exact bodyPost_ret (v:=.tuple #[zR,.iface T1 (.pointer (some a1))]) (by simp [results,Tryz.results34,go_sem,y0,y1,y2]) rfl ⟨_,_,rfl,Below.step b0 hb,rfl,he.out⟩
set_option maxHeartbeats 800000 in
theorem frename_bad2 (r : Nat → Addr) (K R : Nat) (va : Option Addr) (vn vc : Nat) (T : List Int) (pa : Option Addr) (pn pc : Nat) (p : List Int) (w : World) (hg : Glob r w) (h : IntsAt w (.slice va vn vc) T) (hr : RuleOk K R T) (hp : IntsAt w (.slice pa pn pc) p) (hpl : p.length ≤ 17592186044416) (hne : p.length ≠ K) :
 Calls Tryz.prog 34 #[.agg #[.int .i64 K,.int .i64 R,.slice va vn vc],.slice pa pn pc] w (Ret2 (fun x y w' => x = zR ∧ ErrIs r w' (fresh sForms 0 3) y) w):=by
 have b0:=Below.step (Below.step (belowAlloc w (.cells #[.int .i64 K,.int .i64 R,.slice va vn vc] 24)) (belowAlloc _ (.cells #[.slice pa pn pc] 22))) (belowAlloc _ (.cells #[.int .i64 0,.int .i64 0,.slice none 0 0] 24))
 obtain ⟨w0,hw0⟩ : ∃ w0,w0 = ((w.alloc (.cells #[.int .i64 K,.int .i64 R,.slice va vn vc] 24)).alloc (.cells #[.slice pa pn pc] 22)).alloc (.cells #[.int .i64 0,.int .i64 0,.slice none 0 0] 24):=⟨_,rfl⟩
 have q1 : Box3 w0 w.heap.size (.int .i64 K) (.int .i64 R) (.slice va vn vc):=by simp [hw0,Box3,go_sem]
 have q2 : w0.cell? ⟨w.heap.size + 1,0,none⟩ = some (.slice pa pn pc):=by simp [hw0,go_sem]
 have q3 : Box3 w0 (w.heap.size + 1 + 1) (.int .i64 0) (.int .i64 0) (.slice none 0 0):=by simp [hw0,Box3,go_sem]
 have s0 : w0.heap.size = w.heap.size + 3:=by simp [hw0]
 rw [← hw0] at b0
 replace hg:=Hd (hg.below b0)
 replace h:=Hd (h.below b0)
 have hk1:=hr.k1
 have hk4:=hr.k4
 have hR3:=hr.r3
 have hck:=Hd hr.check
 replace hp:=Hd (hp.below b0)
 have hplen:=hp.out.len
 replace hr:=Hd hr
 have hnb : ((p.length : Int) != (K : Int)) = true:=by rw [bne_iff_ne]; omega
 clear hne
 go_enter Tryz.func34,Tryz.ntmps34
 go_wp2_with fail
 rw [← hw0]
 clear hw0
 refine (forms_check r _ K R va vn vc T _ hg.out h.out).mono ?_
 rintro e w1 ⟨x,rfl,hb,he⟩
 rw [hck.out] at he
 obtain rfl:=ErrIs.none_eq he
 have q21:=cell_keep hb q2
 go_wp2_with fail
 refine (vals_any pa pn pc _).mono ?_
 rintro e w2 ⟨rfl,rfl⟩
 have b2:=Below.step hb (belowAlloc w1 (.cells #[.slice pa pn pc] 22))
 go_wp2_with fail
 refine (sorted_any w1.heap.size (.slice pa pn pc) p hpl _ (by simp) (by simp) (hp.out.below b2)).mono ?_
 rintro e w3 ⟨sv,rfl,b3,hsv⟩
 have b03:=Below.step b2 b3
 have s3:=b03.size
 have q13:=q1.below b03
 have q23:=cell_keep b03 q2
 have q33:=q3.below b03
 obtain ⟨⟨z0,z1,z2⟩,-,-,-⟩:=q13
 have cp:=q23
 replace hsv:=Hd hsv
 clear q23 q2 q21
 go_wp2_with fail
 refine (forms_wrong r _ _ _ (hg.out.below b03) (by decide) (by decide)).mono ?_
 rintro e w4 ⟨x,rfl,b4,he⟩
 obtain ⟨T1,a1,rfl⟩:=ErrIs.some_shape he
 replace he:=Hd he
 obtain ⟨⟨y0,y1,y2⟩,f0,f1,f2⟩:=q33.below b4
 clear z0 z1 z2 cp
 go_wp2
 rw [setCell_self3 y0 y1 y2]
 exact bodyPost_ret (v:=.tuple #[zR,.iface T1 (.pointer (some a1))]) (by simp [results,Tryz.results34,go_sem,y0,y1,y2]) rfl ⟨_,_,rfl,Below.step b0 (Below.step b03 b4),rfl,he.out⟩
theorem eg_frename1 (args : Array Value) (w : World) : (callFunc 84 args).run Tryz.prog w = .ok (.enter 84 args) w:=by kernel_rfl
theorem srt_eq_of {K : Nat} {p : List Int} (hl : p.length = K) (h : ∀ t,t < K → (srt p).getD t 0 = t) : permOk K p = true:=by
 simp only [permOk,hl,decide_true,Bool.true_and,decide_eq_true_eq]
 refine List.ext_getElem (by rw [srt_length]; simp [hl]) fun i h1 h2 => ?_
 have h3 : i < K:=by simpa using h2
 have:=h i h3
 simp only [List.getD,List.getElem?_eq_getElem h1,Option.getD_some] at this
 rw [this]; simp
theorem permOk_srt {K : Nat} {p : List Int} (h : permOk K p = true) (t : Nat) (ht : t < K) : (srt p).getD t 0 = t:=by
 simp only [permOk,Bool.and_eq_true,decide_eq_true_eq] at h
 rw [h.2]; simp [List.getD,ht]
set_option maxHeartbeats 1000000 in
theorem frename_bad3 (r : Nat → Addr) (K R : Nat) (va : Option Addr) (vn vc : Nat) (T : List Int) (pa : Option Addr) (pn pc : Nat) (p : List Int) (w : World) (hg : Glob r w) (h : IntsAt w (.slice va vn vc) T) (hr : RuleOk K R T) (hp : IntsAt w (.slice pa pn pc) p) (hpl : p.length ≤ 17592186044416) (hpk : p.length = K) (hno : permOk K p = false) :
 Calls Tryz.prog 34 #[.agg #[.int .i64 K,.int .i64 R,.slice va vn vc],.slice pa pn pc] w (Ret2 (fun x y w' => x = zR ∧ ErrIs r w' (fresh sForms 0 3) y) w):=by
 have b0:=Below.step (Below.step (belowAlloc w (.cells #[.int .i64 K,.int .i64 R,.slice va vn vc] 24)) (belowAlloc _ (.cells #[.slice pa pn pc] 22))) (belowAlloc _ (.cells #[.int .i64 0,.int .i64 0,.slice none 0 0] 24))
 obtain ⟨w0,hw0⟩ : ∃ w0,w0 = ((w.alloc (.cells #[.int .i64 K,.int .i64 R,.slice va vn vc] 24)).alloc (.cells #[.slice pa pn pc] 22)).alloc (.cells #[.int .i64 0,.int .i64 0,.slice none 0 0] 24):=⟨_,rfl⟩
 have q1 : Box3 w0 w.heap.size (.int .i64 K) (.int .i64 R) (.slice va vn vc):=by simp [hw0,Box3,go_sem]
 have q2 : w0.cell? ⟨w.heap.size + 1,0,none⟩ = some (.slice pa pn pc):=by simp [hw0,go_sem]
 have q3 : Box3 w0 (w.heap.size + 1 + 1) (.int .i64 0) (.int .i64 0) (.slice none 0 0):=by simp [hw0,Box3,go_sem]
 have s0 : w0.heap.size = w.heap.size + 3:=by simp [hw0]
 rw [← hw0] at b0
 replace hg:=Hd (hg.below b0)
 replace h:=Hd (h.below b0)
 have hk1:=hr.k1
 have hk4:=hr.k4
 have hR3:=hr.r3
 have hck:=Hd hr.check
 replace hp:=Hd (hp.below b0)
 have hplen:=hp.out.len
 replace hr:=Hd hr
 have hnb : ((p.length : Int) != (K : Int)) = false:=by rw [bne_eq_false_iff_eq]; omega
 have hpK:=Hd hpk
 clear hpk
 replace hno:=Hd hno
 go_enter Tryz.func34,Tryz.ntmps34
 go_wp2_with fail
 rw [← hw0]
 clear hw0
 refine (forms_check r _ K R va vn vc T _ hg.out h.out).mono ?_
 rintro e w1 ⟨x,rfl,hb,he⟩
 rw [hck.out] at he
 obtain rfl:=ErrIs.none_eq he
 have q21:=cell_keep hb q2
 go_wp2_with fail
 refine (vals_any pa pn pc _).mono ?_
 rintro e w2 ⟨rfl,rfl⟩
 have b2:=Below.step hb (belowAlloc w1 (.cells #[.slice pa pn pc] 22))
 go_wp2_with fail
 refine (sorted_any w1.heap.size (.slice pa pn pc) p hpl _ (by simp) (by simp) (hp.out.below b2)).mono ?_
 rintro e w3 ⟨sv,rfl,b3,hsv⟩
 have b03:=Below.step b2 b3
 have s3:=b03.size
 have q13:=q1.below b03
 have q23:=cell_keep b03 q2
 have q33:=q3.below b03
 have q13x:=q13
 obtain ⟨⟨z0,z1,z2⟩,-,-,-⟩:=q13x
 have cp:=q23
 have hsl:=hsv.at.len
 rw [srt_length,hpK.out] at hsl
 replace hsv:=Hd hsv
 clear q2 q21
 go_wp2
 go_loop [28] (fun i => ∃ j : Nat,j ≤ K ∧ i = .int .i64 j ∧ ∀ t,t < j → (srt p).getD t 0 = t) (fun i => K - (intOf i).toNat)
 case atStart => exact ⟨0,by omega,rfl,fun t ht => by omega⟩
 case round =>
  obtain ⟨j,hj,rfl,hne⟩:=hrel
  by_cases hjK : j < K
  ·have i1:=hsv.out.at.idx j (by rw [srt_length,hpK.out]; exact hjK)
   have c1:=hsv.out.at.cellD j (by rw [srt_length,hpK.out]; exact hjK)
   by_cases he : (srt p).getD j 0 = j
   ·have hn : Hid (∀ t,t < j + 1 → (srt p).getD t 0 = t):=Hd (fun t ht => by
     by_cases e : t = j
     ·subst e; exact he
     ·exact hne t (by omega))
    rw [he] at c1
    clear hne he
    go_wp2
    go_round
    case rel => exact ⟨j + 1,by omega,by go_num,hn.out⟩
    case measure => simp [intOf]; omega
   ·have hnj : ((j : Int) != (srt p).getD j 0) = true:=by rw [bne_iff_ne]; exact fun e => he e.symm
    replace hne:=Hd hne
    obtain ⟨y,hy⟩ : ∃ y,y = (srt p).getD j 0:=⟨_,rfl⟩
    rw [← hy] at c1 hnj
    clear he hy
    go_wp2_with fail
    refine (forms_wrong r _ _ _ (hg.out.below b03) (by decide) (by decide)).mono ?_
    rintro e w4 ⟨x,rfl,b4,he⟩
    obtain ⟨T1,a1,rfl⟩:=ErrIs.some_shape he
    replace he:=Hd he
    obtain ⟨⟨y0,y1,y2⟩,f0,f1,f2⟩:=q33.below b4
    clear z0 z1 z2 cp
    go_wp2
    rw [setCell_self3 y0 y1 y2]
    exact bodyPost_ret (v:=.tuple #[zR,.iface T1 (.pointer (some a1))]) (by simp [results,Tryz.results34,go_sem,y0,y1,y2]) rfl ⟨_,_,rfl,Below.step b0 (Below.step b03 b4),rfl,he.out⟩
  ·exfalso
   have:=srt_eq_of hpK.out (fun t ht => hne t (by omega))
   rw [hno.out] at this
   cases this
set_option maxHeartbeats 1000000 in
theorem frename_ok (r : Nat → Addr) (K R : Nat) (va : Option Addr) (vn vc : Nat) (T : List Int) (pa : Option Addr) (pn pc : Nat) (p : List Int) (w : World) (hg : Glob r w) (h : IntsAt w (.slice va vn vc) T) (hr : RuleOk K R T) (hp : IntsAt w (.slice pa pn pc) p) (hpl : p.length ≤ 17592186044416) (hpo : permOk K p = true) :
 Calls Tryz.prog 34 #[.agg #[.int .i64 K,.int .i64 R,.slice va vn vc],.slice pa pn pc] w (Ret2 (fun x y w' => y = .nilIface ∧ ∃ a n c,x = .agg #[.int .i64 K,.int .i64 R,.slice a n c] ∧ OwnI w.heap.size w' (.slice a n c) (renT K (2 * R + 1) T p)) w):=by
 have b0:=Below.step (Below.step (belowAlloc w (.cells #[.int .i64 K,.int .i64 R,.slice va vn vc] 24)) (belowAlloc _ (.cells #[.slice pa pn pc] 22))) (belowAlloc _ (.cells #[.int .i64 0,.int .i64 0,.slice none 0 0] 24))
 obtain ⟨w0,hw0⟩ : ∃ w0,w0 = ((w.alloc (.cells #[.int .i64 K,.int .i64 R,.slice va vn vc] 24)).alloc (.cells #[.slice pa pn pc] 22)).alloc (.cells #[.int .i64 0,.int .i64 0,.slice none 0 0] 24):=⟨_,rfl⟩
 have q1 : Box3 w0 w.heap.size (.int .i64 K) (.int .i64 R) (.slice va vn vc):=by simp [hw0,Box3,go_sem]
 have q2 : w0.cell? ⟨w.heap.size + 1,0,none⟩ = some (.slice pa pn pc):=by simp [hw0,go_sem]
 have q3 : Box3 w0 (w.heap.size + 1 + 1) (.int .i64 0) (.int .i64 0) (.slice none 0 0):=by simp [hw0,Box3,go_sem]
 have s0 : w0.heap.size = w.heap.size + 3:=by simp [hw0]
 rw [← hw0] at b0
 replace hg:=Hd (hg.below b0)
 replace h:=Hd (h.below b0)
 have hk1:=hr.k1
 have hk4:=hr.k4
 have hR3:=hr.r3
 have hck:=Hd hr.check
 replace hp:=Hd (hp.below b0)
 have hplen:=hp.out.len
 replace hr:=Hd hr
 have hpK:=Hd (permOk_len hpo)
 have hnb : ((p.length : Int) != (K : Int)) = false:=by rw [bne_eq_false_iff_eq]; have:=hpK.out; omega
 replace hpo:=Hd hpo
 go_enter Tryz.func34,Tryz.ntmps34
 go_wp2_with fail
 rw [← hw0]
 clear hw0
 refine (forms_check r _ K R va vn vc T _ hg.out h.out).mono ?_
 rintro e w1 ⟨x,rfl,hb,he⟩
 rw [hck.out] at he
 obtain rfl:=ErrIs.none_eq he
 have q21:=cell_keep hb q2
 go_wp2_with fail
 refine (vals_any pa pn pc _).mono ?_
 rintro e w2 ⟨rfl,rfl⟩
 have b2:=Below.step hb (belowAlloc w1 (.cells #[.slice pa pn pc] 22))
 go_wp2_with fail
 refine (sorted_any w1.heap.size (.slice pa pn pc) p hpl _ (by simp) (by simp) (hp.out.below b2)).mono ?_
 rintro e w3 ⟨sv,rfl,b3,hsv⟩
 have b03:=Below.step b2 b3
 have s3:=b03.size
 have q13:=q1.below b03
 have q23:=cell_keep b03 q2
 have q33:=q3.below b03
 have q13x:=q13
 obtain ⟨⟨z0,z1,z2⟩,-,-,-⟩:=q13x
 have cp:=q23
 have hsl:=hsv.at.len
 rw [srt_length,hpK.out] at hsl
 replace hsv:=Hd hsv
 clear q2 q21
 go_wp2
 go_loop [28] (fun i => ∃ j : Nat,j ≤ K ∧ i = .int .i64 j ∧ ∀ t,t < j → (srt p).getD t 0 = t) (fun i => K - (intOf i).toNat)
 case atStart => exact ⟨0,by omega,rfl,fun t ht => by omega⟩
 case round =>
  obtain ⟨j,hj,rfl,hne⟩:=hrel
  by_cases hjK : j < K
  ·have i1:=hsv.out.at.idx j (by rw [srt_length,hpK.out]; exact hjK)
   have c1:=hsv.out.at.cellD j (by rw [srt_length,hpK.out]; exact hjK)
   have he:=permOk_srt hpo.out j hjK
   have hn : Hid (∀ t,t < j + 1 → (srt p).getD t 0 = t):=Hd (fun t ht => by
    by_cases e : t = j
    ·subst e; exact he
    ·exact hne t (by omega))
   rw [he] at c1
   clear hne he
   go_wp2
   go_round
   case rel => exact ⟨j + 1,by omega,by go_num,hn.out⟩
   case measure => simp [intOf]; omega
  ·replace hne:=Hd hne
   go_wp2_with fail
   refine (made_two K R _ _ _ (renF K T p) _ hk1 hk4 hR3 _ rfl eg_frename1 (fun v ys w' hB hv hy hyl => by
    have e3:=q13.below hB
    exact frename1_any K R va vn vc T pa pn pc p _ _ v ys w' ((h.out.below b03).below hB) hr.out ((hp.out.below b03).below hB) hpo.out hv hy hyl (cell_keep hB q23) e3.1.1 e3.1.2.1 e3.1.2.2)).mono ?_
   rintro e w4 ⟨x,rfl,b4,a,n,c,rfl,ho⟩
   obtain ⟨⟨y0,y1,y2⟩,f0,f1,f2⟩:=q33.below b4
   replace ho:=Hd ho
   clear z0 z1 z2 cp
   go_wp2
   refine bodyPost_ret (v:=.tuple #[.agg #[.int .i64 K,.int .i64 R,.slice a n c],.nilIface]) (by simp [results,Tryz.results34,go_sem,y0,y1,y2]) rfl ⟨_,_,rfl,below_set3 (Below.step b0 (Below.step b03 b4)) (by omega) _ _ _,rfl,a,n,c,rfl,?_⟩
   exact (((ho.out.setBelowBase (a:=⟨w.heap.size + 1 + 1,0,none⟩) (by simp; omega) _).setBelowBase (a:=⟨w.heap.size + 1 + 1,1,none⟩) (by simp; omega) _).setBelowBase (a:=⟨w.heap.size + 1 + 1,2,none⟩) (by simp; omega) _).mono (by omega)
/-- forms.Rename's fault. -/
def renameP (k R : Int) (T p : List Int) : PErr :=
 match checkP k R T with
 | some t => under sForms 0 (some t)
 | none => if permOk k.toNat p = true then none else fresh sForms 0 3
theorem frename_any (r : Nat → Addr) (k R : Int) (va : Option Addr) (vn vc : Nat) (T : List Int) (pa : Option Addr) (pn pc : Nat) (p : List Int) (w : World) (hg : Glob r w) (h : IntsAt w (.slice va vn vc) T) (hp : IntsAt w (.slice pa pn pc) p) (hpl : p.length ≤ 17592186044416) :
 Calls Tryz.prog 34 #[.agg #[.int .i64 k,.int .i64 R,.slice va vn vc],.slice pa pn pc] w (Ret2 (fun x y w' => ErrIs r w' (renameP k R T p) y ∧ (renameP k R T p ≠ none → x = zR) ∧
  (renameP k R T p = none → ∃ a n c,x = .agg #[.int .i64 k,.int .i64 R,.slice a n c] ∧ OwnI w.heap.size w' (.slice a n c) (renT k.toNat (2 * R.toNat + 1) T p))) w):=by
 cases hc : checkP k R T with
 | some t =>
  have e : renameP k R T p = under sForms 0 (some t):=by simp [renameP,hc]
  refine (frename_bad1 r k R va vn vc T pa pn pc t w hg h hc).mono ?_
  rintro _ w' ⟨x,y,he,hb,hx,hy⟩
  exact ⟨x,y,he,hb,by rw [e]; exact hy,fun _ => hx,(fun q => by rw [e] at q; cases q)⟩
 | none =>
  obtain ⟨K,Q,rfl,rfl,hr⟩:=checkP_none hc
  cases hpo : permOk K p with
  | true =>
   have e : renameP K Q T p = none:=by simp [renameP,hc,hpo]
   refine (frename_ok r K Q va vn vc T pa pn pc p w hg h hr hp hpl hpo).mono ?_
   rintro _ w' ⟨x,y,he,hb,rfl,hx⟩
   exact ⟨x,_,he,hb,by rw [e]; rfl,fun q => absurd e q,fun _ => hx⟩
  | false =>
   have e : renameP K Q T p = fresh sForms 0 3:=by simp [renameP,hc,hpo]
   by_cases hl : p.length = K
   ·refine (frename_bad3 r K Q va vn vc T pa pn pc p w hg h hr hp hpl hl hpo).mono ?_
    rintro _ w' ⟨x,y,he,hb,hx,hy⟩
    exact ⟨x,y,he,hb,by rw [e]; exact hy,fun _ => hx,(fun q => by rw [e] at q; cases q)⟩
   ·refine (frename_bad2 r K Q va vn vc T pa pn pc p w hg h hr hp hpl hl).mono ?_
    rintro _ w' ⟨x,y,he,hb,hx,hy⟩
    exact ⟨x,y,he,hb,by rw [e]; exact hy,fun _ => hx,(fun q => by rw [e] at q; cases q)⟩
end Go.Proofs.YtncpnaoabkjegaaGreatDoor
namespace Go.Proofs.YtncpnaoabkjegaaGreatDoor
theorem permOk_nodup {K : Nat} {p : List Int} (h : permOk K p = true) : p.Nodup:=by
 simp only [permOk,Bool.and_eq_true,decide_eq_true_eq] at h
 rw [← (srt_perm p).nodup_iff,h.2]
 exact List.pairwise_map.2 (List.nodup_range.imp fun hne e => hne (by omega))
theorem permOk_inj {K : Nat} {p : List Int} (h : permOk K p = true) {i j : Nat} (hi : i < K) (hj : j < K) (e : p.getD i 0 = p.getD j 0) : i = j:=by
 have hn:=List.pairwise_iff_getElem.1 (permOk_nodup h)
 have hl:=permOk_len h
 simp only [List.getD,List.getElem?_eq_getElem (show i < p.length by omega),List.getElem?_eq_getElem (show j < p.length by omega),Option.getD_some] at e
 rcases Nat.lt_trichotomy i j with hij | hij | hij
 ·exact absurd e (hn i j (by omega) (by omega) hij)
 ·exact hij
 ·exact absurd e.symm (hn j i (by omega) (by omega) hij)
theorem invP_inj {K : Nat} {p : List Int} (h : permOk K p = true) {x y : Int} (a : 0 ≤ x) (b : x < K) (c : 0 ≤ y) (d : y < K) (hne : x ≠ y) : invP p x ≠ invP p y:=by
 obtain ⟨i,ei,_,gi⟩:=invP_spec h a b
 obtain ⟨j,ej,_,gj⟩:=invP_spec h c d
 intro e
 rw [ei,ej] at e
 have : i = j:=by omega
 subst this
 exact hne (gi.symm.trans gj)
theorem pf_bd {K : Nat} {p : List Int} (h : permOk K p = true) {x : Int} (a : 0 ≤ x) (b : x < K) : 0 ≤ p.getD x.toNat 0 ∧ p.getD x.toNat 0 < K:=by
 have:=(permOk_syms h).getD (by omega) x.toNat
 exact this
theorem invP_pf {K : Nat} {p : List Int} (h : permOk K p = true) {x : Int} (a : 0 ≤ x) (b : x < K) : invP p (p.getD x.toNat 0) = x:=by
 have hb:=pf_bd h a b
 obtain ⟨i,ei,hi,gi⟩:=invP_spec h hb.1 hb.2
 have:=permOk_inj h hi (show x.toNat < K by omega) gi
 omega
theorem renT_length (K n : Nat) (T p : List Int) : (renT K n T p).length = pw K n:=madeP_length ..
theorem renT_at {K n : Nat} (hK : 1 ≤ K) (T p : List Int) (w : List Int) (hw : Syms K w) (hl : w.length = n) : (renT K n T p).getD (numW K w) 0 = renF K T p w:=by
 have hlt:=numW_lt w hw
 rw [hl] at hlt
 have : (renT K n T p).getD (numW K w) 0 = renF K T p (digs K n (numW K w)):=by simp [renT,madeP,List.getD,hlt]
 rw [this,← hl,digs_numW hK w hw]
theorem renF_bd {K R : Nat} {T p : List Int} (h : RuleOk K R T) (hp : permOk K p = true) (w : List Int) : 0 ≤ renF K T p w ∧ renF K T p w < K:=by
 have:=h.k1
 have hT:=h.syms.getD (by omega) (numW K (w.map (invP p)))
 exact pf_bd hp hT.1 hT.2
theorem renT_ok {K R : Nat} {T p : List Int} (h : RuleOk K R T) (hp : permOk K p = true) : RuleOk K R (renT K (2 * R + 1) T p) :=
 ⟨h.k1,h.k4,h.r3,renT_length ..,fun y hy => by
   obtain ⟨i,_,rfl⟩:=List.mem_map.1 hy
   exact renF_bd h hp _⟩
theorem renF_ne {K R : Nat} {T p : List Int} (h : RuleOk K R T) (hp : permOk K p = true) {w v : List Int} : renF K T p w ≠ renF K T p v ↔ T.getD (numW K (w.map (invP p))) 0 ≠ T.getD (numW K (v.map (invP p))) 0:=by
 have hk:=h.k1
 have h1:=h.syms.getD (by omega) (numW K (w.map (invP p)))
 have h2:=h.syms.getD (by omega) (numW K (v.map (invP p)))
 constructor
 ·intro hne e; exact hne (by rw [renF,renF,e])
 ·intro hne e
  have:=permOk_inj hp (by omega) (by omega) (show p.getD _ 0 = p.getD _ 0 from e)
  exact hne (by omega)
/-- The word by the other names. -/
theorem map_inv_pf {K : Nat} {p : List Int} (hp : permOk K p = true) {u : List Int} (hu : Syms K u) : (u.map fun x => p.getD x.toNat 0).map (invP p) = u:=by
 rw [List.map_map]
 conv => rhs; rw [← List.map_id u]
 refine List.map_congr_left fun x hx => ?_
 have:=hu x hx
 exact invP_pf hp this.1 this.2
theorem map_pf_syms {K : Nat} {p : List Int} (hp : permOk K p = true) {u : List Int} (hu : Syms K u) : Syms K (u.map fun x => p.getD x.toNat 0):=fun y hy => by
 obtain ⟨x,hx,rfl⟩:=List.mem_map.1 hy
 exact pf_bd hp (hu x hx).1 (hu x hx).2
theorem ren_leftW {K R : Nat} {T p : List Int} (h : RuleOk K R T) (hp : permOk K p = true) : LeftW K (2 * R) (renT K (2 * R + 1) T p) ↔ LeftW K (2 * R) T:=by
 have hk:=h.k1
 constructor
 ·intro hw u hu hl s t a b c d hne
  have hs:=pf_bd hp a b
  have ht:=pf_bd hp c d
  have:=hw (u.map fun x => p.getD x.toNat 0) (map_pf_syms hp hu) (by simpa using hl) (p.getD s.toNat 0) (p.getD t.toNat 0) hs.1 hs.2 ht.1 ht.2 (fun e => hne (by have:=permOk_inj hp (by omega) (by omega) e; omega))
  rw [renT_at hk _ _ _ (syms_cons hs.1 hs.2 (map_pf_syms hp hu)) (by simp [hl]),renT_at hk _ _ _ (syms_cons ht.1 ht.2 (map_pf_syms hp hu)) (by simp [hl]),renF_ne h hp,List.map_cons,List.map_cons,map_inv_pf hp hu,invP_pf hp a b,invP_pf hp c d] at this
  exact this
 ·intro hw u hu hl s t a b c d hne
  rw [renT_at hk _ _ _ (syms_cons a b hu) (by simp [hl]),renT_at hk _ _ _ (syms_cons c d hu) (by simp [hl]),renF_ne h hp,List.map_cons,List.map_cons]
  have is:=invP_syms hp (syms_cons a b (show Syms K [] from fun x hx => by cases hx)) (invP p s) (by simp)
  have it:=invP_syms hp (syms_cons c d (show Syms K [] from fun x hx => by cases hx)) (invP p t) (by simp)
  exact hw _ (invP_syms hp hu) (by simpa using hl) _ _ is.1 is.2 it.1 it.2 (invP_inj hp a b c d hne)
theorem ren_rightW {K R : Nat} {T p : List Int} (h : RuleOk K R T) (hp : permOk K p = true) : RightW K (2 * R) (renT K (2 * R + 1) T p) ↔ RightW K (2 * R) T:=by
 have hk:=h.k1
 constructor
 ·intro hw u hu hl s t a b c d hne
  have hs:=pf_bd hp a b
  have ht:=pf_bd hp c d
  have:=hw (u.map fun x => p.getD x.toNat 0) (map_pf_syms hp hu) (by simpa using hl) (p.getD s.toNat 0) (p.getD t.toNat 0) hs.1 hs.2 ht.1 ht.2 (fun e => hne (by have:=permOk_inj hp (by omega) (by omega) e; omega))
  rw [renT_at hk _ _ _ (syms_snoc hs.1 hs.2 (map_pf_syms hp hu)) (by simp [hl]),renT_at hk _ _ _ (syms_snoc ht.1 ht.2 (map_pf_syms hp hu)) (by simp [hl]),renF_ne h hp,List.map_append,List.map_append,map_inv_pf hp hu,List.map_singleton,List.map_singleton,invP_pf hp a b,invP_pf hp c d] at this
  exact this
 ·intro hw u hu hl s t a b c d hne
  rw [renT_at hk _ _ _ (syms_snoc a b hu) (by simp [hl]),renT_at hk _ _ _ (syms_snoc c d hu) (by simp [hl]),renF_ne h hp,List.map_append,List.map_append,List.map_singleton,List.map_singleton]
  have is:=invP_syms hp (syms_cons a b (show Syms K [] from fun x hx => by cases hx)) (invP p s) (by simp)
  have it:=invP_syms hp (syms_cons c d (show Syms K [] from fun x hx => by cases hx)) (invP p t) (by simp)
  exact hw _ (invP_syms hp hu) (by simpa using hl) _ _ is.1 is.2 it.1 it.2 (invP_inj hp a b c d hne)
theorem ren_sides {K R : Nat} {T p : List Int} (h : RuleOk K R T) (hp : permOk K p = true) :
 unlikeP K (renT K (2 * R + 1) T p) ((renT K (2 * R + 1) T p).length / K) = unlikeP K T (T.length / K) ∧ unlikeP K (renT K (2 * R + 1) T p) 1 = unlikeP K T 1:=by
 constructor
 ·rw [Bool.eq_iff_iff,unlike_leftW (renT_ok h hp),unlike_leftW h,ren_leftW h hp]
 ·rw [Bool.eq_iff_iff,unlike_rightW (renT_ok h hp),unlike_rightW h,ren_rightW h hp]
theorem map_pf_inv {K : Nat} {p : List Int} (hp : permOk K p = true) {u : List Int} (hu : Syms K u) : (u.map (invP p)).map (fun x => p.getD x.toNat 0) = u:=by
 rw [List.map_map]
 conv => rhs; rw [← List.map_id u]
 refine List.map_congr_left fun x hx => ?_
 have:=hu x hx
 obtain ⟨i,ei,_,gi⟩:=invP_spec hp this.1 this.2
 show p.getD (invP p x).toNat 0 = x
 rw [ei,Int.toNat_natCast,gi]
theorem img_ren {K R : Nat} {T p : List Int} (hK : 1 ≤ K) {x : List Int} (hx : Syms K x) : imgP K R (renT K (2 * R + 1) T p) x = (imgP K R T (x.map (invP p))).map (fun s => p.getD s.toNat 0):=by
 refine List.ext_getElem (by simp [imgP_length]) fun i h1 h2 => ?_
 have h1':=h1
 rw [imgP_length] at h1'
 have e1:=imgP_getD K R (renT K (2 * R + 1) T p) x i h1'
 rw [List.getD_eq_getElem?_getD,List.getElem?_eq_getElem h1,Option.getD_some] at e1
 have hj : i < (x.map (invP p)).length - 2 * R:=by rw [List.length_map]; exact h1'
 have e2:=imgP_getD K R T (x.map (invP p)) _ hj
 rw [List.getD_eq_getElem?_getD,List.getElem?_eq_getElem (by rw [imgP_length]; exact hj),Option.getD_some] at e2
 rw [List.getElem_map,e1,e2,renT_at hK T p _ (syms_take (syms_drop hx _) _) (by simp; omega),renF,List.map_take,List.map_drop]
theorem twins_ren {K R : Nat} {T p : List Int} (h : RuleOk K R T) (hp : permOk K p = true) {a b : List Int} (t : IsTwins K R (renT K (2 * R + 1) T p) a b) : IsTwins K R T (a.map (invP p)) (b.map (invP p)):=by
 have hl:=t.len
 have hw:=t.low
 refine ⟨invP_syms hp t.sa,invP_syms hp t.sb,by simpa using hl,fun e => t.ne ?_,by simpa using hw,?_,?_,?_⟩
 ·rw [← map_pf_inv hp t.sa,e,map_pf_inv hp t.sb]
 ·rw [← List.map_take,← List.map_take,t.front]
 ·rw [← List.map_drop,← List.map_drop,List.length_map,List.length_map,t.back]
 ·have:=t.img
  rw [img_ren h.k1 t.sa,img_ren h.k1 t.sb] at this
  rw [← map_inv_pf hp (imgP_syms h.k1 h.syms (R:=R) (w:=a.map (invP p))),this,map_inv_pf hp (imgP_syms h.k1 h.syms)]
theorem ren_twins {K R : Nat} {T p : List Int} (h : RuleOk K R T) (hp : permOk K p = true) {a b : List Int} (t : IsTwins K R T a b) : IsTwins K R (renT K (2 * R + 1) T p) (a.map fun x => p.getD x.toNat 0) (b.map fun x => p.getD x.toNat 0):=by
 have hl:=t.len
 have hw:=t.low
 refine ⟨map_pf_syms hp t.sa,map_pf_syms hp t.sb,by simpa using hl,fun e => t.ne ?_,by simpa using hw,?_,?_,?_⟩
 ·rw [← map_inv_pf hp t.sa,e,map_inv_pf hp t.sb]
 ·rw [← List.map_take,← List.map_take,t.front]
 ·rw [← List.map_drop,← List.map_drop,List.length_map,List.length_map,t.back]
 ·rw [img_ren h.k1 (map_pf_syms hp t.sa),img_ren h.k1 (map_pf_syms hp t.sb),map_inv_pf hp t.sa,map_inv_pf hp t.sb,t.img]
theorem getD_mapI {f : Int → Int} {x : List Int} {n : Nat} (h : n < x.length) : (x.map f).getD n 0 = f (x.getD n 0):=by simp [List.getD,h]
theorem getD_in {K : Int} {x : List Int} (h : Syms K x) {i : Nat} (hi : i < x.length) : 0 ≤ x.getD i 0 ∧ x.getD i 0 < K:=by
 have e : x.getD i 0 = x[i]:=by simp [List.getD,hi]
 rw [e]; exact h _ (List.getElem_mem hi)
theorem split_ren {K R : Nat} {T p : List Int} (h : RuleOk K R T) (hp : permOk K p = true) {n : Nat} (t : Split K R (renT K (2 * R + 1) T p) n) : Split K R T n:=by
 obtain ⟨x,y,sx,sy,lx,ly,hne,e⟩:=t
 refine ⟨x.map (invP p),y.map (invP p),invP_syms hp sx,invP_syms hp sy,by simpa using lx,by simpa using ly,?_,?_⟩
 ·rw [getD_mapI (by omega),getD_mapI (by omega)]
  intro q
  apply hne
  have ax:=getD_in sx (i:=n) (by omega)
  have ay:=getD_in sy (i:=n) (by omega)
  obtain ⟨i,ei,_,gi⟩:=invP_spec hp ax.1 ax.2
  obtain ⟨j,ej,_,gj⟩:=invP_spec hp ay.1 ay.2
  rw [ei,ej] at q
  obtain rfl : i = j:=by omega
  rw [← gi,← gj]
 ·rw [img_ren h.k1 sx,img_ren h.k1 sy] at e
  rw [← map_inv_pf hp (imgP_syms h.k1 h.syms (R:=R) (w:=x.map (invP p))),e,map_inv_pf hp (imgP_syms h.k1 h.syms)]
theorem ren_split {K R : Nat} {T p : List Int} (h : RuleOk K R T) (hp : permOk K p = true) {n : Nat} (t : Split K R T n) : Split K R (renT K (2 * R + 1) T p) n:=by
 obtain ⟨x,y,sx,sy,lx,ly,hne,e⟩:=t
 refine ⟨x.map fun s => p.getD s.toNat 0,y.map fun s => p.getD s.toNat 0,map_pf_syms hp sx,map_pf_syms hp sy,by simpa using lx,by simpa using ly,?_,?_⟩
 ·rw [getD_mapI (by omega),getD_mapI (by omega)]
  intro q
  apply hne
  have ax:=getD_in sx (i:=n) (by omega)
  have ay:=getD_in sy (i:=n) (by omega)
  have e1:=map_inv_pf hp (u:=[x.getD n 0]) (by intro z hz; rw [List.mem_singleton] at hz; subst hz; exact ax)
  have e2:=map_inv_pf hp (u:=[y.getD n 0]) (by intro z hz; rw [List.mem_singleton] at hz; subst hz; exact ay)
  simp only [List.map_cons,List.map_nil] at e1 e2
  rw [q,e2] at e1
  injection e1 with e1 _
  exact e1.symm
 ·rw [img_ren h.k1 (map_pf_syms hp sx),img_ren h.k1 (map_pf_syms hp sy),map_inv_pf hp sx,map_inv_pf hp sy,e]
theorem notOne_ren {K R : Nat} {T p : List Int} (h : RuleOk K R T) (hp : permOk K p = true) : NotOne K R (renT K (2 * R + 1) T p) ↔ NotOne K R T :=
 ⟨fun t n => split_ren h hp (t n),fun t n => ren_split h hp (t n)⟩
theorem radius_ren {K R : Nat} {T p : List Int} (h : RuleOk K R T) (hp : permOk K p = true) : (findP K R (renT K (2 * R + 1) T p)).map Prod.fst = (findP K R T).map Prod.fst :=
 find_radius (renT_ok h hp) h fun _ => ⟨split_ren h hp,ren_split h hp⟩
theorem pre_ren {K R : Nat} {T p : List Int} (h : RuleOk K R T) (hp : permOk K p = true) {y : List Int} (sy : Syms K y) : HasPre K R (renT K (2 * R + 1) T p) y ↔ HasPre K R T (y.map (invP p)):=by
 constructor
 ·rintro ⟨x,sx,lx,ex⟩
  refine ⟨x.map (invP p),invP_syms hp sx,by simpa using lx,?_⟩
  rw [← ex,img_ren h.k1 sx,map_inv_pf hp (imgP_syms h.k1 h.syms)]
 ·rintro ⟨x,sx,lx,ex⟩
  refine ⟨x.map fun s => p.getD s.toNat 0,map_pf_syms hp sx,by simpa using lx,?_⟩
  rw [img_ren h.k1 (map_pf_syms hp sx),map_inv_pf hp sx,ex,map_pf_inv hp sy]
theorem pre_pf {K R : Nat} {T p : List Int} (h : RuleOk K R T) (hp : permOk K p = true) {y : List Int} (sy : Syms K y) : HasPre K R (renT K (2 * R + 1) T p) (y.map fun s => p.getD s.toNat 0) ↔ HasPre K R T y:=by
 rw [pre_ren h hp (map_pf_syms hp sy),map_inv_pf hp sy]
theorem onto_ren {K R : Nat} {T p : List Int} (h : RuleOk K R T) (hp : permOk K p = true) : Onto K R (renT K (2 * R + 1) T p) ↔ Onto K R T :=
 ⟨fun o _ sy => (pre_pf h hp sy).1 (o _ (map_pf_syms hp sy)),fun o _ sy => (pre_ren h hp sy).2 (o _ (invP_syms hp sy))⟩
theorem orphanLen_ren {K R : Nat} {T p : List Int} (h : RuleOk K R T) (hp : permOk K p = true) {n : Nat} (o : OrphanLen K R T n) : OrphanLen K R (renT K (2 * R + 1) T p) n:=by
 obtain ⟨⟨w,sw,lw,hw⟩,h2⟩:=o
 exact ⟨⟨w.map fun s => p.getD s.toNat 0,map_pf_syms hp sw,by simpa using lw,fun q => hw ((pre_pf h hp sw).1 q)⟩,fun y sy hy => (pre_ren h hp sy).2 (h2 _ (invP_syms hp sy) (by simpa using hy))⟩
open Go.RowKit
set_option maxRecDepth 100000
theorem bool_same {Y Z : Bool} {p q : Prop} (h : Y = true ↔ p) (k : Z = true ↔ q) (e : p ↔ q) : Y = Z:=by
 cases Y <;> cases Z
 ·rfl
 ·exact absurd (h.2 (e.2 (k.1 rfl))) (by decide)
 ·exact absurd (k.2 (e.1 (h.1 rfl))) (by decide)
 ·rfl
/-- One radius where both are one to one or neither, and the least radii are alike. -/
theorem radL_same {K R : Nat} {T T' : List Int} (hr : RuleOk K R T) (hr' : RuleOk K R T') (hl : T.length ≤ 256) (hl' : T'.length ≤ 256) (hn : NotOne K R T' ↔ NotOne K R T) (hf : (findP K R T').map Prod.fst = (findP K R T).map Prod.fst) : radL K R T' = radL K R T:=by
 obtain ⟨a1,a2,a3⟩:=invE_ok hr hl
 obtain ⟨b1,b2,b3⟩:=invE_ok hr' hl'
 have hnn : findP K R T' = none ↔ findP K R T = none:=by
  constructor
  ·intro h; rw [h] at hf; cases h2 : findP K R T with
   | none => rfl
   | some p => rw [h2] at hf; cases hf
  ·intro h; rw [h] at hf; cases h2 : findP K R T' with
   | none => rfl
   | some p => rw [h2] at hf; cases hf
 have fne : ∀ n : Int,fresh sInverse 0 n ≠ none:=fun n => by unfold fresh; simp
 unfold radL
 by_cases c1 : NotOne K R T
 ·rw [a1 c1,b1 (hn.2 c1),if_neg (fne _),if_neg (fne _)]
 ·have c1' : ¬ NotOne K R T':=fun q => c1 (hn.1 q)
  by_cases c2 : findP K R T = none
  ·rw [a2 c1 c2,b2 c1' (hnn.2 c2),if_neg (fne _),if_neg (fne _)]
  ·have e:=a3 c1 c2
   have e':=b3 c1' (fun q => c2 (hnn.1 q))
   rw [if_pos e,if_pos e']
   unfold radN
   rw [e,e']
   simp only [Int.toNat_natCast]
   cases h1 : findP K R T with
   | none => exact absurd h1 c2
   | some p =>
    cases h2 : findP K R T' with
    | none => exact absurd (hnn.1 h2) c2
    | some p' =>
     rw [h1,h2] at hf
     simp at hf
     show ((p'.1 : Nat) : Int) = ((p.1 : Nat) : Int)
     rw [hf]
/-- Where neither walk is too great. -/
theorem onto_same {K R : Nat} {T T' : List Int} (hr : RuleOk K R T) (hr' : RuleOk K R T') (ho : Onto K R T' ↔ Onto K R T) (hl : ∀ n,OrphanLen K R T n → OrphanLen K R T' n) (h3 : ontoN (subR K (pw K (2 * R)) T) ≠ 3) (h3' : ontoN (subR K (pw K (2 * R)) T') ≠ 3) :
 ontoN (subR K (pw K (2 * R)) T') = ontoN (subR K (pw K (2 * R)) T) ∧ (orphL (subR K (pw K (2 * R)) T')).length = (orphL (subR K (pw K (2 * R)) T)).length:=by
 cases h : subR K (pw K (2 * R)) T with
 | on a b =>
  cases h' : subR K (pw K (2 * R)) T' with
  | on a' b' => exact ⟨rfl,rfl⟩
  | orphan w => exact absurd (ho.2 (sub_on hr h)) (sub_not_onto hr' h')
  | big => rw [h'] at h3'; exact absurd rfl h3'
 | orphan w =>
  cases h' : subR K (pw K (2 * R)) T' with
  | on a' b' => exact absurd (ho.1 (sub_on hr' h')) (sub_not_onto hr h)
  | orphan w' => exact ⟨rfl,(orphanLen_of hr' h').unique (hl _ (orphanLen_of hr h))⟩
  | big => rw [h'] at h3'; exact absurd rfl h3'
 | big => rw [h] at h3; exact absurd rfl h3
section
variable {K R : Nat} {T p : List Int}
theorem lab_mir (hr : RuleOk K R T) (hl : T.length ≤ 256) :
 radL K R (mirT K (2 * R + 1) T) = radL K R T ∧ facR K R (mirT K (2 * R + 1) T) = (facR K R T).reverse ∧
 ((∀ x y,¬ IsTwins K R (mirT K (2 * R + 1) T) x y) ↔ ∀ x y,¬ IsTwins K R T x y) ∧
 (ontoN (subR K (pw K (2 * R)) T) ≠ 3 → ontoN (subR K (pw K (2 * R)) (mirT K (2 * R + 1) T)) ≠ 3 → ontoN (subR K (pw K (2 * R)) (mirT K (2 * R + 1) T)) = ontoN (subR K (pw K (2 * R)) T) ∧ (orphL (subR K (pw K (2 * R)) (mirT K (2 * R + 1) T))).length = (orphL (subR K (pw K (2 * R)) T)).length):=by
 have hm:=mirT_ok hr
 have hml : (mirT K (2 * R + 1) T).length ≤ 256:=by rw [hm.len,← hr.len]; exact hl
 refine ⟨radL_same hr hm hl hml (notOne_mir hr) (find_radius hm hr fun n => split_mir hr),?_,⟨fun h x y t => h _ _ (mir_twins hr t),fun h x y t => h _ _ ((twins_mir hr).1 t)⟩,fun a b => onto_same hr hm (onto_mir hr) (fun n o => orphanLen_mir hr o) a b⟩
 unfold facR
 rw [isSum_mir hr]
 split
 ·rename_i h; exact (sum_mir hr h).2
 ·rfl
theorem lab_ren (hr : RuleOk K R T) (hl : T.length ≤ 256) (hp : permOk K p = true) :
 radL K R (renT K (2 * R + 1) T p) = radL K R T ∧
 ((∀ x y,¬ IsTwins K R (renT K (2 * R + 1) T p) x y) ↔ ∀ x y,¬ IsTwins K R T x y) ∧
 (ontoN (subR K (pw K (2 * R)) T) ≠ 3 → ontoN (subR K (pw K (2 * R)) (renT K (2 * R + 1) T p)) ≠ 3 → ontoN (subR K (pw K (2 * R)) (renT K (2 * R + 1) T p)) = ontoN (subR K (pw K (2 * R)) T) ∧ (orphL (subR K (pw K (2 * R)) (renT K (2 * R + 1) T p))).length = (orphL (subR K (pw K (2 * R)) T)).length):=by
 have hm:=renT_ok hr hp
 have hml : (renT K (2 * R + 1) T p).length ≤ 256:=by rw [hm.len,← hr.len]; exact hl
 exact ⟨radL_same hr hm hl hml (notOne_ren hr hp) (radius_ren hr hp),⟨fun h x y t => h _ _ (ren_twins hr hp t),fun h x y t => h _ _ (twins_ren hr hp t)⟩,fun a b => onto_same hr hm (onto_ren hr hp) (fun n o => orphanLen_ren hr hp o) a b⟩
end
theorem facR_len26 (K R : Nat) (T : List Int) : (facR K R T).length ≤ 2 * R + 1:=by
 unfold facR
 split
 ·rw [facs_length]; exact Nat.le_refl _
 ·exact Nat.zero_le _
set_option maxHeartbeats 8000000 in
theorem labForms_bad (r : Nat → Addr) (k R : Int) (va : Option Addr) (vn vc : Nat) (T : List Int) (pa : Option Addr) (pn pc : Nat) (p : List Int) (w : World) (hg : Glob r w) (hG : GlobE w) (h : IntsAt w (.slice va vn vc) T) (hp : IntsAt w (.slice pa pn pc) p) (t : Int × List (ByteArray × Int)) (hc : smallP k R T = some t) :
 Calls Tryz.prog 8 #[.agg #[.int .i64 k,.int .i64 R,.slice va vn vc],.slice pa pn pc] w (Ret1 (fun x _ => x = .bool true) w):=by
 have b0:=belowAlloc w (.cells #[.int .i64 k,.int .i64 R,.slice va vn vc] 24)
 have q : Box3 (w.alloc (.cells #[.int .i64 k,.int .i64 R,.slice va vn vc] 24)) w.heap.size (.int .i64 k) (.int .i64 R) (.slice va vn vc):=by simp [Box3,go_sem]
 replace hg:=Hd (hg.below b0)
 replace hG:=Hd (hG.below b0)
 replace h:=Hd (h.below b0)
 replace hp:=Hd (hp.below b0)
 clear hp
 replace hc:=Hd hc
 go_enter Tryz.func8,Tryz.ntmps8
 go_wp2_with fail
 refine (awake26 r _ hg.out hG.out).mono ?_
 rintro e w1 ⟨_,rfl,b1,rfl⟩
 obtain ⟨⟨q_0,q_1,q_2⟩,-,-,-⟩:=(q.below b1)
 go_wp2_with fail
 refine (heavy26 r k R va vn vc T _ (hg.out.below b1) (h.out.below b1)).mono ?_
 rintro e w2 ⟨_,rfl,b2,hv,rfl,hvi⟩
 clear q_0 q_1 q_2
 obtain rfl : hv = false:=by
  cases hv with
  | false => rfl
  | true => have:=(hvi.1 rfl).2; rw [hc.out] at this; cases this
 clear hvi
 have c0_2:=Below.step b1 b2
 obtain ⟨⟨q_0,q_1,q_2⟩,-,-,-⟩:=(q.below c0_2)
 go_wp2_with fail
 refine (look_bad r k R va vn vc T t _ (hg.out.below c0_2) (h.out.below c0_2) hc.out).mono ?_
 rintro e w3 ⟨_,y3,rfl,b3,rfl,he3⟩
 obtain ⟨T3,p3,rfl⟩ : ∃ T a,y3 = .iface T (.pointer (some a)):=by
  unfold under at he3
  exact he3.some_shape
 clear he3
 clear q_0 q_1 q_2
 have al3:=(belowAlloc w3 (.cells #[.int .i64 0,.slice none 0 0,.bool false,.bool false,.int .i64 0,.bool false,.slice none 0 0,.bool false,.bool false] 46))
 have d3:=Below.step b3 al3
 have c0_3:=Below.step c0_2 d3
 have bE:=Below.step b0 c0_3
 go_wp2
 go_ret
 exact ⟨_,rfl,bE,rfl⟩
set_option maxHeartbeats 8000000 in
theorem labForms_ok (r : Nat → Addr) (K R : Nat) (va : Option Addr) (vn vc : Nat) (T : List Int) (pa : Option Addr) (pn pc : Nat) (p : List Int) (w : World) (hg : Glob r w) (hG : GlobE w) (h : IntsAt w (.slice va vn vc) T) (hp : IntsAt w (.slice pa pn pc) p) (hpl : p.length ≤ 17592186044416) (hr : RuleOk K R T) (hl : T.length ≤ 256) :
 Calls Tryz.prog 8 #[.agg #[.int .i64 K,.int .i64 R,.slice va vn vc],.slice pa pn pc] w (Ret1 (fun x _ => x = .bool true) w):=by
 have b0:=belowAlloc w (.cells #[.int .i64 K,.int .i64 R,.slice va vn vc] 24)
 have q : Box3 (w.alloc (.cells #[.int .i64 K,.int .i64 R,.slice va vn vc] 24)) w.heap.size (.int .i64 K) (.int .i64 R) (.slice va vn vc):=by simp [Box3,go_sem]
 replace hg:=Hd (hg.below b0)
 replace hG:=Hd (hG.below b0)
 replace h:=Hd (h.below b0)
 replace hp:=Hd (hp.below b0)
 have hm:=mirT_ok hr
 have hml : (mirT K (2 * R + 1) T).length ≤ 256:=by rw [hm.len,← hr.len]; exact hl
 obtain ⟨g1,g2,g3,g4⟩:=lab_mir hr hl
 obtain ⟨gs1,gs2⟩:=mir_sides hr
 have gi:=isSum_mir hr
 have gn:=notOne_mir hr
 have hren:=fun q => lab_ren (p:=p) hr hl q
 have hrok:=fun (q : permOk K p = true) => renT_ok hr q
 have hrs:=fun (q : permOk K p = true) => ren_sides hr q
 have hrn:=fun (q : permOk K p = true) => notOne_ren hr q
 have hfb:=facR_len26 K R T
 have hR3:=hr.r3
 replace hr:=Hd hr
 replace hm:=Hd hm
 replace g1:=Hd g1
 replace g2:=Hd g2
 replace g3:=Hd g3
 replace g4:=Hd g4
 replace gs1:=Hd gs1
 replace gs2:=Hd gs2
 replace gi:=Hd gi
 replace gn:=Hd gn
 replace hren:=Hd hren
 replace hrok:=Hd hrok
 replace hrs:=Hd hrs
 replace hrn:=Hd hrn
 replace hfb:=Hd hfb
 go_enter Tryz.func8,Tryz.ntmps8
 go_wp2_with fail
 refine (awake26 r _ hg.out hG.out).mono ?_
 rintro e w1 ⟨_,rfl,b1,rfl⟩
 obtain ⟨⟨q_0,q_1,q_2⟩,-,-,-⟩:=(q.below b1)
 go_wp2_with fail
 refine (heavy26 r K R va vn vc T _ (hg.out.below b1) (h.out.below b1)).mono ?_
 rintro e w2 ⟨_,rfl,b2,hv,rfl,hvi⟩
 clear q_0 q_1 q_2
 clear hvi
 cases hv with
 | true =>
  have c0_2:=Below.step b1 b2
  have bE:=Below.step b0 c0_2
  go_wp2
  go_ret
  exact ⟨_,rfl,bE,rfl⟩
 | false =>
  have c0_2:=Below.step b1 b2
  obtain ⟨⟨q_0,q_1,q_2⟩,-,-,-⟩:=(q.below c0_2)
  go_wp2_with fail
  refine (look_ok r K R va vn vc T _ (hg.out.below c0_2) (hG.out.below c0_2) (h.out.below c0_2) hr.out hl).mono ?_
  rintro e w3 ⟨_,_,rfl,b3,rfl,Y,F,oa3,on3,oc3,fa3,fn3,fc3,hY,hF,rfl,hA3,hB3,-⟩
  clear q_0 q_1 q_2
  obtain ⟨N,hN⟩ : ∃ N,ontoN (subR K (pw K (2 * R)) T) = N:=⟨_,rfl⟩
  obtain ⟨X,hX⟩ : ∃ N,radL K R T = N:=⟨_,rfl⟩
  obtain ⟨Z,hZ⟩ : ∃ N,isSum K R T = N:=⟨_,rfl⟩
  obtain ⟨L,hL⟩ : ∃ N,unlikeP K T (T.length / K) = N:=⟨_,rfl⟩
  obtain ⟨P,hP⟩ : ∃ N,unlikeP K T 1 = N:=⟨_,rfl⟩
  obtain ⟨ol,hol⟩ : ∃ N,orphL (subR K (pw K (2 * R)) T) = N:=⟨_,rfl⟩
  obtain ⟨fl,hfl⟩ : ∃ N,facR K R T = N:=⟨_,rfl⟩
  rw [hN,hX,hZ,hL,hP]
  rw [hol] at hA3
  rw [hfl] at hB3
  have lA3:=hA3.at.len
  have lB3:=hB3.at.len
  replace hY:=Hd hY
  replace hF:=Hd hF
  replace hN:=Hd hN
  replace hX:=Hd hX
  replace hZ:=Hd hZ
  replace hL:=Hd hL
  replace hP:=Hd hP
  replace hol:=Hd hol
  replace hfl:=Hd hfl
  have al3:=(belowAlloc w3 (.cells #[.int .i64 N,.slice oa3 on3 oc3,.bool Y,.bool F,.int .i64 X,.bool Z,.slice fa3 fn3 fc3,.bool L,.bool P] 46))
  have d3:=Below.step b3 al3
  have u3:=Cells9.alloc w3 46 (.int .i64 N) (.slice oa3 on3 oc3) (.bool Y) (.bool F) (.int .i64 X) (.bool Z) (.slice fa3 fn3 fc3) (.bool L) (.bool P)
  replace hB3:=Hd (hB3.below al3)
  clear hA3
  have c0_3:=Below.step c0_2 d3
  obtain ⟨⟨q_0,q_1,q_2⟩,-,-,-⟩:=(q.below c0_3)
  go_wp2_with fail
  refine (fmirror_ok r K R va vn vc T _ (hg.out.below c0_3) (h.out.below c0_3) hr.out).mono ?_
  rintro e w4 ⟨_,_,rfl,b4,rfl,a4,n4,c4,rfl,ho4⟩
  clear q_0 q_1 q_2
  have al4:=(belowAlloc w4 (.cells #[.int .i64 K,.int .i64 R,.slice a4 n4 c4] 24))
  have d4:=Below.step b4 al4
  have s : Box3 (w4.alloc (.cells #[.int .i64 K,.int .i64 R,.slice a4 n4 c4] 24)) w4.heap.size (.int .i64 K) (.int .i64 R) (.slice a4 n4 c4):=by simp [Box3,go_sem]
  replace ho4:=Hd (ho4.below al4)
  obtain ⟨⟨s_0,s_1,s_2⟩,-,-,-⟩:=id s
  have c0_4:=Below.step c0_3 d4
  go_wp2_with fail
  refine (look_ok r K R a4 n4 c4 _ _ (hg.out.below c0_4) (hG.out.below c0_4) ho4.out.at hm.out hml).mono ?_
  rintro e w5 ⟨_,_,rfl,b5,rfl,Y5,F5,oa5,on5,oc5,fa5,fn5,fc5,hY5,hF5,rfl,hA5,hB5,-⟩
  clear s_0 s_1 s_2
  rw [show Y5 = Y from bool_same hY5 hY.out (not_congr gn.out),show F5 = F from bool_same hF5 hF.out g3.out,g1.out,gi.out,gs1.out,gs2.out,hX.out,hZ.out,hL.out,hP.out]
  clear hY5 hF5
  obtain ⟨N5,hN5⟩ : ∃ N,ontoN (subR K (pw K (2 * R)) (mirT K (2 * R + 1) T)) = N:=⟨_,rfl⟩
  rw [hN5]
  rw [g2.out,hfl.out] at hB5
  have lA5:=hA5.at.len
  have lB5:=hB5.at.len
  rw [List.length_reverse] at lB5
  have hsame5 : N ≠ 3 → N5 ≠ 3 → N5 = N ∧ (orphL (subR K (pw K (2 * R)) (mirT K (2 * R + 1) T))).length = ol.length:=fun a b => by
   have:=g4.out (by rw [hN.out]; exact a) (by rw [hN5]; exact b)
   rw [hN5,hN.out,hol.out] at this
   exact this
  obtain ⟨ol5,hol5⟩ : ∃ N,orphL (subR K (pw K (2 * R)) (mirT K (2 * R + 1) T)) = N:=⟨_,rfl⟩
  rw [hol5] at lA5 hsame5
  replace hN5:=Hd hN5
  replace hol5:=Hd hol5
  replace hsame5:=Hd hsame5
  have al5:=(belowAlloc w5 (.cells #[.int .i64 N5,.slice oa5 on5 oc5,.bool Y,.bool F,.int .i64 X,.bool Z,.slice fa5 fn5 fc5,.bool P,.bool L] 46))
  have d5:=Below.step b5 al5
  have u5:=Cells9.alloc w5 46 (.int .i64 N5) (.slice oa5 on5 oc5) (.bool Y) (.bool F) (.int .i64 X) (.bool Z) (.slice fa5 fn5 fc5) (.bool P) (.bool L)
  replace hB5:=Hd (hB5.below al5)
  clear hA5
  have c3_5:=Below.step d4 d5
  have hB35:=Hd ((hB3.out.below c3_5))
  have y1 : (Y != Y) = false:=by cases Y <;> rfl
  have y2 : (F != F) = false:=by cases F <;> rfl
  have y3 : (Z != Z) = false:=by cases Z <;> rfl
  have y4 : (L != L) = false:=by cases L <;> rfl
  have y5 : (P != P) = false:=by cases P <;> rfl
  have y6 : ((X : Int) != X) = false:=by simp
  have y7 : ((fl.length : Int) != (fl.length : Int)) = false:=by simp
  have hf8 : fl.length ≤ 7:=by have:=hfb.out; rw [hfl.out] at this; omega
  obtain ⟨W5,hW5⟩ : ∃ W : World,(w5.alloc (.cells #[.int .i64 N5,.slice oa5 on5 oc5,.bool Y,.bool F,.int .i64 X,.bool Z,.slice fa5 fn5 fc5,.bool P,.bool L] 46)) = W:=⟨_,rfl⟩
  rw [hW5] at u5 hB5 hB35 c3_5 d5
  replace hW5:=Hd hW5
  go_upto_region 10 with fail
  rw [hW5.out]
  obtain ⟨u3_0,u3_1,u3_2,u3_3,u3_4,u3_5,u3_6,u3_7,u3_8⟩:=(u3.below c3_5)
  obtain ⟨u5_0,u5_1,u5_2,u5_3,u5_4,u5_5,u5_6,u5_7,u5_8⟩:=id u5
  go_wp2
  go_loopw [11] (fun iv wr => ∃ i n : Nat,iv = .int .i64 i ∧ i ≤ fl.length ∧ wr = W5.drewN n) (fun iv _ => fl.length - (intOf iv).toNat)
  case atStart => exact ⟨0,0,rfl,Nat.zero_le _,rfl⟩
  case round =>
   obtain ⟨i,nq0,rfl,hi,rfl⟩:=hrel
   by_cases hil : i < fl.length
   ·have di : decide ((i : Int) < (fl.length : Int)) = true:=decide_eq_true (by omega)
    obtain ⟨m1,hm1⟩ : ∃ m,fl.length = m + 1:=⟨fl.length - 1,by omega⟩
    obtain ⟨m2,hm2⟩ : ∃ m,m1 = m + i:=⟨m1 - i,by omega⟩
    have e1 : IntKind.i64.wrap ((fl.length : Int) - 1) = (m1 : Int):=by rw [wrapK (by omega) (by omega)]; omega
    have e2 : IntKind.i64.wrap ((m1 : Int) - (i : Int)) = (m2 : Int):=by rw [wrapK (by omega) (by omega)]; omega
    have e3 : wrap64 ((fl.length : Int) - 1) = (m1 : Int):=by rw [wrap64_id (by omega) (by omega)]; omega
    have e4 : wrap64 ((m1 : Int) - (i : Int)) = (m2 : Int):=by rw [wrap64_id (by omega) (by omega)]; omega
    have hl2 : m2 < fl.reverse.length:=by rw [List.length_reverse]; omega
    have i1:=fun w' => hB35.out.at.idx i hil w'
    have k1:=hB35.out.at.cellD i hil
    have i2:=fun w' => hB5.out.at.idx m2 hl2 w'
    have k2:=hB5.out.at.cellD m2 hl2
    have hval : fl.reverse.getD m2 0 = fl.getD i 0:=by rw [getD_rev (by omega)]; congr 1; omega
    obtain ⟨fv,hfv⟩ : ∃ v,fl.getD i 0 = v:=⟨_,rfl⟩
    rw [hfv] at k1
    rw [hval,hfv] at k2
    have yv : ((fv : Int) != fv) = false:=by simp
    obtain ⟨x1,hx1⟩ : ∃ x,valAt (.slice fa3 fn3 fc3) i = x:=⟨_,rfl⟩
    obtain ⟨x2,hx2⟩ : ∃ x,valAt (.slice fa5 fn5 fc5) m2 = x:=⟨_,rfl⟩
    rw [hx1] at i1 k1
    rw [hx2] at i2 k2
    replace hm1:=Hd hm1
    replace hm2:=Hd hm2
    replace hval:=Hd hval
    replace hfv:=Hd hfv
    replace hx1:=Hd hx1
    replace hx2:=Hd hx2
    go_upto_region 15 with fail
    go_quiet (fail)
    go_wp2
    go_roundw
    case measure => simp [intOf]; omega
    case rel => exact ⟨i + 1,_,by go_num,by omega,rfl⟩
   ·obtain rfl : i = fl.length:=by omega
    have di : decide ((fl.length : Int) < (fl.length : Int)) = false:=decide_eq_false (by omega)
    have bq:=below_drewN (Below.refl W5.heap.size W5) nq0
    clear u3_0 u3_1 u3_2 u3_3 u3_4 u3_5 u3_6 u3_7 u3_8 u5_0 u5_1 u5_2 u5_3 u5_4 u5_5 u5_6 u5_7 u5_8
    have c3_6:=Below.step c3_5 bq
    obtain ⟨u3_0,u3_1,u3_2,u3_3,u3_4,u3_5,u3_6,u3_7,u3_8⟩:=(u3.below c3_6)
    obtain ⟨u5_0,u5_1,u5_2,u5_3,u5_4,u5_5,u5_6,u5_7,u5_8⟩:=(u5.below bq)
    go_upto_region 17 with fail
    go_cut [138] from 92 (fun s138 wx => s138 = .bool false ∧ wx = W5.drewN nq0)
    case first =>
     by_cases c3 : N = 3
     ·have d1 : decide (N = 3) = true:=decide_eq_true c3
      have d2 : (N != 3) = false:=by simp [c3]
      clear c3
      go_wp2
      go_meet
      case rel => exact ⟨rfl,rfl⟩
     ·have d1 : decide (N = 3) = false:=decide_eq_false c3
      have d2 : (N != 3) = true:=by simp [c3]
      by_cases c5 : N5 = 3
      ·have d3 : decide (N5 = 3) = true:=decide_eq_true c5
       have d4 : (N5 != 3) = false:=by simp [c5]
       clear c3 c5
       go_wp2
       go_meet
       case rel => exact ⟨rfl,rfl⟩
      ·have d3 : decide (N5 = 3) = false:=decide_eq_false c5
       have d4 : (N5 != 3) = true:=by simp [c5]
       obtain ⟨e5,f5⟩:=hsame5.out c3 c5
       rw [f5] at lA5
       have d5 : (N != N5) = false:=by rw [e5]; simp
       have d6 : ((ol.length : Int) != (ol.length : Int)) = false:=by simp
       replace e5:=Hd e5
       replace f5:=Hd f5
       replace c3:=Hd c3
       replace c5:=Hd c5
       go_wp2
       go_meet
       case rel => exact ⟨rfl,rfl⟩
    case rest =>
     obtain ⟨rfl,rfl⟩:=hcut
     clear u3_0 u3_1 u3_2 u3_3 u3_4 u3_5 u3_6 u3_7 u3_8 u5_0 u5_1 u5_2 u5_3 u5_4 u5_5 u5_6 u5_7 u5_8
     have c0_5:=Below.step c0_4 d5
     have c0_6:=Below.step c0_5 bq
     obtain ⟨⟨q_0,q_1,q_2⟩,-,-,-⟩:=(q.below c0_6)
     go_wp2_with fail
     refine (frename_any r K R va vn vc T pa pn pc p _ (hg.out.below c0_6) (h.out.below c0_6) (hp.out.below c0_6) hpl).mono ?_
     rintro e w7 ⟨x7,y7,rfl,b7,he7,hz7,hx7⟩
     clear q_0 q_1 q_2
     cases hrp : renameP K R T p with
     | some t =>
      rw [hrp] at he7
      obtain ⟨T7,p7,rfl⟩:=he7.some_shape
      obtain rfl:=hz7 (by rw [hrp]; simp)
      clear he7 hz7 hx7
      replace hrp:=Hd hrp
      have al7:=(belowAlloc w7 (.cells #[.int .i64 0,.int .i64 0,.slice none 0 0] 24))
      have d7:=Below.step b7 al7
      have c0_7:=Below.step c0_6 d7
      have bE:=Below.step b0 c0_7
      go_wp2
      go_ret
      exact ⟨_,rfl,bE,rfl⟩
     | none =>
      rw [hrp] at he7
      obtain rfl:=he7.none_eq
      obtain ⟨a7,n7,c7,rfl,ho7⟩:=hx7 hrp
      simp only [Int.toNat_natCast] at ho7
      clear he7 hz7 hx7
      have hpo : permOk K p = true:=by
       unfold renameP at hrp
       rw [hr.out.check] at hrp
       simp only [Int.toNat_natCast] at hrp
       by_cases e : permOk K p = true
       ·exact e
       ·rw [if_neg e] at hrp; cases hrp
      have hrk:=hrok.out hpo
      obtain ⟨k1,k2,k3⟩:=hren.out hpo
      obtain ⟨ks1,ks2⟩:=hrs.out hpo
      have kn:=hrn.out hpo
      have hrl : (renT K (2 * R + 1) T p).length ≤ 256:=by rw [hrk.len,← hr.out.len]; exact hl
      replace hrp:=Hd hrp
      replace hpo:=Hd hpo
      replace hrk:=Hd hrk
      replace k1:=Hd k1
      replace k2:=Hd k2
      replace k3:=Hd k3
      replace ks1:=Hd ks1
      replace ks2:=Hd ks2
      replace kn:=Hd kn
      have al7:=(belowAlloc w7 (.cells #[.int .i64 K,.int .i64 R,.slice a7 n7 c7] 24))
      have d7:=Below.step b7 al7
      have m : Box3 (w7.alloc (.cells #[.int .i64 K,.int .i64 R,.slice a7 n7 c7] 24)) w7.heap.size (.int .i64 K) (.int .i64 R) (.slice a7 n7 c7):=by simp [Box3,go_sem]
      replace ho7:=Hd (ho7.below al7)
      obtain ⟨⟨m_0,m_1,m_2⟩,-,-,-⟩:=id m
      have c0_7:=Below.step c0_6 d7
      go_wp2_with fail
      refine (look_ok r K R a7 n7 c7 _ _ (hg.out.below c0_7) (hG.out.below c0_7) ho7.out.at hrk.out hrl).mono ?_
      rintro e w8 ⟨_,_,rfl,b8,rfl,Y8,F8,oa8,on8,oc8,fa8,fn8,fc8,hY8,hF8,rfl,hA8,hB8,-⟩
      clear m_0 m_1 m_2
      rw [show Y8 = Y from bool_same hY8 hY.out (not_congr kn.out),show F8 = F from bool_same hF8 hF.out k2.out,k1.out,ks1.out,ks2.out,hX.out,hL.out,hP.out]
      clear hY8 hF8
      obtain ⟨N8,hN8⟩ : ∃ N,ontoN (subR K (pw K (2 * R)) (renT K (2 * R + 1) T p)) = N:=⟨_,rfl⟩
      obtain ⟨Z8,hZ8⟩ : ∃ N,isSum K R (renT K (2 * R + 1) T p) = N:=⟨_,rfl⟩
      rw [hN8,hZ8]
      have lA8:=hA8.at.len
      have hsame8 : N ≠ 3 → N8 ≠ 3 → N8 = N ∧ (orphL (subR K (pw K (2 * R)) (renT K (2 * R + 1) T p))).length = ol.length:=fun a b => by
       have:=k3.out (by rw [hN.out]; exact a) (by rw [hN8]; exact b)
       rw [hN8,hN.out,hol.out] at this
       exact this
      obtain ⟨ol8,hol8⟩ : ∃ N,orphL (subR K (pw K (2 * R)) (renT K (2 * R + 1) T p)) = N:=⟨_,rfl⟩
      rw [hol8] at lA8 hsame8
      clear hA8 hB8
      replace hN8:=Hd hN8
      replace hol8:=Hd hol8
      replace hsame8:=Hd hsame8
      replace hZ8:=Hd hZ8
      have al8:=(belowAlloc w8 (.cells #[.int .i64 N8,.slice oa8 on8 oc8,.bool Y,.bool F,.int .i64 X,.bool Z8,.slice fa8 fn8 fc8,.bool L,.bool P] 46))
      have d8:=Below.step b8 al8
      have u8:=Cells9.alloc w8 46 (.int .i64 N8) (.slice oa8 on8 oc8) (.bool Y) (.bool F) (.int .i64 X) (.bool Z8) (.slice fa8 fn8 fc8) (.bool L) (.bool P)
      have c3_7:=Below.step c3_6 d7
      have c3_8:=Below.step c3_7 d8
      have c0_8:=Below.step c0_7 d8
      obtain ⟨W8,hW8⟩ : ∃ W : World,(w8.alloc (.cells #[.int .i64 N8,.slice oa8 on8 oc8,.bool Y,.bool F,.int .i64 X,.bool Z8,.slice fa8 fn8 fc8,.bool L,.bool P] 46)) = W:=⟨_,rfl⟩
      rw [hW8] at u8 c3_8 c0_8 d8
      replace hW8:=Hd hW8
      go_upto_region 23 with fail
      rw [hW8.out]
      obtain ⟨u3_0,u3_1,u3_2,u3_3,u3_4,u3_5,u3_6,u3_7,u3_8⟩:=(u3.below c3_8)
      obtain ⟨u8_0,u8_1,u8_2,u8_3,u8_4,u8_5,u8_6,u8_7,u8_8⟩:=id u8
      refine wp_region_plan (fun w' => w'.cell? ⟨w3.heap.size,0,none⟩ = some (.int .i64 N) ∧ w'.cell? ⟨w3.heap.size,1,none⟩ = some (.slice oa3 on3 oc3) ∧ w'.cell? ⟨w3.heap.size,2,none⟩ = some (.bool Y) ∧ w'.cell? ⟨w3.heap.size,3,none⟩ = some (.bool F) ∧ w'.cell? ⟨w3.heap.size,4,none⟩ = some (.int .i64 X) ∧ w'.cell? ⟨w3.heap.size,5,none⟩ = some (.bool Z) ∧ w'.cell? ⟨w3.heap.size,6,none⟩ = some (.slice fa3 fn3 fc3) ∧ w'.cell? ⟨w3.heap.size,7,none⟩ = some (.bool L) ∧ w'.cell? ⟨w3.heap.size,8,none⟩ = some (.bool P) ∧ w'.cell? ⟨w8.heap.size,0,none⟩ = some (.int .i64 N8) ∧ w'.cell? ⟨w8.heap.size,1,none⟩ = some (.slice oa8 on8 oc8) ∧ w'.cell? ⟨w8.heap.size,2,none⟩ = some (.bool Y) ∧ w'.cell? ⟨w8.heap.size,3,none⟩ = some (.bool F) ∧ w'.cell? ⟨w8.heap.size,4,none⟩ = some (.int .i64 X) ∧ w'.cell? ⟨w8.heap.size,5,none⟩ = some (.bool Z8) ∧ w'.cell? ⟨w8.heap.size,6,none⟩ = some (.slice fa8 fn8 fc8) ∧ w'.cell? ⟨w8.heap.size,7,none⟩ = some (.bool L) ∧ w'.cell? ⟨w8.heap.size,8,none⟩ = some (.bool P)) 29 [(0,true),(1,true),(2,true),(3,true),(5,true),(4,false),(6,false),(7,true),(8,true),(9,true),(10,true),(11,true),(12,true),(13,true),(14,true),(15,true),(16,true),(17,true),(18,true),(19,true),(20,true),(21,true),(22,true),(23,true),(24,true),(25,true),(26,true),(27,true),(28,true)] (by kernel_rfl) (by kernel_rfl) ?_
      obtain ⟨V0,hV0⟩ : ∃ V : World,W8.drew = V:=⟨_,rfl⟩
      rw [hV0]
      have bV0 : Below W8.heap.size W8 V0:=by rw [← hV0]; exact (Below.refl _ _).drew
      clear hV0
      have hS : V0.cell? ⟨w3.heap.size,0,none⟩ = some (.int .i64 N) ∧ V0.cell? ⟨w3.heap.size,1,none⟩ = some (.slice oa3 on3 oc3) ∧ V0.cell? ⟨w3.heap.size,2,none⟩ = some (.bool Y) ∧ V0.cell? ⟨w3.heap.size,3,none⟩ = some (.bool F) ∧ V0.cell? ⟨w3.heap.size,4,none⟩ = some (.int .i64 X) ∧ V0.cell? ⟨w3.heap.size,5,none⟩ = some (.bool Z) ∧ V0.cell? ⟨w3.heap.size,6,none⟩ = some (.slice fa3 fn3 fc3) ∧ V0.cell? ⟨w3.heap.size,7,none⟩ = some (.bool L) ∧ V0.cell? ⟨w3.heap.size,8,none⟩ = some (.bool P) ∧ V0.cell? ⟨w8.heap.size,0,none⟩ = some (.int .i64 N8) ∧ V0.cell? ⟨w8.heap.size,1,none⟩ = some (.slice oa8 on8 oc8) ∧ V0.cell? ⟨w8.heap.size,2,none⟩ = some (.bool Y) ∧ V0.cell? ⟨w8.heap.size,3,none⟩ = some (.bool F) ∧ V0.cell? ⟨w8.heap.size,4,none⟩ = some (.int .i64 X) ∧ V0.cell? ⟨w8.heap.size,5,none⟩ = some (.bool Z8) ∧ V0.cell? ⟨w8.heap.size,6,none⟩ = some (.slice fa8 fn8 fc8) ∧ V0.cell? ⟨w8.heap.size,7,none⟩ = some (.bool L) ∧ V0.cell? ⟨w8.heap.size,8,none⟩ = some (.bool P):=⟨cell_keep bV0 u3_0,cell_keep bV0 u3_1,cell_keep bV0 u3_2,cell_keep bV0 u3_3,cell_keep bV0 u3_4,cell_keep bV0 u3_5,cell_keep bV0 u3_6,cell_keep bV0 u3_7,cell_keep bV0 u3_8,cell_keep bV0 u8_0,cell_keep bV0 u8_1,cell_keep bV0 u8_2,cell_keep bV0 u8_3,cell_keep bV0 u8_4,cell_keep bV0 u8_5,cell_keep bV0 u8_6,cell_keep bV0 u8_7,cell_keep bV0 u8_8⟩
      clear u3_0 u3_1 u3_2 u3_3 u3_4 u3_5 u3_6 u3_7 u3_8 u8_0 u8_1 u8_2 u8_3 u8_4 u8_5 u8_6 u8_7 u8_8
      refine pqY 152 hS ?_
      refine pqY 153 hS ?_
      refine pqY 154 hS ?_
      refine pqY 155 hS ?_
      refine pqY 157 hS ?_
      refine headC rfl (fun KK hK => ?_)
      go_simp
      refine (kind_any _ _ _ _ _ _ _ _ _ V0).mono ?_
      rintro e V1 ⟨_,rfl,bV1,rfl⟩
      have hS1 : V1.cell? ⟨w3.heap.size,0,none⟩ = some (.int .i64 N) ∧ V1.cell? ⟨w3.heap.size,1,none⟩ = some (.slice oa3 on3 oc3) ∧ V1.cell? ⟨w3.heap.size,2,none⟩ = some (.bool Y) ∧ V1.cell? ⟨w3.heap.size,3,none⟩ = some (.bool F) ∧ V1.cell? ⟨w3.heap.size,4,none⟩ = some (.int .i64 X) ∧ V1.cell? ⟨w3.heap.size,5,none⟩ = some (.bool Z) ∧ V1.cell? ⟨w3.heap.size,6,none⟩ = some (.slice fa3 fn3 fc3) ∧ V1.cell? ⟨w3.heap.size,7,none⟩ = some (.bool L) ∧ V1.cell? ⟨w3.heap.size,8,none⟩ = some (.bool P) ∧ V1.cell? ⟨w8.heap.size,0,none⟩ = some (.int .i64 N8) ∧ V1.cell? ⟨w8.heap.size,1,none⟩ = some (.slice oa8 on8 oc8) ∧ V1.cell? ⟨w8.heap.size,2,none⟩ = some (.bool Y) ∧ V1.cell? ⟨w8.heap.size,3,none⟩ = some (.bool F) ∧ V1.cell? ⟨w8.heap.size,4,none⟩ = some (.int .i64 X) ∧ V1.cell? ⟨w8.heap.size,5,none⟩ = some (.bool Z8) ∧ V1.cell? ⟨w8.heap.size,6,none⟩ = some (.slice fa8 fn8 fc8) ∧ V1.cell? ⟨w8.heap.size,7,none⟩ = some (.bool L) ∧ V1.cell? ⟨w8.heap.size,8,none⟩ = some (.bool P):=by
       obtain ⟨z0,z1,z2,z3,z4,z5,z6,z7,z8,z9,z10,z11,z12,z13,z14,z15,z16,z17⟩:=hS
       exact ⟨cell_keep bV1 z0,cell_keep bV1 z1,cell_keep bV1 z2,cell_keep bV1 z3,cell_keep bV1 z4,cell_keep bV1 z5,cell_keep bV1 z6,cell_keep bV1 z7,cell_keep bV1 z8,cell_keep bV1 z9,cell_keep bV1 z10,cell_keep bV1 z11,cell_keep bV1 z12,cell_keep bV1 z13,cell_keep bV1 z14,cell_keep bV1 z15,cell_keep bV1 z16,cell_keep bV1 z17⟩
      refine hK _ _ hS1 ?_
      clear hK KK hS
      refine headC rfl (fun KK hK => ?_)
      go_simp
      refine (kind_any _ _ _ _ _ _ _ _ _ V1).mono ?_
      rintro e V2 ⟨_,rfl,bV2,rfl⟩
      have hS2 : V2.cell? ⟨w3.heap.size,0,none⟩ = some (.int .i64 N) ∧ V2.cell? ⟨w3.heap.size,1,none⟩ = some (.slice oa3 on3 oc3) ∧ V2.cell? ⟨w3.heap.size,2,none⟩ = some (.bool Y) ∧ V2.cell? ⟨w3.heap.size,3,none⟩ = some (.bool F) ∧ V2.cell? ⟨w3.heap.size,4,none⟩ = some (.int .i64 X) ∧ V2.cell? ⟨w3.heap.size,5,none⟩ = some (.bool Z) ∧ V2.cell? ⟨w3.heap.size,6,none⟩ = some (.slice fa3 fn3 fc3) ∧ V2.cell? ⟨w3.heap.size,7,none⟩ = some (.bool L) ∧ V2.cell? ⟨w3.heap.size,8,none⟩ = some (.bool P) ∧ V2.cell? ⟨w8.heap.size,0,none⟩ = some (.int .i64 N8) ∧ V2.cell? ⟨w8.heap.size,1,none⟩ = some (.slice oa8 on8 oc8) ∧ V2.cell? ⟨w8.heap.size,2,none⟩ = some (.bool Y) ∧ V2.cell? ⟨w8.heap.size,3,none⟩ = some (.bool F) ∧ V2.cell? ⟨w8.heap.size,4,none⟩ = some (.int .i64 X) ∧ V2.cell? ⟨w8.heap.size,5,none⟩ = some (.bool Z8) ∧ V2.cell? ⟨w8.heap.size,6,none⟩ = some (.slice fa8 fn8 fc8) ∧ V2.cell? ⟨w8.heap.size,7,none⟩ = some (.bool L) ∧ V2.cell? ⟨w8.heap.size,8,none⟩ = some (.bool P):=by
       obtain ⟨z0,z1,z2,z3,z4,z5,z6,z7,z8,z9,z10,z11,z12,z13,z14,z15,z16,z17⟩:=hS1
       exact ⟨cell_keep bV2 z0,cell_keep bV2 z1,cell_keep bV2 z2,cell_keep bV2 z3,cell_keep bV2 z4,cell_keep bV2 z5,cell_keep bV2 z6,cell_keep bV2 z7,cell_keep bV2 z8,cell_keep bV2 z9,cell_keep bV2 z10,cell_keep bV2 z11,cell_keep bV2 z12,cell_keep bV2 z13,cell_keep bV2 z14,cell_keep bV2 z15,cell_keep bV2 z16,cell_keep bV2 z17⟩
      refine hK _ _ hS2 ?_
      clear hK KK hS1
      obtain ⟨kb,hkb⟩ : ∃ b,kindB Y F = b:=⟨_,rfl⟩
      rw [hkb]
      have ykb : (kb == kb) = true:=by rcases kb with ⟨d⟩; show (d == d) = true; simp
      replace hkb:=Hd hkb
      refine pqY 159 hS2 ?_
      refine pqY 160 hS2 ?_
      refine pqY 161 hS2 ?_
      refine pqY 162 hS2 ?_
      refine pqY 163 hS2 ?_
      refine pqY 164 hS2 ?_
      refine pqY 165 hS2 ?_
      refine pqY 166 hS2 ?_
      refine pqY 167 hS2 ?_
      refine pqY 168 hS2 ?_
      refine pqY 169 hS2 ?_
      refine pqY 170 hS2 ?_
      refine pqY 171 hS2 ?_
      refine pqY 172 hS2 ?_
      refine pqY 173 hS2 ?_
      refine pqY 174 hS2 ?_
      refine pqY 175 hS2 ?_
      refine pqY 176 hS2 ?_
      refine pqY 177 hS2 ?_
      refine pqY 178 hS2 ?_
      refine pqY 179 hS2 ?_
      refine pqY 180 hS2 ?_
      refine head0 ?_
      simp only [List.drop_succ_cons,List.drop_zero]
      have bV:=Below.step bV0 (Below.step bV1 bV2)
      have bE:=Below.step b0 (Below.step c0_8 bV)
      obtain ⟨z0,z1,z2,z3,z4,z5,z6,z7,z8,z9,z10,z11,z12,z13,z14,z15,z16,z17⟩:=hS2
      go_wp2
      refine NoPanic.normal ?_
      by_cases c3 : N = 3
      ·have d1 : (N == 3) = true:=by simp [c3]
       clear c3
       go_wp2
       go_ret
       exact ⟨_,rfl,bE,rfl⟩
      ·have d1 : (N == 3) = false:=by simp [c3]
       by_cases c8 : N8 = 3
       ·have d3 : (N8 == 3) = true:=by simp [c8]
        clear c3 c8
        go_wp2
        go_ret
        exact ⟨_,rfl,bE,rfl⟩
       ·have d3 : (N8 == 3) = false:=by simp [c8]
        obtain ⟨e8,f8⟩:=hsame8.out c3 c8
        rw [f8] at lA8
        have d5 : (N8 == N) = true:=by simp [e8]
        have d5b : (N == N8) = true:=by simp [e8]
        have d6 : ((ol.length : Int) == (ol.length : Int)) = true:=by simp
        replace e8:=Hd e8
        replace f8:=Hd f8
        replace c3:=Hd c3
        replace c8:=Hd c8
        go_wp2
        go_ret
        exact ⟨_,rfl,bE,rfl⟩
/-- Any rule, any list. -/
theorem labForms_any (r : Nat → Addr) (k R : Int) (v : Value) (T : List Int) (u : Value) (p : List Int) (w : World) (hg : Glob r w) (hG : GlobE w) (h : IntsAt w v T) (hp : IntsAt w u p) (hpl : p.length ≤ 17592186044416) :
 Calls Tryz.prog 8 #[.agg #[.int .i64 k,.int .i64 R,v],u] w (Ret1 (fun x _ => x = .bool true) w):=by
 obtain ⟨va,vn,vc,rfl⟩:=h.shape
 obtain ⟨pa,pn,pc,rfl⟩:=hp.shape
 cases hc : smallP k R T with
 | some t => exact labForms_bad r k R va vn vc T pa pn pc p w hg hG h hp t hc
 | none =>
  obtain ⟨K,Q,rfl,rfl,hr,hl⟩:=smallP_of hc
  exact labForms_ok r K Q va vn vc T pa pn pc p w hg hG h hp hpl hr hl
end Go.Proofs.YtncpnaoabkjegaaGreatDoor
namespace Go.Proofs.YtncpnaoabkjegaaGreatDoor
open Go.ChangeShapes Go.WideShapes Go.ChangeAt Go.RowKit Go.Joins
set_option maxRecDepth 100000
theorem own : ownKnob Tryz.prog.godebug = none:=by kernel_rfl
theorem laidOut : laidOutB Tryz.prog = true:=by kernel_rfl
theorem cellsInt : Tryz.prog.cellsOf 3 = 1:=by kernel_rfl
theorem uInt : Tryz.prog.underlying 3 = some (.int .i64):=by kernel_rfl
theorem bytesInt : Tryz.prog.bytesOf 3 = 8:=by kernel_rfl
theorem i64_of_wf {n : Int} (h : (Lit.int .i64 n).wf = true) : I64 n:=by
 have:=bounds_i64 h
 unfold I64
 omega
/-- A []int that came in. -/
theorem open_intsV {H : Type} {enc : TypeId × Value → H} {W : World} {held : Bool} {fuel : Nat} {v : Value} {y : DataW H × List MemPlace}
 (h : DataW.trod enc Tryz.prog W 0 (fun _ => true) held fuel 22 [v] = some y) (hw : ∀ n ∈ y.1.weights Tryz.prog 22,n ≤ reachBytes) :
 ∃ xs,IntsAt W v xs ∧ xs.length ≤ 17592186043904 ∧ ∀ x ∈ xs,I64 x:=by
 rcases open_ints uInts uInt cellsInt h with ⟨hcs,_⟩ | ⟨a,len,cap,zs,hcs,_,hl,hm,hz,hx,hcell,hwz⟩
 ·simp at hcs
  subst hcs
  exact ⟨[],(OwnI.nil 0 W).at,by simp,by simp⟩
 ·simp at hcs
  subst hcs
  simp only [if_true] at hz
  have hzl : (zs.take len).length = len:=by simp; omega
  refine ⟨zs.take len,⟨some a,cap,by rw [hzl],by rw [hzl]; exact hl,hm,(fun e => by cases e),fun i hi => ?_⟩,?_,fun x hx => i64_of_wf (hwz x (List.mem_of_mem_take hx))⟩
  ·have hi' : i < zs.length:=by rw [hzl] at hi; omega
   show W.cell? (a.add i) = _
   rw [hcell i hi']
   simp [List.getD,hi']
  ·rw [hx] at hw
   have:=hw ((lits (H:=H) .i64 (zs.take len)).length * 8 + (lits (H:=H) .i64 (zs.drop len)).length * 8) (by
    simp only [DataW.weights,uInts,bytesInt,List.mem_cons]
    left; omega)
   simp only [lits,List.length_map,reachBytes] at this
   omega
theorem open_intsT {H : Type} {enc : TypeId × Value → H} {W : World} {held : Bool} {v : Value} {d : DataW H} {p : List MemPlace} {b0 : Nat}
 (hv : Value.okWide Tryz.prog W .any b0 22 v) (h : DataW.Trod enc Tryz.prog W 0 (fun _ => true) held 22 v d p) (hw : ∀ n ∈ d.weights Tryz.prog 22,n ≤ reachBytes) :
 ∃ xs,IntsAt W v xs ∧ xs.length ≤ 17592186043904 ∧ ∀ x ∈ xs,I64 x:=by
 obtain ⟨a,l,c,rfl⟩:=okWide_slice uInts hv
 obtain ⟨fuel,hf⟩:=h
 exact open_intsV (y:=(d,p)) (by simpa [Value.cells] using hf) hw
theorem weights_each3 {H : Type} {t0 t1 t2 : TypeId} {y0 y1 y2 : DataW H} {n : Nat} (h : n ∈ y2.weights Tryz.prog t2) : n ∈ DataW.weightsEach Tryz.prog [t0,t1,t2] [y0,y1,y2]:=by
 simp only [DataW.weightsEach,List.mem_append]
 exact .inr (.inr (.inl h))
/-- A rule that came in. -/
theorem open_ruleV {H : Type} {enc : TypeId × Value → H} {W : World} {held : Bool} {v : Value} {d : DataW H} {p : List MemPlace} {b0 : Nat}
 (hv : Value.okWide Tryz.prog W .any b0 24 v) (h : DataW.Trod enc Tryz.prog W 0 (fun _ => true) held 24 v d p) (hw : ∀ n ∈ d.weights Tryz.prog 24,n ≤ reachBytes) :
 ∃ (k R : Int) (u : Value) (xs : List Int),v = .agg #[.int .i64 k,.int .i64 R,u] ∧ IntsAt W u xs ∧ xs.length ≤ 17592186043904 ∧ (∀ x ∈ xs,I64 x) ∧ I64 k ∧ I64 R:=by
 obtain ⟨v0,v1,v2,y0,y1,y2,n,rfl,rfl,rfl,h0,h1,h2⟩:=open_agg3 Tryz.underlying24 (by kernel_rfl) (by kernel_rfl) hv h
 obtain ⟨a,e0,_,wa⟩:=DataW.trod_int uInt h0
 obtain ⟨b,e1,_,wb⟩:=DataW.trod_int uInt h1
 simp at e0 e1
 subst e0 e1
 obtain ⟨xs,hx,hl,hb⟩:=open_intsV h2 fun n hn => hw n (by
  simp only [DataW.weights,Tryz.underlying24]
  exact weights_each3 (t0:=3) (t1:=3) (t2:=22) hn)
 exact ⟨a,b,v2,xs,rfl,hx,hl,hb,i64_of_wf wa,i64_of_wf wb⟩
/-! The package-level errors. -/
theorem star : "*" ++ "errors.errorString" = "*errors.errorString" := by decide
theorem rowES (u : TypeId) (h : Tryz.prog.typeName? 3 u = some "*errors.errorString") : u = 322 :=
 typeName_ptr_named (nm := "errors.errorString") (by rw [star]; kernel_rfl) (by kernel_rfl) (by decide) u (by rw [star]; exact h)
theorem pES : Tryz.prog.underlying 322 = some (.pointer 340):=by kernel_rfl
theorem cES : Tryz.prog.cellsOf 340 = 1:=by kernel_rfl
theorem cStr : Tryz.prog.cellsOf 9 = 1:=by kernel_rfl
def laid12 : List (String × DataW Unit) := [("eden/api.BadRule", Rows.laid_eden_api_BadRule), ("eden/api.BadWord", Rows.laid_eden_api_BadWord), ("eden/api.BadArg", Rows.laid_eden_api_BadArg), ("eden/api.TooBig", Rows.laid_eden_api_TooBig), ("eden/api.NoBudget", Rows.laid_eden_api_NoBudget), ("eden/api.BadText", Rows.laid_eden_api_BadText), ("eden/api.BadPatch", Rows.laid_eden_api_BadPatch), ("eden/api.BadCert", Rows.laid_eden_api_BadCert), ("eden/api.NoInverse", Rows.laid_eden_api_NoInverse), ("eden/api.BadLine", Rows.laid_eden_api_BadLine), ("eden/api.BadState", Rows.laid_eden_api_BadState), ("eden/api.Unknown", Rows.laid_eden_api_Unknown)]
theorem sentinel {n : String} {text : List UInt8} {r : List (String × DataW Unit)} {W : World} {g : Nat}
 (h : laidMet Tryz.prog ((n, .iface "*errors.errorString" (.ptr (.agg [.lit (.string text)]))) :: r) W)
 (hg : Tryz.prog.globalNamed n = some g) (ht : (Tryz.prog.globals[g]?).map (·.type) = some 27) :
 (∃ a : Addr,W.cell? ⟨g,0,none⟩ = some (.iface 322 (.pointer (some a))) ∧ ∃ s,W.cell? a = some (.string s) ∧ s.data.toList = text ∧ ∃ c t,W.heap[a.block]? = some (.cells c t (0,0))) ∧ laidMet Tryz.prog r W:=by
 refine ⟨?_,h.tail⟩
 obtain ⟨ps,⟨g0,t0,cs0,f0,p0,q0,hg0,ht0,hv0,hd0,_,e0⟩,_,hrows⟩:=h
 obtain rfl:=Option.some.inj (hg.symm.trans hg0)
 obtain rfl:=Option.some.inj (ht.symm.trans ht0)
 subst e0
 obtain ⟨l0⟩:=cs0
 have ok0 : ∀ u v,l0 = [.iface u v] → Value.okWide Tryz.prog W .any 0 u v:=fun u v e => by
  subst e
  exact (hrows g 0 (by simp [MemPlace.row])).2 u v (by simpa using World.var?_cell hg hv0 0)
 obtain ⟨a0,s0,rfl,hc0,hs0,hz0,rfl⟩:=errorString_of_trod Tryz.underlying27 rowES pES Tryz.underlying340 rfl rfl Tryz.underlying9 cES cStr hd0 ok0
 exact ⟨a0,by simpa using World.var?_cell hg hv0 0,s0,hc0,hs0,(hrows a0.block a0.off (by simp [MemPlace.row])).1⟩
def txt : Nat → List UInt8
 | 1 => [98,97,100,32,114,117,108,101]
 | 2 => [98,97,100,32,119,111,114,100]
 | 3 => [98,97,100,32,97,114,103,117,109,101,110,116]
 | 4 => [116,111,111,32,98,105,103]
 | 5 => [110,111,32,98,117,100,103,101,116]
 | 6 => [98,97,100,32,116,101,120,116]
 | 7 => [98,97,100,32,112,97,116,99,104]
 | 8 => [98,97,100,32,99,101,114,116,105,102,105,99,97,116,101]
 | 9 => [110,111,32,105,110,118,101,114,115,101]
 | 10 => [98,97,100,32,108,105,110,101]
 | 11 => [98,97,100,32,115,116,97,116,101]
 | 99 => [117,110,107,110,111,119,110]
 | _ => []
theorem txt_apart : ∀ m n : Fin 12,1 ≤ m.val → 1 ≤ n.val → txt m.val = txt n.val → m = n:=by decide
theorem glob_of_laidR {W : World} {l : List (String × DataW Unit)} (h : laidMet Tryz.prog (laid12 ++ l) W) : ∃ r,Glob r W:=by
 obtain ⟨⟨a1,c1,s1,e1,t1,f1⟩,h⟩:=sentinel (text:=txt 1) h (g:=3) (by kernel_rfl) (by kernel_rfl)
 obtain ⟨⟨a2,c2,s2,e2,t2,f2⟩,h⟩:=sentinel (text:=txt 2) h (g:=4) (by kernel_rfl) (by kernel_rfl)
 obtain ⟨⟨a3,c3,s3,e3,t3,f3⟩,h⟩:=sentinel (text:=txt 3) h (g:=5) (by kernel_rfl) (by kernel_rfl)
 obtain ⟨⟨a4,c4,s4,e4,t4,f4⟩,h⟩:=sentinel (text:=txt 4) h (g:=0) (by kernel_rfl) (by kernel_rfl)
 obtain ⟨⟨a5,c5,s5,e5,t5,f5⟩,h⟩:=sentinel (text:=txt 5) h (g:=6) (by kernel_rfl) (by kernel_rfl)
 obtain ⟨⟨a6,c6,s6,e6,t6,f6⟩,h⟩:=sentinel (text:=txt 6) h (g:=7) (by kernel_rfl) (by kernel_rfl)
 obtain ⟨⟨a7,c7,s7,e7,t7,f7⟩,h⟩:=sentinel (text:=txt 7) h (g:=8) (by kernel_rfl) (by kernel_rfl)
 obtain ⟨⟨a8,c8,s8,e8,t8,f8⟩,h⟩:=sentinel (text:=txt 8) h (g:=9) (by kernel_rfl) (by kernel_rfl)
 obtain ⟨⟨a9,c9,s9,e9,t9,f9⟩,h⟩:=sentinel (text:=txt 9) h (g:=1) (by kernel_rfl) (by kernel_rfl)
 obtain ⟨⟨a10,c10,s10,e10,t10,f10⟩,h⟩:=sentinel (text:=txt 10) h (g:=10) (by kernel_rfl) (by kernel_rfl)
 obtain ⟨⟨a11,c11,s11,e11,t11,f11⟩,h⟩:=sentinel (text:=txt 11) h (g:=11) (by kernel_rfl) (by kernel_rfl)
 obtain ⟨⟨a99,c99,s99,e99,t99,f99⟩,h⟩:=sentinel (text:=txt 99) h (g:=12) (by kernel_rfl) (by kernel_rfl)
 clear h
 have key : ∀ n : Nat,(1 ≤ n ∧ n ≤ 11) ∨ n = 99 → ∃ s,W.cell? ((fun n : Nat => match n with | 1 => a1 | 2 => a2 | 3 => a3 | 4 => a4 | 5 => a5 | 6 => a6 | 7 => a7 | 8 => a8 | 9 => a9 | 10 => a10 | 11 => a11 | _ => a99) n) = some (.string s) ∧ s.data.toList = txt n ∧ ∃ c t,W.heap[((fun n : Nat => match n with | 1 => a1 | 2 => a2 | 3 => a3 | 4 => a4 | 5 => a5 | 6 => a6 | 7 => a7 | 8 => a8 | 9 => a9 | 10 => a10 | 11 => a11 | _ => a99) n).block]? = some (.cells c t (0,0)):=by
  intro n hn
  have : n = 1 ∨ n = 2 ∨ n = 3 ∨ n = 4 ∨ n = 5 ∨ n = 6 ∨ n = 7 ∨ n = 8 ∨ n = 9 ∨ n = 10 ∨ n = 11 ∨ n = 99:=by omega
  rcases this with rfl | rfl | rfl | rfl | rfl | rfl | rfl | rfl | rfl | rfl | rfl | rfl
  ·exact ⟨s1,e1,t1,f1⟩
  ·exact ⟨s2,e2,t2,f2⟩
  ·exact ⟨s3,e3,t3,f3⟩
  ·exact ⟨s4,e4,t4,f4⟩
  ·exact ⟨s5,e5,t5,f5⟩
  ·exact ⟨s6,e6,t6,f6⟩
  ·exact ⟨s7,e7,t7,f7⟩
  ·exact ⟨s8,e8,t8,f8⟩
  ·exact ⟨s9,e9,t9,f9⟩
  ·exact ⟨s10,e10,t10,f10⟩
  ·exact ⟨s11,e11,t11,f11⟩
  ·exact ⟨s99,e99,t99,f99⟩
 refine ⟨(fun n : Nat => match n with | 1 => a1 | 2 => a2 | 3 => a3 | 4 => a4 | 5 => a5 | 6 => a6 | 7 => a7 | 8 => a8 | 9 => a9 | 10 => a10 | 11 => a11 | _ => a99),c1,c2,c3,c4,c5,c6,c7,c8,c9,c10,c11,c99,(fun n hn => ?_),fun m n hm1 hm2 hn1 hn2 he => ?_,fun n hn => ?_⟩
 ·obtain ⟨s,hs,_⟩:=key n hn
  exact ⟨s,hs⟩
 ·obtain ⟨s,hs,ts,_⟩:=key m.toNat (by omega)
  obtain ⟨s',hs',ts',_⟩:=key n.toNat (by omega)
  have hss : s = s':=by
   have:=hs.symm.trans ((congrArg W.cell? he).trans hs')
   simpa using this
  subst hss
  have:=txt_apart ⟨m.toNat,by omega⟩ ⟨n.toNat,by omega⟩ (by simp; omega) (by simp; omega) (ts.symm.trans ts')
  have:=congrArg Fin.val this
  simp at this
  omega
 ·obtain ⟨_,_,_,hf⟩:=key n hn
  exact hf
theorem glob_of_laid {W : World} (h : laidMet Tryz.prog laid12 W) : ∃ r,Glob r W:=glob_of_laidR (l:=[]) h
end Go.Proofs.YtncpnaoabkjegaaGreatDoor
namespace Go.Proofs.YtncpnaoabkjegaaGreatDoor
open Go.RowKit
set_option maxRecDepth 100000
def laid13 : List (String × DataW Unit) := ("errors.errorType", Rows.laid_errors_errorType) :: laid12
theorem rtypeNo : (Tryz.prog.cutTypes.find? (·.1 == "internal/reflectlite.rtype")).map (·.2) = some 239 := by kernel_rfl
theorem errorTypeNo : Tryz.prog.globalNamed "errors.errorType" = some 2 := by kernel_rfl
theorem typesNo : Tryz.prog.types.size = 452 - 100:=by kernel_rfl
theorem oneError : ((List.range (452 - 100)).filter fun t => Tryz.prog.rowNamed t [101,114,114,111,114]) = [27]:=by kernel_rfl
theorem handleErr : typeHandle Tryz.prog 27 = .pointer (some ⟨17,27,none⟩):=by kernel_rfl
theorem glob_of_laidH {W : World} (h : laidMetH Tryz.prog laid13 W) : ∃ r,Glob r W ∧ GlobE W:=by
 have h' : laidMet Tryz.prog laid12 W ∧ handlesMet Tryz.prog [("errors.errorType", Rows.laid_errors_errorType)] W := h
 obtain ⟨r,hg⟩:=glob_of_laid h'.1
 refine ⟨r,hg,?_⟩
 obtain ⟨name,u,ty,e1,e2,e3,e4,e5⟩:=h'.2 _ (List.mem_cons_self ..)
 have en : name = [101,114,114,111,114]:=(Option.some.inj e1).symm
 subst en
 obtain rfl:=Option.some.inj (rtypeNo.symm.trans e2)
 have hm : ty ∈ (List.range (452 - 100)).filter fun t => Tryz.prog.rowNamed t [101,114,114,111,114]:=List.mem_filter.2 ⟨List.mem_range.2 (by rw [← typesNo]; exact e3),e4⟩
 rw [oneError] at hm
 obtain rfl:=List.mem_singleton.1 hm
 rw [handleErr] at e5
 simpa [GlobE] using World.var?_cell errorTypeNo e5 0
end Go.Proofs.YtncpnaoabkjegaaGreatDoor
