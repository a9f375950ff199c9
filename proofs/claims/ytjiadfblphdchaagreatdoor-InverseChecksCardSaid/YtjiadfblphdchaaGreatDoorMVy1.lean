/-
  Proved: the law edenlaw20.InverseChecks as its tied card: it returns true and never panics, for any two rules. No conditions beyond the card's own.
  Walks: additive.Of.
  Walks: additive.Onto, additive.One.
  Walks: edenref18.Onto, One.
  Walk: edenref18.One.
  Errors as edenraw.Is takes them: a number from 1 to 11, few packages.
  Plain mathematics: the reference's factors of a rule, the first found first.
  Walk: edenref18.Of.
  Walks: edenref04.Value, edenref05.fault, edenref05.Mirror at a rule.
  Walks: edenref04.Small, Image, edenref08.Fault.
  Plain mathematics of layers 6 and 14: the image of a ring; the first two of a row of lists that are one.
  Plain mathematics of layer 14: rows along vertices without ends, their images.
  Plain facts: a ring's windows; two rings with one image tell that a rule is not one to one.
  Walks: edenref05.wide, Widen at a rule, edenref13.Working, edenref08.Count.
  Walk: edenref13.All: the graph of pairs of a working rule.
  Walks: edenref13.Odd, Graph, Apart.
  Walks: edenref04.Power, Digits, Value at up to twelve symbols; edenref06.Image.
  Walk: edenref04.Digits at numbers up to 1048576 (inverse.Check goes through up to 4^9 words).
  Walk: edenref20.Check: its answer as data.
  Walk: edenlaw20.InverseChecks returns true.
-/
import Derived.Test.YtjiadfblphdchaaGreatDoorMVb11
import Derived.Deep.RegionWith
import Derived.RegionTactic
import Derived.Deep.RegionHeld3
import Derived.Deep.DeepCutAuto
import Derived.Test.YtjiadfblphdchaaGreatDoorCards
import Derived.Test.YtjiadfblphdchaaGreatDoorTie
import Derived.SevenTiedAt
namespace Go.Proofs.YtjiadfblphdchaaGreatDoor
open Go.RowKit
set_option maxRecDepth 100000
end Go.Proofs.YtjiadfblphdchaaGreatDoor
namespace Go.Proofs.YtjiadfblphdchaaGreatDoor
open Go.RowKit
set_option maxRecDepth 100000
end Go.Proofs.YtjiadfblphdchaaGreatDoor
namespace Go.Proofs.YtjiadfblphdchaaGreatDoor
open Go.RowKit
set_option maxRecDepth 100000
theorem EOwn.drew {B : Nat} {w : World} {t : PErr} {v : Value} (h : EOwn B w t v) : EOwn B w.drew t v:=by
 match t,h with
 | none,h => exact h
 | some (n,l),h => exact h
end Go.Proofs.YtjiadfblphdchaaGreatDoor
namespace Go.Proofs.YtjiadfblphdchaaGreatDoor
open Go.RowKit
set_option maxRecDepth 100000
end Go.Proofs.YtjiadfblphdchaaGreatDoor
namespace Go.Proofs.YtjiadfblphdchaaGreatDoor
open Go.RowKit
set_option maxRecDepth 100000
theorem checkP_num {k R : Int} {xs : List Int} {t : Int × List (ByteArray × Int)} (h : checkP k R xs = some t) : t.1 = 1 ∧ t.2.length = 1:=by
 unfold checkP fresh at h
 split at h
 ·cases h; exact ⟨rfl,rfl⟩
 ·split at h
  ·cases h; exact ⟨rfl,rfl⟩
  ·split at h
   ·cases h; exact ⟨rfl,rfl⟩
   ·split at h
    ·cases h
    ·cases h; exact ⟨rfl,rfl⟩
end Go.Proofs.YtjiadfblphdchaaGreatDoor
namespace Go.Proofs.YtjiadfblphdchaaGreatDoor
end Go.Proofs.YtjiadfblphdchaaGreatDoor
namespace Go.Proofs.YtjiadfblphdchaaGreatDoor
open Go.RowKit
set_option maxRecDepth 100000
end Go.Proofs.YtjiadfblphdchaaGreatDoor
namespace Go.Proofs.YtjiadfblphdchaaGreatDoor
open Go.RowKit
set_option maxRecDepth 100000
theorem ref_value (K : Nat) (u : Value) (ys : List Int) (w : World) (hk1 : 1 ≤ K) (hk4 : K ≤ 4) (hu : IntsAt w u ys) (hy : Syms K ys) (hyl : ys.length ≤ 7) :
 Calls Tryz.prog 60 #[.int .i64 K,u] w fun e w' => e = .returned (.int .i64 (numW K ys)) ∧ w = w':=by
 have l1:=hu.len
 replace hu:=Lib.hid hu
 replace hy:=Lib.hid hy
 go_enter Tryz.func60,Tryz.ntmps60
 go_wp2
 go_loop [5,6] (fun n i => ∃ j : Nat,j ≤ ys.length ∧ i = .int .i64 j ∧ n = .int .i64 (numW K (ys.take j))) (fun _ i => ys.length - (intOf i).toNat)
 case atStart => exact ⟨0,by omega,rfl,rfl⟩
 case round =>
  obtain ⟨j,hj,rfl,rfl⟩:=hrel
  by_cases hjl : j < ys.length
  ·have i1:=hu.out.idx j hjl
   have c1:=hu.out.cell j hjl
   have hx:=hy.out ys[j] (by simp)
   have hn : Hid (numW K (ys.take (j + 1)) = numW K (ys.take j) * K + ys[j].toNat):=by
    show _ = _
    rw [take_snoc ys j hjl,numW_snoc]
   have hn2 : numW K (ys.take j) ≤ 16384:=by
    have h1:=numW_lt (ys.take j) (fun x hx => hy.out x (List.mem_of_mem_take hx))
    have h2:=pw_le hk1 hk4 (i:=(ys.take j).length) (by simp; omega)
    omega
   generalize ys[j] = x at c1 hx hn
   generalize numW K (ys.take j) = N at hn hn2
   have hm1 : 0 ≤ (N : Int) * (K : Int):=Int.mul_nonneg (by omega) (by omega)
   have hm2 : (N : Int) * (K : Int) ≤ 65536:=by
    have : N * K ≤ 65536:=Nat.mul_le_mul hn2 hk4
    have h2:=Int.ofNat_le.2 this
    rw [Int.natCast_mul] at h2
    exact h2
   go_wp2
   go_round
   case rel => exact ⟨j + 1,by omega,by go_num,by rw [hn.out]; go_num⟩
   case measure => simp [intOf]; omega
  ·obtain rfl : j = ys.length:=by omega
   rw [List.take_length]
   go_wp2
   go_ret
   exact ⟨rfl,rfl⟩
end Go.Proofs.YtjiadfblphdchaaGreatDoor
namespace Go.Proofs.YtjiadfblphdchaaGreatDoor
open Go.RowKit
set_option maxRecDepth 100000
set_option maxHeartbeats 2000000 in
theorem ref_image (K R : Nat) (va : Option Addr) (vn vc : Nat) (T : List Int) (u : Value) (x : List Int) (w : World) (h : IntsAt w (.slice va vn vc) T) (hr : RuleOk K R T) (hu : IntsAt w u x) (hx : Syms K x) (hl : x.length ≤ 100000) :
 Calls Tryz.prog 61 #[.agg #[.int .i64 K,.int .i64 R,.slice va vn vc],u] w (Ret1 (fun v w' => OwnI w.heap.size w' v (imgP K R T x)) w):=by
 have b0:=belowAlloc w (.cells #[.int .i64 K,.int .i64 R,.slice va vn vc] 24)
 have q : Box3 (w.alloc (.cells #[.int .i64 K,.int .i64 R,.slice va vn vc] 24)) w.heap.size (.int .i64 K) (.int .i64 R) (.slice va vn vc):=by simp [Box3,go_sem]
 have hR3:=hr.r3
 have hk1:=hr.k1
 have hk4:=hr.k4
 have lX:=hu.len
 obtain ⟨ua,un,uc,rfl⟩:=hu.shape
 replace h:=Lib.hid (h.below b0)
 replace hu:=Lib.hid (hu.below b0)
 replace hr:=Lib.hid hr
 replace hx:=Lib.hid hx
 obtain ⟨W0,hW0⟩ : ∃ W : World,w.alloc (.cells #[.int .i64 K,.int .i64 R,.slice va vn vc] 24) = W:=⟨_,rfl⟩
 have s0 : w.heap.size ≤ W0.heap.size:=by rw [← hW0]; simp
 rw [hW0] at h hu q b0
 replace hW0:=Lib.hid hW0
 go_enter Tryz.func61,Tryz.ntmps61
 go_upto_region 3 with fail
 rw [hW0.out]
 clear hW0
 go_loopw [5,6] (fun ov iv wr => ∃ (i : Nat) (ow : Value),ow = ov ∧ iv = .int .i64 i ∧ i ≤ x.length - 2 * R ∧ OwnI W0.heap.size wr ow ((imgP K R T x).take i) ∧ Below W0.heap.size W0 wr) (fun _ iv _ => x.length - (intOf iv).toNat)
 case atStart => exact ⟨0,_,rfl,rfl,Nat.zero_le _,OwnI.nil _ _,Below.refl _ _⟩
 case round =>
  obtain ⟨i,ow,rfl,rfl,hi,hO,hB⟩:=hrel
  obtain ⟨wo,rfl⟩ : ∃ wo : World,wo = wr:=⟨_,rfl⟩
  obtain ⟨⟨z0,z1,z2⟩,-,-,-⟩:=q.below hB
  by_cases hlt : i + 2 * R < x.length
  ·obtain ⟨W,hW⟩ : ∃ W : World,wo.drew = W:=⟨_,rfl⟩
   have hBW : Below W0.heap.size W0 W:=by rw [← hW]; exact hB.drew
   have hOW : OwnI W0.heap.size W ow ((imgP K R T x).take i):=by rw [← hW]; exact hO
   obtain ⟨pv,hsl,hP⟩:=(hu.out.below hBW).mid i (i + 2 * R + 1) (by omega) (by omega)
   have hwin : (x.take (i + 2 * R + 1)).drop i = (x.drop i).take (2 * R + 1):=by rw [List.drop_take]; congr 1; omega
   rw [hwin] at hP
   have hwl : ((x.drop i).take (2 * R + 1)).length = 2 * R + 1:=by rw [List.length_take,List.length_drop]; omega
   have hws : Syms K ((x.drop i).take (2 * R + 1)):=syms_take (syms_drop hx.out i) _
   have hnl:=numW_lt _ hws
   rw [hwl,← hr.out.len] at hnl
   have hT:=h.out.below hBW
   have iT:=fun w' => hT.idx _ hnl w'
   have cT:=hT.cellD _ hnl
   have hg:=imgP_getD K R T x i (by omega)
   have htk : (imgP K R T x).take (i + 1) = (imgP K R T x).take i ++ [(imgP K R T x).getD i 0]:=by
    rw [List.take_add_one,List.getElem?_eq_getElem (by rw [imgP_length]; omega),List.getD_eq_getElem?_getD,List.getElem?_eq_getElem (by rw [imgP_length]; omega)]; rfl
   rw [hg] at htk
   have hval:=ref_value K pv _ W hk1 hk4 hP hws (by rw [hwl]; omega)
   obtain ⟨pa,pn,pc,rfl⟩:=hP.shape
   have hsl2 : ∀ w',(Instr.slice 22 (.slice ua un uc) (some (.int .i64 (i : Int))) (some (.int .i64 ((i : Int) + 2 * (R : Int) + 1))) none).run Tryz.prog w' = .ok (.slice pa pn pc) w':=by
    intro w'; have:=hsl w'; rwa [show (((i + 2 * R + 1 : Nat) : Nat) : Int) = (i : Int) + 2 * (R : Int) + 1 by omega] at this
   have hnl2 : numW K ((x.drop i).take (2 * R + 1)) < T.length:=hnl
   have hta0 : (valAt (.slice va vn vc) (numW K ((x.drop i).take (2 * R + 1)))).block < W0.heap.size:=World.block_lt_of_cell? _ _ (h.out.cellD _ hnl)
   generalize T.getD (numW K ((x.drop i).take (2 * R + 1))) 0 = y at *
   generalize numW K ((x.drop i).take (2 * R + 1)) = N at *
   generalize valAt (.slice va vn vc) N = ta at *
   have hol : ((imgP K R T x).take i).length = i:=by rw [List.length_take,imgP_length]; omega
   have sW:=hBW.size
   have hta:=World.block_lt_of_cell? _ _ cT
   have hS : W.cell? ⟨w.heap.size,0,none⟩ = some (.int .i64 K) ∧ W.cell? ⟨w.heap.size,1,none⟩ = some (.int .i64 R) ∧ W.cell? ⟨w.heap.size,2,none⟩ = some (.slice va vn vc) ∧ W.cell? ta = some (.int .i64 y):=by
    obtain ⟨⟨y0,y1,y2⟩,-,-,-⟩:=q.below hBW
    exact ⟨y0,y1,y2,cT⟩
   have bl:=belowAlloc W (.cells #[.int .i64 y] 3)
   have hlit:=OwnI.lit W.heap.size W (Nat.le_refl _) [y] (by simp [maxLen]) #[.int .i64 y] rfl 1 rfl
   have hOl:=hOW.below bl
   have hBl : W0.heap.size ≤ (W.alloc (.cells #[.int .i64 y] 3)).heap.size:=by simp; omega
   have hS1 : (W.alloc (.cells #[.int .i64 y] 3)).cell? ⟨w.heap.size,0,none⟩ = some (.int .i64 K) ∧ (W.alloc (.cells #[.int .i64 y] 3)).cell? ⟨w.heap.size,1,none⟩ = some (.int .i64 R) ∧ (W.alloc (.cells #[.int .i64 y] 3)).cell? ⟨w.heap.size,2,none⟩ = some (.slice va vn vc) ∧ (W.alloc (.cells #[.int .i64 y] 3)).cell? ta = some (.int .i64 y):=by
    have h0:=World.block_lt_of_cell? _ _ hS.1
    exact ⟨(bl.cell h0).trans hS.1,(bl.cell (World.block_lt_of_cell? _ _ hS.2.1)).trans hS.2.1,(bl.cell (World.block_lt_of_cell? _ _ hS.2.2.1)).trans hS.2.2.1,(bl.cell hta).trans hS.2.2.2⟩
   replace hOl:=Lib.hid hOl
   replace hval:=Lib.hid hval
   replace hT:=Lib.hid hT
   replace hOW:=Lib.hid hOW
   replace hO:=Lib.hid hO
   replace hP:=Lib.hid hP
   replace hws:=Lib.hid hws
   replace hwl:=Lib.hid hwl
   replace hwin:=Lib.hid hwin
   replace hg:=Lib.hid hg
   replace htk:=Lib.hid htk
   replace hol:=Lib.hid hol
   replace hW:=Lib.hid hW
   replace hlit:=Lib.hid hlit
   clear hsl cT
   have hw1 : IntKind.i64.wrap (2 * (R : Int)) = 2 * (R : Int):=wrapK (by omega) (by omega)
   have hw2 : IntKind.i64.wrap ((i : Int) + 2 * (R : Int)) = (i : Int) + 2 * (R : Int):=wrapK (by omega) (by omega)
   have hw3 : IntKind.i64.wrap ((i : Int) + 2 * (R : Int) + 1) = (i : Int) + 2 * (R : Int) + 1:=wrapK (by omega) (by omega)
   go_upto_region 5 with fail
   refine wp_region_plan (fun w' => w'.cell? ⟨w.heap.size,0,none⟩ = some (.int .i64 K) ∧ w'.cell? ⟨w.heap.size,1,none⟩ = some (.int .i64 R) ∧ w'.cell? ⟨w.heap.size,2,none⟩ = some (.slice va vn vc) ∧ w'.cell? ta = some (.int .i64 y)) 19 [(0,true),(1,true),(2,true),(3,true),(4,true),(5,true),(6,true),(7,true),(8,true),(9,true),(10,true),(11,true),(12,true),(13,true),(14,false),(15,true),(16,true),(17,false),(18,false)] (by kernel_rfl) (by kernel_rfl) ?_
   rw [hW.out]
   clear z0 z1 z2
   refine pqY 17 hS ?_
   refine pqY 18 hS ?_
   refine pqY 19 hS ?_
   refine pqY 20 hS ?_
   refine pqY 21 hS ?_
   refine pqY 22 hS ?_
   refine pqY 23 hS ?_
   refine pqY 24 hS ?_
   refine pqY 25 hS ?_
   refine pqY 26 hS ?_
   refine pqY 27 hS ?_
   refine pqY 28 hS ?_
   refine pqY 29 hS ?_
   refine pqY 30 hS ?_
   refine headC rfl (fun KK hK => ?_)
   go_simp
   refine hval.out.mono ?_
   rintro e w5 ⟨rfl,rfl⟩
   refine hK _ _ hS ?_
   clear hK KK
   refine pqY 32 hS ?_
   refine pqY 33 hS ?_
   refine headC rfl (fun KK hK => ?_)
   go_simp
   refine hK _ _ hS1 ?_
   clear hK KK
   refine headC rfl (fun KK hK => ?_)
   refine step_appI rfl _ _ rfl W0.heap.size ow (.slice (some ⟨W.heap.size,0,none⟩) 1 1) _ [y] rfl rfl hOl.out hlit.out.at (by rw [hol.out]; simp; omega) hBl ?_
   intro v9 w9 ho9 b9
   rw [← htk.out] at ho9
   have b99:=(hBW.trans (bl.mono sW)).trans b9
   obtain ⟨v9a,v9b,v9c,rfl⟩:=ho9.at.shape
   replace ho9:=Lib.hid ho9
   have hS9 : w9.cell? ⟨w.heap.size,0,none⟩ = some (.int .i64 K) ∧ w9.cell? ⟨w.heap.size,1,none⟩ = some (.int .i64 R) ∧ w9.cell? ⟨w.heap.size,2,none⟩ = some (.slice va vn vc) ∧ w9.cell? ta = some (.int .i64 y):=by
    obtain ⟨⟨y0,y1,y2⟩,-,-,-⟩:=q.below b99
    exact ⟨y0,y1,y2,(b9.cell hta0).trans hS1.2.2.2⟩
   refine hK _ _ hS9 ?_
   clear hK KK
   refine head0 ?_
   simp only [List.drop_succ_cons,List.drop_zero]
   clear hS hS1 hS9
   go_wp2
   refine NoPanic.normal ?_
   go_wp2
   go_roundw
   case measure => simp [intOf]; omega
   case rel => exact ⟨i + 1,_,rfl,by go_num,by omega,ho9.out,b99⟩
  ·have hke : i = x.length - 2 * R:=by omega
   have hfin : (imgP K R T x).take i = imgP K R T x:=List.take_of_length_le (by rw [imgP_length]; omega)
   rw [hfin] at hO
   have d1 : decide ((i : Int) + 2 * (R : Int) < (x.length : Int)) = false:=decide_eq_false (by omega)
   replace hO:=Lib.hid hO
   replace hfin:=Lib.hid hfin
   replace hke:=Lib.hid hke
   obtain ⟨oa,on,oc,hov⟩:=hO.out.at.shape
   subst hov
   go_wp2
   go_ret
   exact ⟨_,rfl,b0.trans (hB.mono s0),hO.out.mono s0⟩
end Go.Proofs.YtjiadfblphdchaaGreatDoor
namespace Go.Proofs.YtjiadfblphdchaaGreatDoor
/-- a is the first of which b, further on, is a repeat; ahead of b nothing repeats. -/
def FirstIs (img : Nat → List Int) (m a b : Nat) : Prop:=a < b ∧ b < m ∧ img a = img b ∧ ∀ x y,x < y → y < b → img x ≠ img y
def NoRepeat (img : Nat → List Int) (m : Nat) : Prop:=∀ x y,x < y → y < m → img x ≠ img y
theorem FirstIs.not {img : Nat → List Int} {m a b : Nat} (h : FirstIs img m a b) : ¬ NoRepeat img m:=fun k => k a b h.1 h.2.1 h.2.2.1
theorem NoRepeat.succ {img : Nat → List Int} {m : Nat} (h : NoRepeat img m) (k : ∀ x,x < m → img x ≠ img m) : NoRepeat img (m + 1):=fun x y h1 h2 => by
 by_cases e : y = m
 ·subst e; exact k x h1
 ·exact h x y h1 (by omega)
end Go.Proofs.YtjiadfblphdchaaGreatDoor
namespace Go.Proofs.YtjiadfblphdchaaGreatDoor
/-- What stands at a place of a row of whatever. -/
def cellA {α : Type} (d : α) (L C Q : List α) (i : Int) : α :=
 if i < 0 then L.getD (i % (L.length : Int)).toNat d
 else if i < C.length then C.getD i.toNat d
 else Q.getD ((i - C.length) % (Q.length : Int)).toNat d
theorem emod_next {a : Int} {n j : Nat} (hn : 1 ≤ n) (h : a % (n : Int) = j) : (a + 1) % (n : Int) = if j + 1 < n then ((j + 1 : Nat) : Int) else 0:=by
 have h1:=Int.emod_lt_of_pos a (show (0 : Int) < n by omega)
 have e : (a + 1) % (n : Int) = (((a % n) + 1) % n):=by rw [Int.emod_add_emod]
 rw [e,h]
 split
 ·exact Int.emod_eq_of_lt (by omega) (by omega)
 ·rw [show (j : Int) + 1 = n by omega]; exact Int.emod_self
/-- A way without ends: a loop, a way, a loop. -/
structure Bi (adj : Nat → List Nat) (L C Q : List Nat) : Prop where
 l1 : 1 ≤ L.length
 c1 : 1 ≤ C.length
 q1 : 1 ≤ Q.length
 sL : ∀ j,j + 1 < L.length → L.getD (j + 1) 0 ∈ adj (L.getD j 0)
 eL : L.getD 0 0 ∈ adj (L.getD (L.length - 1) 0)
 fC : C.getD 0 0 = L.getD 0 0
 sC : ∀ j,j + 1 < C.length → C.getD (j + 1) 0 ∈ adj (C.getD j 0)
 eC : Q.getD 0 0 ∈ adj (C.getD (C.length - 1) 0)
 sQ : ∀ j,j + 1 < Q.length → Q.getD (j + 1) 0 ∈ adj (Q.getD j 0)
 eQ : Q.getD (Q.length - 1) 0 = C.getD (C.length - 1) 0
theorem Bi.step {adj : Nat → List Nat} {L C Q : List Nat} (h : Bi adj L C Q) (i : Int) : cellA 0 L C Q (i + 1) ∈ adj (cellA 0 L C Q i):=by
 have l1:=h.l1
 have c1:=h.c1
 have q1:=h.q1
 unfold cellA
 by_cases h0 : i < 0
 ·rw [if_pos h0]
  obtain ⟨j,hj,e⟩:=emod_nat (a:=i) l1
  have e2:=emod_next l1 e
  rw [e,Int.toNat_natCast]
  by_cases h1 : i + 1 < 0
  ·rw [if_pos h1,e2]
   split
   ·rename_i hlt; rw [Int.toNat_natCast]; exact h.sL j hlt
   ·obtain rfl : j = L.length - 1:=by omega
    exact h.eL
  ·rw [if_neg h1,if_pos (by omega),show (i + 1).toNat = 0 by omega,h.fC]
   have : i = -1:=by omega
   subst this
   have e3 : (-1 : Int) + 1 = 0:=rfl
   rw [e3,Int.zero_emod] at e2
   have : j = L.length - 1:=by
    split at e2
    ·omega
    ·omega
   subst this
   exact h.eL
 ·rw [if_neg h0,if_neg (show ¬ i + 1 < 0 by omega)]
  by_cases h1 : i < C.length
  ·rw [if_pos h1]
   by_cases h2 : i + 1 < C.length
   ·rw [if_pos h2,show (i + 1).toNat = i.toNat + 1 by omega]; exact h.sC _ (by omega)
   ·rw [if_neg h2,show i + 1 - (C.length : Int) = 0 by omega,Int.zero_emod]
    have:=h.eC
    rw [show i.toNat = C.length - 1 by omega]
    exact this
  ·rw [if_neg h1,if_neg (show ¬ i + 1 < C.length by omega)]
   obtain ⟨j,hj,e⟩:=emod_nat (a:=i - C.length) q1
   have e2:=emod_next q1 e
   rw [show i + 1 - (C.length : Int) = i - C.length + 1 by omega,e2,e,Int.toNat_natCast]
   split
   ·rename_i hlt; rw [Int.toNat_natCast]; exact h.sQ j hlt
   ·obtain rfl : j = Q.length - 1:=by omega
    rw [h.eQ]; exact h.eC
end Go.Proofs.YtjiadfblphdchaaGreatDoor
namespace Go.Proofs.YtjiadfblphdchaaGreatDoor
end Go.Proofs.YtjiadfblphdchaaGreatDoor
namespace Go.Proofs.YtjiadfblphdchaaGreatDoor
open Go.RowKit
set_option maxRecDepth 100000
end Go.Proofs.YtjiadfblphdchaaGreatDoor
namespace Go.Proofs.YtjiadfblphdchaaGreatDoor
open Go.RowKit
set_option maxRecDepth 100000
end Go.Proofs.YtjiadfblphdchaaGreatDoor
namespace Go.Proofs.YtjiadfblphdchaaGreatDoor
open Go.RowKit
set_option maxRecDepth 100000
theorem ListsFrom.shape {B : Nat} {w : World} {v : Value} {G : List (List Int)} (h : ListsFrom B w v G) : ∃ a c,v = .slice a G.length c:=h.at.shape
theorem ListsFrom.mono {B B' : Nat} {w : World} {v : Value} {G : List (List Int)} (h : ListsFrom B w v G) (hB : B' ≤ B) : ListsFrom B' w v G:=by
 obtain ⟨vs,h1,h2,h3⟩:=h
 exact ⟨vs,h1.mono hB,h2,fun i hi => (h3 i hi).mono hB⟩
theorem ListsFrom.set3 {B b : Nat} {w : World} {v : Value} {G : List (List Int)} (h : ListsFrom B w v G) (hb : b < B) (x y z : Value) : ListsFrom B (((w.setCell ⟨b,0,none⟩ x).setCell ⟨b,1,none⟩ y).setCell ⟨b,2,none⟩ z) v G :=
 ((h.set (a:=⟨b,0,none⟩) hb x).set (a:=⟨b,1,none⟩) hb y).set (a:=⟨b,2,none⟩) hb z
theorem dm9 (p N : Nat) (hp : p ≤ 100000000) : (p : Int).tdiv (N : Int) = ((p / N : Nat) : Int) ∧ (p : Int).tmod (N : Int) = ((p % N : Nat) : Int) ∧ (p : Int) / (N : Int) = ((p / N : Nat) : Int) ∧ (p : Int) % (N : Int) = ((p % N : Nat) : Int) ∧
 IntKind.i64.wrap ((p / N : Nat) : Int) = ((p / N : Nat) : Int) ∧ IntKind.i64.wrap ((p % N : Nat) : Int) = ((p % N : Nat) : Int):=by
 have h1 : p / N ≤ p:=Nat.div_le_self _ _
 have h2 : p % N ≤ p:=Nat.mod_le _ _
 refine ⟨by rw [Int.tdiv_eq_ediv_of_nonneg (by omega)]; simp,by rw [Int.tmod_eq_emod_of_nonneg (by omega)]; simp,by simp,by simp,?_,?_⟩
 ·generalize p / N = a at *; exact wrapK (by omega) (by omega)
 ·generalize p % N = a at *; exact wrapK (by omega) (by omega)
end Go.Proofs.YtjiadfblphdchaaGreatDoor
namespace Go.Proofs.YtjiadfblphdchaaGreatDoor
open Go.RowKit
set_option maxRecDepth 100000
theorem pw_big {K i : Nat} (h4 : K ≤ 4) (hi : i ≤ 12) : pw K i ≤ 16777216 :=
 Nat.le_trans (Nat.pow_le_pow_left h4 i) (Nat.le_trans (Nat.pow_le_pow_right (by omega) hi) (by decide))
theorem ref_power12 (K n : Nat) (w : World) (_h1 : 1 ≤ K) (h4 : K ≤ 4) (hn : n ≤ 12) :
 Calls Tryz.prog 58 #[.int .i64 K,.int .i64 n] w fun e w' => e = .returned (.int .i64 (pw K n)) ∧ w = w':=by
 go_enter Tryz.func58,Tryz.ntmps58
 go_wp2
 go_loop [5,6] (fun x i => ∃ j : Nat,j ≤ n ∧ i = .int .i64 j ∧ x = .int .i64 (pw K j)) (fun _ i => n - (intOf i).toNat)
 case atStart => exact ⟨0,by omega,rfl,rfl⟩
 case round =>
  obtain ⟨j,hj,rfl,rfl⟩:=hrel
  by_cases hlt : j < n
  ·have hb:=pw_big (i:=j + 1) h4 (by omega)
   have hs : ((pw K (j + 1) : Nat) : Int) = (pw K j : Int) * (K : Int):=by rw [pw_succ]; simp
   have hb1 : 0 ≤ (pw K j : Int) * (K : Int):=by rw [← hs]; omega
   have hb2 : (pw K j : Int) * (K : Int) ≤ 16777216:=by rw [← hs]; omega
   replace hs:=Lib.hid hs
   go_wp2
   go_round
   case rel => exact ⟨j + 1,by omega,by go_num,by rw [hs.out]⟩
   case measure => simp [intOf]; omega
  ·obtain rfl : j = n:=by omega
   go_wp2
   go_ret
   exact ⟨rfl,rfl⟩
theorem ref_value12 (K : Nat) (u : Value) (ys : List Int) (w : World) (hk1 : 1 ≤ K) (hk4 : K ≤ 4) (hu : IntsAt w u ys) (hy : Syms K ys) (hyl : ys.length ≤ 12) :
 Calls Tryz.prog 60 #[.int .i64 K,u] w fun e w' => e = .returned (.int .i64 (numW K ys)) ∧ w = w':=by
 have l1:=hu.len
 replace hu:=Lib.hid hu
 replace hy:=Lib.hid hy
 go_enter Tryz.func60,Tryz.ntmps60
 go_wp2
 go_loop [5,6] (fun n i => ∃ j : Nat,j ≤ ys.length ∧ i = .int .i64 j ∧ n = .int .i64 (numW K (ys.take j))) (fun _ i => ys.length - (intOf i).toNat)
 case atStart => exact ⟨0,by omega,rfl,rfl⟩
 case round =>
  obtain ⟨j,hj,rfl,rfl⟩:=hrel
  by_cases hjl : j < ys.length
  ·have i1:=hu.out.idx j hjl
   have c1:=hu.out.cell j hjl
   have hx:=hy.out ys[j] (by simp)
   have hn : Hid (numW K (ys.take (j + 1)) = numW K (ys.take j) * K + ys[j].toNat):=by
    show _ = _
    rw [take_snoc ys j hjl,numW_snoc]
   have hn2 : numW K (ys.take j) ≤ 16777216:=by
    have h1:=numW_lt (ys.take j) (fun x hx => hy.out x (List.mem_of_mem_take hx))
    have h2:=pw_big hk4 (i:=(ys.take j).length) (by simp; omega)
    omega
   generalize ys[j] = x at c1 hx hn
   generalize numW K (ys.take j) = N at hn hn2
   have hm1 : 0 ≤ (N : Int) * (K : Int):=Int.mul_nonneg (by omega) (by omega)
   have hm2 : (N : Int) * (K : Int) ≤ 67108864:=by
    have : N * K ≤ 67108864:=Nat.mul_le_mul hn2 hk4
    have h2:=Int.ofNat_le.2 this
    rw [Int.natCast_mul] at h2
    exact h2
   go_wp2
   go_round
   case rel => exact ⟨j + 1,by omega,by go_num,by rw [hn.out]; go_num⟩
   case measure => simp [intOf]; omega
  ·obtain rfl : j = ys.length:=by omega
   rw [List.take_length]
   go_wp2
   go_ret
   exact ⟨rfl,rfl⟩
end Go.Proofs.YtjiadfblphdchaaGreatDoor
namespace Go.Proofs.YtjiadfblphdchaaGreatDoor
open Go.RowKit
set_option maxRecDepth 100000
set_option maxHeartbeats 400000 in
theorem ref_digits20 (K N X : Nat) (w : World) (hk1 : 1 ≤ K) (hk4 : K ≤ 4) (hN : N ≤ 12) (hX : X ≤ 1048576) :
 Calls Tryz.prog 59 #[.int .i64 K,.int .i64 N,.int .i64 X] w (Ret1 (fun x w' => OwnI w.heap.size w' x (digs K N X)) w):=by
 have hK0 : ((K : Int) == 0) = false:=by rw [beq_eq_false_iff_ne]; omega
 have hK1 : ¬ (K : Int) = 0:=by omega
 have hK2 : (0 : Int) < K:=by omega
 go_enter Tryz.func59,Tryz.ntmps59
 go_wp2_with (at_make; refine wpl_make rfl _ _ rfl _ rfl rfl (by omega) (by omega) ?_)
 intro wv w1 ho b1
 go_wp2
 go_loopw [2,8] (fun x i wr => ∃ j : Nat,j ≤ N ∧ i = .int .i64 ((N : Int) - 1 - (j : Int)) ∧ x = .int .i64 (X / pw K j : Nat) ∧ OwnI w.heap.size wr wv ((List.replicate N (0 : Int)).take (N - j) ++ (digs K N X).drop (N - j)) ∧ Below w.heap.size w wr) (fun _ i _ => (intOf i + 1).toNat)
 case atStart => exact ⟨0,by omega,by simp,by simp [pw],by rw [Nat.sub_zero,List.drop_of_length_le (by simp [digs_length]),List.append_nil,List.take_of_length_le (by simp)]; exact ho,b1⟩
 case round =>
  obtain ⟨j,hj,rfl,rfl,hO,hbI⟩:=hrel
  obtain ⟨wi,rfl⟩ : ∃ wi : World,wi = wr:=⟨_,rfl⟩
  by_cases hjl : j < N
  ·have hXl : ((List.replicate N (0 : Int)).take (N - j) ++ (digs K N X).drop (N - j)).length = N:=by simp [digs_length]
   have i1 : ∀ w',(Instr.indexAt 22 wv (.int .i64 ((N : Int) - 1 - (j : Int)))).run Tryz.prog w' = .ok (.pointer (some (valAt wv (N - 1 - j)))) w':=by
    intro w'
    have:=hO.at.idxI ((N : Int) - 1 - (j : Int)) (by omega) (by rw [hXl]; omega) w'
    rwa [show ((N : Int) - 1 - (j : Int)).toNat = N - 1 - j by omega] at this
   have c1:=hO.at.cellD (N - 1 - j) (by rw [hXl]; omega)
   have f1:=hO.frz (N - 1 - j) (by rw [hXl]; omega)
   have hS:=hO.set (N - 1 - j) (by rw [hXl]; omega) ((X / pw K j % K : Nat) : Int)
   have hbS:=hO.setBelow hbI (N - 1 - j) (by rw [hXl]; omega) (.int .i64 ((X / pw K j % K : Nat) : Int))
   rw [digs_fill K N X j hjl (List.replicate N (0 : Int)) (by simp)] at hS
   replace hS:=Lib.hid hS
   replace hbS:=Lib.hid hbS
   have hqd : X / pw K j / K = X / pw K (j + 1):=by rw [Nat.div_div_eq_div_mul,← pw_succ]
   replace hqd:=Lib.hid hqd
   have hql : X / pw K j ≤ 1048576:=Nat.le_trans (Nat.div_le_self _ _) (by omega)
   generalize ((List.replicate N (0 : Int)).take (N - j) ++ (digs K N X).drop (N - j)).getD (N - 1 - j) 0 = y at c1
   clear hXl hO
   generalize X / pw K j = q at *
   rw [Int.natCast_emod] at hS hbS
   have hd0 : 0 ≤ (q : Int) / (K : Int):=Int.ediv_nonneg (by omega) (by omega)
   have hd1 : (q : Int) / (K : Int) ≤ 1048576:=by
    have h1 : q / K ≤ q:=Nat.div_le_self _ _
    have h2 : q / K ≤ 1048576:=by omega
    have h3:=Int.ofNat_le.2 h2
    rw [Int.natCast_ediv] at h3
    exact h3
   have hdw : IntKind.i64.wrap ((q : Int) / (K : Int)) = (q : Int) / (K : Int):=wrapK (by omega) (by omega)
   go_wp2
   go_roundw
   case rel => exact ⟨j + 1,by omega,by congr 1; omega,by rw [← hqd.out]; simp,hS.out,hbS.out⟩
   case measure => simp [intOf]; omega
  ·obtain rfl : j = N:=by omega
   rw [Nat.sub_self,List.take_zero,List.drop_zero,List.nil_append] at hO
   replace hO:=Lib.hid hO
   go_wp2
   go_ret
   exact ⟨_,rfl,hbI,hO.out⟩
end Go.Proofs.YtjiadfblphdchaaGreatDoor
namespace Go.Proofs.YtjiadfblphdchaaGreatDoor
open Go.RowKit
set_option maxRecDepth 100000
set_option maxHeartbeats 4000000 in
theorem ref20_check (k R : Int) (va : Option Addr) (vn vc : Nat) (T : List Int) (k' R' : Int) (ua : Option Addr) (un uc : Nat) (T' : List Int) (w : World) (h : IntsAt w (.slice va vn vc) T) (h' : IntsAt w (.slice ua un uc) T') :
 Calls Tryz.prog 28 #[.agg #[.int .i64 k,.int .i64 R,.slice va vn vc],.agg #[.int .i64 k',.int .i64 R',.slice ua un uc]] w (Ret1 (fun x w' => EOwn w.heap.size w' (chkE k R T k' R' T') x) w):=by
 have bA:=Below.step (Below.step (belowAlloc w (.cells #[.int .i64 k,.int .i64 R,.slice va vn vc] 24)) (belowAlloc _ (.cells #[.int .i64 k',.int .i64 R',.slice ua un uc] 24))) (belowAlloc _ (.cells #[.int .i64 0,.slice none 0 0,.slice none 0 0] 37))
 have a : Box3 (((w.alloc (.cells #[.int .i64 k,.int .i64 R,.slice va vn vc] 24)).alloc (.cells #[.int .i64 k',.int .i64 R',.slice ua un uc] 24)).alloc (.cells #[.int .i64 0,.slice none 0 0,.slice none 0 0] 37)) w.heap.size (.int .i64 k) (.int .i64 R) (.slice va vn vc):=by simp [Box3,go_sem]
 have b : Box3 (((w.alloc (.cells #[.int .i64 k,.int .i64 R,.slice va vn vc] 24)).alloc (.cells #[.int .i64 k',.int .i64 R',.slice ua un uc] 24)).alloc (.cells #[.int .i64 0,.slice none 0 0,.slice none 0 0] 37)) (w.heap.size + 1) (.int .i64 k') (.int .i64 R') (.slice ua un uc):=by simp [Box3,go_sem]
 have z : Box3 (((w.alloc (.cells #[.int .i64 k,.int .i64 R,.slice va vn vc] 24)).alloc (.cells #[.int .i64 k',.int .i64 R',.slice ua un uc] 24)).alloc (.cells #[.int .i64 0,.slice none 0 0,.slice none 0 0] 37)) (w.heap.size + 1 + 1) (.int .i64 0) (.slice none 0 0) (.slice none 0 0):=by simp [Box3,go_sem]
 have s0 : (((w.alloc (.cells #[.int .i64 k,.int .i64 R,.slice va vn vc] 24)).alloc (.cells #[.int .i64 k',.int .i64 R',.slice ua un uc] 24)).alloc (.cells #[.int .i64 0,.slice none 0 0,.slice none 0 0] 37)).heap.size = w.heap.size + 3:=by simp
 replace h:=h.below bA
 replace h':=h'.below bA
 obtain ⟨WA,hWA⟩ : ∃ W : World,(((w.alloc (.cells #[.int .i64 k,.int .i64 R,.slice va vn vc] 24)).alloc (.cells #[.int .i64 k',.int .i64 R',.slice ua un uc] 24)).alloc (.cells #[.int .i64 0,.slice none 0 0,.slice none 0 0] 37)) = W:=⟨_,rfl⟩
 rw [hWA] at bA a b z s0 h h'
 replace h:=Lib.hid h
 replace h':=Lib.hid h'
 replace s0:=Lib.hid s0
 replace hWA:=Lib.hid hWA
 go_enter Tryz.func28,Tryz.ntmps28
 obtain ⟨⟨a_0,a_1,a_2⟩,-,-,-⟩:=id a
 go_upto_region 1 with fail
 rw [hWA.out]
 go_wp2_with fail
 refine (ref_check k R va vn vc T WA h.out).mono ?_
 rintro e w1 ⟨x,rfl,b1,he1⟩
 clear a_0 a_1 a_2
 cases hc : checkP k R T with
 | some t =>
  obtain ⟨tn,tl⟩:=t
  have hnum:=checkP_num hc
  simp only at hnum
  obtain ⟨rfl,hnum⟩:=hnum
  rw [hc] at he1
  have hE:=chkE_bad1 (k':=k') (R':=R') (T':=T') hc
  replace hc:=Lib.hid hc
  have he1':=he1.at
  replace he1:=Lib.hid he1
  go_wp2_with fail
  refine (raw_under sInverse 0 (some (1,tl)) _ _ he1' (fun n' l' e => by cases e; omega)).mono ?_
  rintro e w2 ⟨x,rfl,b2,he2⟩
  have he2':=he2
  obtain ⟨a2,l2,m2,p2,q2,o2,rfl,-,-⟩:=he2'
  have al2:=(belowAlloc w2 (.cells #[.int .i64 1,.slice a2 l2 m2,.slice p2 q2 o2] 37))
  have d2:=Below.step b2 al2
  have e : Box3 (w2.alloc (.cells #[.int .i64 1,.slice a2 l2 m2,.slice p2 q2 o2] 37)) w2.heap.size (.int .i64 1) (.slice a2 l2 m2) (.slice p2 q2 o2):=by simp [Box3,go_sem]
  have hn0 : ((1 : Int) != 0) = true:=rfl
  replace he2:=he2.below al2
  replace he1':=Lib.hid he1'
  replace he2:=Lib.hid he2
  replace hE:=Lib.hid hE
  obtain ⟨⟨e_0,e_1,e_2⟩,-,-,-⟩:=id e
  go_wp2_with fail
  refine (err_bad _ _ _ _ _ _ _ _).mono ?_
  rintro e w3 ⟨_,rfl,b3,rfl⟩
  clear e_0 e_1 e_2
  try rw [hn0]
  obtain ⟨⟨e_0,e_1,e_2⟩,-,-,-⟩:=(e.below b3)
  go_wp2_with fail
  refine (err_bad _ _ _ _ _ _ _ _).mono ?_
  rintro e w4 ⟨_,rfl,b4,rfl⟩
  clear e_0 e_1 e_2
  try rw [hn0]
  have c2_4:=Below.step b3 b4
  obtain ⟨⟨e_0,e_1,e_2⟩,-,-,-⟩:=(e.below c2_4)
  have c0_2:=Below.step b1 d2
  have c0_3:=Below.step c0_2 b3
  have c0_4:=Below.step c0_3 b4
  obtain ⟨⟨z_0,z_1,z_2⟩,-,-,-⟩:=(z.below c0_4)
  obtain ⟨-,f0,f1,f2⟩:=(z.below c0_4)
  have hB : w.heap.size + 3 ≤ w1.heap.size:=by rw [← s0.out]; exact b1.size
  have hE9:=((he2.out.below c2_4).set3 (b:=w.heap.size + 1 + 1) (by omega) (.int .i64 1) (.slice a2 l2 m2) (.slice p2 q2 o2)).mono (B':=w.heap.size) (by omega)
  have bE:=below_set3 (Below.step bA c0_4) (show w.heap.size ≤ w.heap.size + 1 + 1 by omega) (.int .i64 1) (.slice a2 l2 m2) (.slice p2 q2 o2)
  replace hE9:=Lib.hid hE9
  go_wp2
  (try simp only [Exit.inBlock,Exit.then])
  exact bodyPost_ret (v:=.agg #[.int .i64 1,.slice a2 l2 m2,.slice p2 q2 o2]) (by simp [results,Tryz.results28,go_sem,z_0,z_1,z_2]) rfl ⟨_,rfl,bE,by rw [hE.out]; exact hE9.out⟩
 | none =>
  rw [hc] at he1
  obtain rfl : x = zErr:=he1
  replace hc:=Lib.hid hc
  go_wp2_with fail
  refine (raw_under sInverse 0 none zErr _ rfl (fun n' l' e => by cases e)).mono ?_
  rintro e w2 ⟨x,rfl,b2,he2⟩
  obtain rfl : x = zErr:=he2
  have al2:=(belowAlloc w2 (.cells #[.int .i64 0,.slice none 0 0,.slice none 0 0] 37))
  have d2:=Below.step b2 al2
  have e : Box3 (w2.alloc (.cells #[.int .i64 0,.slice none 0 0,.slice none 0 0] 37)) w2.heap.size (.int .i64 0) (.slice none 0 0) (.slice none 0 0):=by simp [Box3,go_sem]
  obtain ⟨⟨e_0,e_1,e_2⟩,-,-,-⟩:=id e
  go_wp2_with fail
  refine (err_bad _ _ _ _ _ _ _ _).mono ?_
  rintro e w3 ⟨_,rfl,b3,rfl⟩
  clear e_0 e_1 e_2
  try rw [show ((0 : Int) != 0) = false from rfl]
  have c0_2:=Below.step b1 d2
  have c0_3:=Below.step c0_2 b3
  obtain ⟨⟨b_0,b_1,b_2⟩,-,-,-⟩:=(b.below c0_3)
  go_wp2_with fail
  refine (ref_check k' R' ua un uc T' _ (h'.out.below c0_3)).mono ?_
  rintro e w4 ⟨x,rfl,b4,he4⟩
  clear b_0 b_1 b_2
  cases hc' : checkP k' R' T' with
  | some t =>
   obtain ⟨tn,tl⟩:=t
   have hnum:=checkP_num hc'
   simp only at hnum
   obtain ⟨rfl,hnum⟩:=hnum
   rw [hc'] at he4
   have hE:=chkE_bad2 hc.out hc'
   replace hc':=Lib.hid hc'
   have he4':=he4.at
   replace he4:=Lib.hid he4
   go_wp2_with fail
   refine (raw_under sInverse 1 (some (1,tl)) _ _ he4' (fun n' l' e => by cases e; omega)).mono ?_
   rintro e w5 ⟨x,rfl,b5,he5⟩
   have he5':=he5
   obtain ⟨a2,l2,m2,p2,q2,o2,rfl,-,-⟩:=he5'
   have hn0 : ((1 : Int) != 0) = true:=rfl
   have c2_4:=Below.step b3 b4
   have c2_5:=Below.step c2_4 b5
   have e5:=(e.below c2_5)
   have hlt : w2.heap.size < w4.heap.size:=by
    have:=c2_4.size
    simp at this
    omega
   obtain ⟨W5,hW5⟩ : ∃ W : World,((w5.setCell ⟨w2.heap.size,0,none⟩ (.int .i64 1)).setCell ⟨w2.heap.size,1,none⟩ (.slice a2 l2 m2)).setCell ⟨w2.heap.size,2,none⟩ (.slice p2 q2 o2) = W:=⟨_,rfl⟩
   have s5 : Box3 W5 w2.heap.size (.int .i64 1) (.slice a2 l2 m2) (.slice p2 q2 o2):=by rw [← hW5]; exact e5.st3 _ _ _
   have t5 : EOwn w4.heap.size W5 (under sInverse 1 (some (1,tl))) (.agg #[.int .i64 1,.slice a2 l2 m2,.slice p2 q2 o2]):=by rw [← hW5]; exact he5.set3 hlt _ _ _
   have hw2 : WA.heap.size ≤ w2.heap.size:=(Below.step b1 b2).size
   have c0_4:=Below.step c0_3 b4
   have c0_5:=Below.step c0_4 b5
   have c0_5x : Below WA.heap.size WA W5:=by rw [← hW5]; exact below_set3 c0_5 hw2 _ _ _
   replace hW5:=Lib.hid hW5
   have t5':=Lib.hid t5
   clear t5
   replace he4':=Lib.hid he4'
   replace he5:=Lib.hid he5
   replace hE:=Lib.hid hE
   obtain ⟨⟨e_0,e_1,e_2⟩,ef0,ef1,ef2⟩:=e5
   go_upto_region 4 with fail
   rw [hW5.out]
   clear e_0 e_1 e_2 ef0 ef1 ef2
   obtain ⟨⟨e_0,e_1,e_2⟩,-,-,-⟩:=id s5
   go_wp2_with fail
   refine (err_bad _ _ _ _ _ _ _ _).mono ?_
   rintro e w6 ⟨_,rfl,b6,rfl⟩
   clear e_0 e_1 e_2
   try rw [hn0]
   obtain ⟨⟨e_0,e_1,e_2⟩,-,-,-⟩:=s5.below b6
   have c:=Below.step c0_5x b6
   obtain ⟨⟨z_0,z_1,z_2⟩,f0,f1,f2⟩:=z.below c
   have hB : w.heap.size + 3 ≤ w4.heap.size:=by rw [← s0.out]; exact c0_4.size
   have hE9:=((t5'.out.below b6).set3 (b:=w.heap.size + 1 + 1) (by omega) (.int .i64 1) (.slice a2 l2 m2) (.slice p2 q2 o2)).mono (B':=w.heap.size) (by omega)
   have bE:=below_set3 (Below.step bA c) (show w.heap.size ≤ w.heap.size + 1 + 1 by omega) (.int .i64 1) (.slice a2 l2 m2) (.slice p2 q2 o2)
   replace hE9:=Lib.hid hE9
   go_wp2
   (try simp only [Exit.inBlock,Exit.then])
   exact bodyPost_ret (v:=.agg #[.int .i64 1,.slice a2 l2 m2,.slice p2 q2 o2]) (by simp [results,Tryz.results28,go_sem,z_0,z_1,z_2]) rfl ⟨_,rfl,bE,by rw [hE.out]; exact hE9.out⟩
  | none =>
   rw [hc'] at he4
   obtain rfl : x = zErr:=he4
   go_wp2_with fail
   refine (raw_under sInverse 1 none zErr _ rfl (fun n' l' e => by cases e)).mono ?_
   rintro e w5 ⟨x,rfl,b5,he5⟩
   obtain rfl : x = zErr:=he5
   have c2_4:=Below.step b3 b4
   have c2_5:=Below.step c2_4 b5
   obtain ⟨⟨e_0,e_1,e_2⟩,ef0,ef1,ef2⟩:=(e.below c2_5)
   have hself:=setCell_self3 e_0 e_1 e_2
   replace hself:=Lib.hid hself
   obtain ⟨K,Q,rfl,rfl,hr⟩:=checkP_none hc.out
   obtain ⟨K',Q',rfl,rfl,hr'⟩:=checkP_none hc'
   have hQ3:=hr.r3
   have hQ3':=hr'.r3
   have hk1:=hr.k1
   have hk4:=hr.k4
   have hE:=chkE_ok hr hr'
   replace hc':=Lib.hid hc'
   replace hr:=Lib.hid hr
   replace hr':=Lib.hid hr'
   go_upto_region 4 with fail
   rw [hself.out]
   clear ef0 ef1 ef2
   go_wp2_with fail
   refine (err_bad _ _ _ _ _ _ _ _).mono ?_
   rintro e w6 ⟨_,rfl,b6,rfl⟩
   clear e_0 e_1 e_2
   rw [show ((0 : Int) != 0) = false from rfl]
   have c0_4:=Below.step c0_3 b4
   have c0_5:=Below.step c0_4 b5
   have c0_6:=Below.step c0_5 b6
   obtain ⟨⟨a_0,a_1,a_2⟩,-,-,-⟩:=(a.below c0_6)
   obtain ⟨⟨b_0,b_1,b_2⟩,-,-,-⟩:=(b.below c0_6)
   by_cases hk : K = K'
   case neg =>
    have hkb : ((K : Int) != (K' : Int)) = true:=by rw [bne_iff_ne]; omega
    rw [if_pos hk] at hE
    replace hE:=Lib.hid hE
    go_wp2_with fail
    refine (raw_new sInverse 1 3 _).mono ?_
    rintro e w7 ⟨x,rfl,b7,he⟩
    clear a_0 a_1 a_2 b_0 b_1 b_2
    obtain ⟨nn,na,nl,nm,np,nq,no,rfl⟩:=he.shape
    have c0_7:=Below.step c0_6 b7
    obtain ⟨⟨z_0,z_1,z_2⟩,f0,f1,f2⟩:=(z.below c0_7)
    have hB : w.heap.size + 3 ≤ w6.heap.size:=by rw [← s0.out]; exact c0_6.size
    have hE9:=(he.set3 (b:=w.heap.size + 1 + 1) (by omega) (.int .i64 nn) (.slice na nl nm) (.slice np nq no)).mono (B':=w.heap.size) (by omega)
    have bE:=below_set3 (Below.step bA c0_7) (show w.heap.size ≤ w.heap.size + 1 + 1 by omega) (.int .i64 nn) (.slice na nl nm) (.slice np nq no)
    replace hE9:=Lib.hid hE9
    replace he:=Lib.hid he
    go_wp2
    (try simp only [Exit.inBlock,Exit.then])
    exact bodyPost_ret (v:=.agg #[.int .i64 nn,.slice na nl nm,.slice np nq no]) (by simp [results,Tryz.results28,go_sem,z_0,z_1,z_2]) rfl ⟨_,rfl,bE,by rw [hE.out]; exact hE9.out⟩
   subst hk
   have hkb : ((K : Int) != (K : Int)) = false:=by simp
   rw [if_neg (by simp)] at hE
   obtain ⟨n,hn⟩ : ∃ n,2 * (Q + Q') + 1 = n:=⟨_,rfl⟩
   have hn1 : (2 : Int) * ((Q : Int) + (Q' : Int)) + 1 = (n : Int):=by omega
   have hnb : n ≤ 13:=by omega
   by_cases hq : 4 < Q + Q'
   ·have hqb : decide ((4 : Int) < (Q : Int) + (Q' : Int)) = true:=decide_eq_true (by omega)
    rw [if_pos hq] at hE
    replace hE:=Lib.hid hE
    replace hn:=Lib.hid hn
    go_wp2_with fail
    refine (raw_new sInverse 0 4 _).mono ?_
    rintro e w7 ⟨x,rfl,b7,he⟩
    clear a_0 a_1 a_2 b_0 b_1 b_2
    obtain ⟨nn,na,nl,nm,np,nq,no,rfl⟩:=he.shape
    have c0_7:=Below.step c0_6 b7
    obtain ⟨⟨z_0,z_1,z_2⟩,f0,f1,f2⟩:=(z.below c0_7)
    have hB : w.heap.size + 3 ≤ w6.heap.size:=by rw [← s0.out]; exact c0_6.size
    have hE9:=(he.set3 (b:=w.heap.size + 1 + 1) (by omega) (.int .i64 nn) (.slice na nl nm) (.slice np nq no)).mono (B':=w.heap.size) (by omega)
    have bE:=below_set3 (Below.step bA c0_7) (show w.heap.size ≤ w.heap.size + 1 + 1 by omega) (.int .i64 nn) (.slice na nl nm) (.slice np nq no)
    replace hE9:=Lib.hid hE9
    replace he:=Lib.hid he
    go_wp2
    (try simp only [Exit.inBlock,Exit.then])
    exact bodyPost_ret (v:=.agg #[.int .i64 nn,.slice na nl nm,.slice np nq no]) (by simp [results,Tryz.results28,go_sem,z_0,z_1,z_2]) rfl ⟨_,rfl,bE,by rw [hE.out]; exact hE9.out⟩
   ·have hqb : decide ((4 : Int) < (Q : Int) + (Q' : Int)) = false:=decide_eq_false (by omega)
    rw [if_neg hq] at hE
    have hNb : pw K n ≤ 262144:=pw9 hk4 (by omega)
    have hpow:=fun (W : World) => ref_power12 K n W hk1 hk4 (by omega)
    obtain ⟨N,hN⟩ : ∃ P,pw K n = P:=⟨_,rfl⟩
    rw [hN] at hNb
    simp only [hN] at hpow
    have dN : decide ((262144 : Int) < (N : Int)) = false:=decide_eq_false (by omega)
    replace hn:=Lib.hid hn
    replace hN:=Lib.hid hN
    replace hpow:=Lib.hid hpow
    replace hE:=Lib.hid hE
    go_wp2_with fail
    refine (hpow.out _).mono ?_
    rintro e _ ⟨rfl,rfl⟩
    go_wp2_with fail
    clear a_0 a_1 a_2 b_0 b_1 b_2
    go_loopw [7] (fun iv wr => ∃ i : Nat,i ≤ N ∧ iv = .int .i64 i ∧ (∀ k,k < i → badB K Q T Q' T' k = false) ∧ Below w6.heap.size w6 wr) (fun iv _ => N - (intOf iv).toNat)
    case atStart => exact ⟨0,Nat.zero_le _,rfl,fun k hk => absurd hk (Nat.not_lt_zero _),Below.refl _ _⟩
    case round =>
     obtain ⟨i,hi,rfl,hbad,hB⟩:=hrel
     obtain ⟨wo,rfl⟩ : ∃ wo : World,wo = wr:=⟨_,rfl⟩
     have c0_7:=Below.step c0_6 hB
     obtain ⟨⟨a_0,a_1,a_2⟩,-,-,-⟩:=(a.below c0_7)
     replace hbad:=Lib.hid hbad
     go_wp2_with fail
     refine (hpow.out _).mono ?_
     rintro e _ ⟨rfl,rfl⟩
     by_cases hiN : i < N
     ·have di : decide ((i : Int) < (N : Int)) = true:=decide_eq_true (by omega)
      go_wp2_with fail
      refine (ref_digits20 K n i _ hk1 hk4 (by omega) (by omega)).mono ?_
      rintro e w8 ⟨x,rfl,b8,hd⟩
      clear a_0 a_1 a_2
      obtain ⟨da,dn,dc,rfl⟩:=hd.at.shape
      obtain ⟨D,hD⟩ : ∃ D,digs K n i = D:=⟨_,rfl⟩
      have hDs : Syms K D:=by rw [← hD]; exact digs_syms hk1 _ _
      have hDl : D.length = n:=by rw [← hD]; exact digs_length _ _ _
      have hbi : badB K Q T Q' T' i = (T'.getD (numW K (imgP K Q T D)) 0 != D.getD (Q + Q') 0):=by unfold badB; rw [hn.out,hD]
      rw [hD] at hd
      have hIs : Syms K (imgP K Q T D):=imgP_syms hk1 hr.out.syms
      have hIl : (imgP K Q T D).length = 2 * Q' + 1:=by rw [imgP_length,hDl,← hn.out]; omega
      have hil:=numW_lt _ hIs
      rw [hIl,← hr'.out.len] at hil
      have c0_8:=Below.step c0_7 b8
      have hTo':=h'.out.below c0_8
      have hTo:=h.out.below c0_8
      have hdl : Q + Q' < D.length:=by rw [hDl,← hn.out]; omega
      have iD : ∀ w',(Instr.indexAt 22 (.slice da dn dc) (.int .i64 ((Q : Int) + (Q' : Int)))).run Tryz.prog w' = .ok (.pointer (some (valAt (.slice da dn dc) (Q + Q')))) w':=fun w' => hd.at.idx (Q + Q') hdl w'
      have cD:=hd.at.cellD (Q + Q') hdl
      obtain ⟨I,hI⟩ : ∃ I,imgP K Q T D = I:=⟨_,rfl⟩
      rw [hI] at hbi hIs hIl hil
      obtain ⟨im,him⟩ : ∃ q,numW K I = q:=⟨_,rfl⟩
      rw [him] at hbi hil
      have iS:=fun w' => hTo'.idx im hil w'
      have cS:=hTo'.cellD im hil
      obtain ⟨y,hy⟩ : ∃ y,T'.getD im 0 = y:=⟨_,rfl⟩
      obtain ⟨s,hs⟩ : ∃ y,D.getD (Q + Q') 0 = y:=⟨_,rfl⟩
      rw [hy] at hbi cS
      rw [hs] at hbi cD
      obtain ⟨pd,hpd⟩ : ∃ p,valAt (.slice da dn dc) (Q + Q') = p:=⟨_,rfl⟩
      obtain ⟨ps,hps⟩ : ∃ p,valAt (.slice ua un uc) im = p:=⟨_,rfl⟩
      rw [hpd] at iD cD
      rw [hps] at iS cS
      have k1:=wrapK (x:=(Q : Int) + (Q' : Int)) (by omega) (by omega)
      have hS : ∀ w',Below w8.heap.size w8 w' → w'.cell? ⟨w.heap.size,0,none⟩ = some (.int .i64 K) ∧ w'.cell? ⟨w.heap.size,1,none⟩ = some (.int .i64 Q) ∧ w'.cell? ⟨w.heap.size,2,none⟩ = some (.slice va vn vc) ∧ w'.cell? ⟨w.heap.size + 1,1,none⟩ = some (.int .i64 Q') ∧ w'.cell? ⟨w.heap.size + 1,2,none⟩ = some (.slice ua un uc) ∧ w'.cell? pd = some (.int .i64 s) ∧ w'.cell? ps = some (.int .i64 y):=fun w' hb => ⟨((a.below c0_8).below hb).1.1,((a.below c0_8).below hb).1.2.1,((a.below c0_8).below hb).1.2.2,((b.below c0_8).below hb).1.2.1,((b.below c0_8).below hb).1.2.2,(hb.cell (World.block_lt_of_cell? _ _ cD)).trans cD,(hb.cell (World.block_lt_of_cell? _ _ cS)).trans cS⟩
      obtain ⟨W,hW⟩ : ∃ W : World,w8.drew = W:=⟨_,rfl⟩
      have bW : Below w8.heap.size w8 W:=by rw [← hW]; exact (Below.refl _ _).drew
      have hS1:=hS W bW
      have himg:=ref_image K Q va vn vc T (.slice da dn dc) D W (hTo.below bW) hr.out (hd.at.below bW) hDs (by omega)
      rw [hI] at himg
      replace hD:=Lib.hid hD
      replace hDs:=Lib.hid hDs
      replace hDl:=Lib.hid hDl
      replace hIs:=Lib.hid hIs
      replace hIl:=Lib.hid hIl
      replace hI:=Lib.hid hI
      replace him:=Lib.hid him
      replace hy:=Lib.hid hy
      replace hs:=Lib.hid hs
      replace hpd:=Lib.hid hpd
      replace hps:=Lib.hid hps
      replace hS:=Lib.hid hS
      replace hW:=Lib.hid hW
      replace hTo:=Lib.hid hTo
      replace hTo':=Lib.hid hTo'
      replace hd:=Lib.hid hd
      replace himg:=Lib.hid himg
      replace hil:=Lib.hid hil
      replace hdl:=Lib.hid hdl
      clear cD cS
      go_upto_region 15 with fail
      refine wp_region_plan (fun w' => w'.cell? ⟨w.heap.size,0,none⟩ = some (.int .i64 K) ∧ w'.cell? ⟨w.heap.size,1,none⟩ = some (.int .i64 Q) ∧ w'.cell? ⟨w.heap.size,2,none⟩ = some (.slice va vn vc) ∧ w'.cell? ⟨w.heap.size + 1,1,none⟩ = some (.int .i64 Q') ∧ w'.cell? ⟨w.heap.size + 1,2,none⟩ = some (.slice ua un uc) ∧ w'.cell? pd = some (.int .i64 s) ∧ w'.cell? ps = some (.int .i64 y)) 18 [(0,true),(1,true),(2,true),(3,true),(4,true),(5,true),(10,true),(11,true),(12,true),(13,true),(14,true),(15,true),(16,true),(17,true),(6,false),(7,false),(8,true),(9,true)] (by kernel_rfl) (by kernel_rfl) ?_
      rw [hW.out]
      refine pqY 61 hS1 ?_
      refine pqY 62 hS1 ?_
      refine pqY 63 hS1 ?_
      refine pqY 64 hS1 ?_
      refine pqY 65 hS1 ?_
      refine pqY 66 hS1 ?_
      refine pqY 71 hS1 ?_
      refine pqY 72 hS1 ?_
      refine pqY 73 hS1 ?_
      refine pqY 74 hS1 ?_
      refine pqY 75 hS1 ?_
      refine pqY 76 hS1 ?_
      refine pqY 77 hS1 ?_
      refine pqY 78 hS1 ?_
      refine headC rfl (fun KK hK => ?_)
      go_simp
      refine himg.out.mono ?_
      rintro e w2' ⟨x,rfl,c2,hz⟩
      have bW2:=Below.step bW c2
      have hS2:=hS.out w2' bW2
      refine hK _ _ hS2 ?_
      clear hK KK hS1
      refine headC rfl (fun KK hK => ?_)
      go_simp
      refine (ref_value12 K _ I w2' hk1 hk4 hz.at hIs.out (by have:=hIl.out; omega)).mono ?_
      rintro e _ ⟨rfl,rfl⟩
      rw [him.out]
      replace hz:=Lib.hid hz
      refine hK _ _ hS2 ?_
      clear hK KK
      refine pqY 69 hS2 ?_
      refine pqY 70 hS2 ?_
      refine head0 ?_
      simp only [List.drop_succ_cons,List.drop_zero]
      have c6_8:=Below.step hB b8
      have cW : Below w6.heap.size w6 w2':=by have:=c6_8; exact Below.step this bW2
      have c0W : Below WA.heap.size WA w2':=Below.step c0_8 bW2
      by_cases e : y = s
      ·have dy : (y != s) = false:=by rw [e]; simp
       rw [dy] at hbi
       have hbad2 : ∀ k,k < i + 1 → badB K Q T Q' T' k = false:=fun k hk => by
        by_cases ek : k = i
        ·subst ek; exact hbi
        ·exact hbad.out k (by omega)
       replace hbi:=Lib.hid hbi
       replace hbad2:=Lib.hid hbad2
       replace e:=Lib.hid e
       clear hS2
       go_wp2
       refine NoPanic.normal ?_
       go_wp2
       go_roundw
       case measure => simp [intOf]; omega
       case rel => exact ⟨i + 1,by omega,by go_num,hbad2.out,cW⟩
      ·have dy : (y != s) = true:=by rw [bne_iff_ne]; exact e
       rw [dy] at hbi
       have hE2:=hE.out
       rw [back_first (n:=N) (by rw [hn.out,hN.out]) hiN hbi hbad.out,if_pos (by omega)] at hE2
       clear hE
       have hE:=Lib.hid hE2
       clear hE2
       replace hbi:=Lib.hid hbi
       replace e:=Lib.hid e
       clear hS2
       go_wp2
       refine NoPanic.normal ?_
       go_wp2_with fail
       refine (raw_new sInverse (i : Int) 9 _).mono ?_
       rintro e w21 ⟨x,rfl,b21,he⟩
       obtain ⟨nn,na,nl,nm,np,nq,no,rfl⟩:=he.shape
       have c0_21:=Below.step c0W b21
       obtain ⟨⟨z_0,z_1,z_2⟩,f0,f1,f2⟩:=(z.below c0_21)
       have hB : w.heap.size + 3 ≤ w2'.heap.size:=by rw [← s0.out]; exact c0W.size
       have hE9:=(he.set3 (b:=w.heap.size + 1 + 1) (by omega) (.int .i64 nn) (.slice na nl nm) (.slice np nq no)).mono (B':=w.heap.size) (by omega)
       have bE:=below_set3 (Below.step bA c0_21) (show w.heap.size ≤ w.heap.size + 1 + 1 by omega) (.int .i64 nn) (.slice na nl nm) (.slice np nq no)
       replace hE9:=Lib.hid hE9
       replace he:=Lib.hid he
       go_wp2
       (try simp only [Exit.inBlock,Exit.then])
       exact bodyPost_ret (v:=.agg #[.int .i64 nn,.slice na nl nm,.slice np nq no]) (by simp [results,Tryz.results28,go_sem,z_0,z_1,z_2]) rfl ⟨_,rfl,bE,by rw [hE.out]; exact hE9.out⟩
     ·obtain rfl : N = i:=by omega
      have di : decide ((N : Int) < (N : Int)) = false:=decide_eq_false (by omega)
      have hE2:=hE.out
      rw [back_none (fun k hk => hbad.out k (by rw [hn.out,hN.out] at hk; exact hk)),if_neg (by decide)] at hE2
      clear hE
      have hE:=Lib.hid hE2
      clear hE2
      obtain ⟨⟨z_0,z_1,z_2⟩,f0,f1,f2⟩:=(z.below c0_7)
      have bE:=below_set3 (Below.step bA c0_7) (show w.heap.size ≤ w.heap.size + 1 + 1 by omega) (.int .i64 0) (.slice none 0 0) (.slice none 0 0)
      clear a_0 a_1 a_2
      go_wp2
      (try simp only [Exit.inBlock,Exit.then])
      exact bodyPost_ret (v:=zErr) (by simp [results,Tryz.results28,go_sem,z_0,z_1,z_2]) rfl ⟨_,rfl,bE,by rw [hE.out]; exact rfl⟩
end Go.Proofs.YtjiadfblphdchaaGreatDoor
namespace Go.Proofs.YtjiadfblphdchaaGreatDoor
open Go.RowKit
set_option maxRecDepth 100000
theorem chkE_fine (k R : Int) (T : List Int) (k' R' : Int) (T' : List Int) : (chkE k R T k' R' T').Fine:=by
 unfold chkE
 split
 ·rename_i t ht
  have h:=checkP_num ht
  obtain ⟨n,l⟩:=t
  simp only at h
  refine ⟨by simp only; omega,by simp only; omega,?_⟩
  show ((sInverse,(0 : Int)) :: l).length ≤ 1000
  simp only [List.length_cons]
  omega
 ·split
  ·rename_i t ht
   have h:=checkP_num ht
   obtain ⟨n,l⟩:=t
   simp only at h
   refine ⟨by simp only; omega,by simp only; omega,?_⟩
   show ((sInverse,(1 : Int)) :: l).length ≤ 1000
   simp only [List.length_cons]
   omega
  ·split
   ·exact ⟨by decide,by decide,by decide⟩
   ·split
    ·exact ⟨by decide,by decide,by decide⟩
    ·split
     ·exact ⟨by decide,by decide,by simp⟩
     ·trivial
set_option maxHeartbeats 4000000 in
theorem inverseChecks_any (r : Nat → Addr) (k R : Int) (v : Value) (T : List Int) (k' R' : Int) (v' : Value) (T' : List Int) (w : World) (hg : Glob r w) (hG : GlobE w) (h : IntsAt w v T) (h' : IntsAt w v' T') (lT : T.length ≤ 17592186043904) (lT' : T'.length ≤ 17592186043904) :
 Calls Tryz.prog 5 #[.agg #[.int .i64 k,.int .i64 R,v],.agg #[.int .i64 k',.int .i64 R',v']] w (Ret1 (fun x _ => x = .bool true) w):=by
 obtain ⟨va,vn,vc,rfl⟩:=h.shape
 obtain ⟨ua,un,uc,rfl⟩:=h'.shape
 have b0:=Below.step (belowAlloc w (.cells #[.int .i64 k,.int .i64 R,.slice va vn vc] 24)) (belowAlloc _ (.cells #[.int .i64 k',.int .i64 R',.slice ua un uc] 24))
 have a : Box3 ((w.alloc (.cells #[.int .i64 k,.int .i64 R,.slice va vn vc] 24)).alloc (.cells #[.int .i64 k',.int .i64 R',.slice ua un uc] 24)) w.heap.size (.int .i64 k) (.int .i64 R) (.slice va vn vc):=by simp [Box3,go_sem]
 have b : Box3 ((w.alloc (.cells #[.int .i64 k,.int .i64 R,.slice va vn vc] 24)).alloc (.cells #[.int .i64 k',.int .i64 R',.slice ua un uc] 24)) (w.heap.size + 1) (.int .i64 k') (.int .i64 R') (.slice ua un uc):=by simp [Box3,go_sem]
 replace hg:=Lib.hid (hg.below b0)
 replace hG:=Lib.hid (hG.below b0)
 replace h:=Lib.hid (h.below b0)
 replace h':=Lib.hid (h'.below b0)
 have hfine:=Lib.hid (chkE_fine k R T k' R' T')
 replace lT:=Lib.hid lT
 replace lT':=Lib.hid lT'
 go_enter Tryz.func5,Tryz.ntmps5
 go_wp2_with fail
 refine (awake20 r _ hg.out hG.out).mono ?_
 rintro e w1 ⟨_,rfl,b1,rfl⟩
 obtain ⟨⟨a_0,a_1,a_2⟩,-,-,-⟩:=(a.below b1)
 go_wp2_with fail
 refine (lentRule_any k R va vn vc T _ (h.out.below b1) (by have:=lT.out; omega)).mono ?_
 rintro e w2 ⟨_,rfl,b2,ma,mn,mc,rfl,hm⟩
 clear a_0 a_1 a_2
 have al2:=(belowAlloc w2 (.cells #[.int .i64 k,.int .i64 R,.slice ma mn mc] 24))
 have d2:=Below.step b2 al2
 have x : Box3 (w2.alloc (.cells #[.int .i64 k,.int .i64 R,.slice ma mn mc] 24)) w2.heap.size (.int .i64 k) (.int .i64 R) (.slice ma mn mc):=by simp [Box3,go_sem]
 replace hm:=hm.below al2
 replace hm:=Lib.hid hm
 have c0_2:=Below.step b1 d2
 obtain ⟨⟨b_0,b_1,b_2⟩,-,-,-⟩:=(b.below c0_2)
 go_wp2_with fail
 refine (lentRule_any k' R' ua un uc T' _ (h'.out.below c0_2) (by have:=lT'.out; omega)).mono ?_
 rintro e w3 ⟨_,rfl,b3,ka,kn,kc,rfl,hk⟩
 clear b_0 b_1 b_2
 have al3:=(belowAlloc w3 (.cells #[.int .i64 k',.int .i64 R',.slice ka kn kc] 24))
 have d3:=Below.step b3 al3
 have y : Box3 (w3.alloc (.cells #[.int .i64 k',.int .i64 R',.slice ka kn kc] 24)) w3.heap.size (.int .i64 k') (.int .i64 R') (.slice ka kn kc):=by simp [Box3,go_sem]
 replace hk:=hk.below al3
 obtain ⟨W3,hW3⟩ : ∃ W : World,(w3.alloc (.cells #[.int .i64 k',.int .i64 R',.slice ka kn kc] 24)) = W:=⟨_,rfl⟩
 have c0_3:=Below.step c0_2 d3
 rw [hW3] at y hk c0_3 d3
 replace hW3:=Lib.hid hW3
 obtain ⟨W,hW⟩ : ∃ W : World,W3.drew = W:=⟨_,rfl⟩
 have bW : Below W3.heap.size W3 W:=by rw [← hW]; exact (Below.refl _ _).drew
 have hS : ∀ w',Below W3.heap.size W3 w' → w'.cell? ⟨w2.heap.size,0,none⟩ = some (.int .i64 k) ∧ w'.cell? ⟨w2.heap.size,1,none⟩ = some (.int .i64 R) ∧ w'.cell? ⟨w2.heap.size,2,none⟩ = some (.slice ma mn mc) ∧ w'.cell? ⟨w3.heap.size,0,none⟩ = some (.int .i64 k') ∧ w'.cell? ⟨w3.heap.size,1,none⟩ = some (.int .i64 R') ∧ w'.cell? ⟨w3.heap.size,2,none⟩ = some (.slice ka kn kc) ∧ w'.cell? ⟨w.heap.size,0,none⟩ = some (.int .i64 k) ∧ w'.cell? ⟨w.heap.size,1,none⟩ = some (.int .i64 R) ∧ w'.cell? ⟨w.heap.size,2,none⟩ = some (.slice va vn vc) ∧ w'.cell? ⟨w.heap.size + 1,0,none⟩ = some (.int .i64 k') ∧ w'.cell? ⟨w.heap.size + 1,1,none⟩ = some (.int .i64 R') ∧ w'.cell? ⟨w.heap.size + 1,2,none⟩ = some (.slice ua un uc):=fun w' hb => by
  obtain ⟨⟨x0,x1,x2⟩,-,-,-⟩:=(x.below d3).below hb
  obtain ⟨⟨y0,y1,y2⟩,-,-,-⟩:=y.below hb
  obtain ⟨⟨a0,a1,a2⟩,-,-,-⟩:=(a.below c0_3).below hb
  obtain ⟨⟨b0,b1,b2⟩,-,-,-⟩:=(b.below c0_3).below hb
  exact ⟨x0,x1,x2,y0,y1,y2,a0,a1,a2,b0,b1,b2⟩
 have hm3:=hm.out.below d3
 have h3:=h.out.below c0_3
 have h3':=h'.out.below c0_3
 have hg3:=hg.out.below c0_3
 have hG3:=hG.out.below c0_3
 have c0:=Below.step b0 c0_3
 have hS1:=hS W bW
 replace hS:=Lib.hid hS
 replace hW:=Lib.hid hW
 replace hk:=Lib.hid hk
 replace hm3:=Lib.hid hm3
 replace h3:=Lib.hid h3
 replace h3':=Lib.hid h3'
 replace hg3:=Lib.hid hg3
 replace hG3:=Lib.hid hG3
 go_upto_region 5 with fail
 rw [hW3.out]
 refine wp_region_plan (fun w' => w'.cell? ⟨w2.heap.size,0,none⟩ = some (.int .i64 k) ∧ w'.cell? ⟨w2.heap.size,1,none⟩ = some (.int .i64 R) ∧ w'.cell? ⟨w2.heap.size,2,none⟩ = some (.slice ma mn mc) ∧ w'.cell? ⟨w3.heap.size,0,none⟩ = some (.int .i64 k') ∧ w'.cell? ⟨w3.heap.size,1,none⟩ = some (.int .i64 R') ∧ w'.cell? ⟨w3.heap.size,2,none⟩ = some (.slice ka kn kc) ∧ w'.cell? ⟨w.heap.size,0,none⟩ = some (.int .i64 k) ∧ w'.cell? ⟨w.heap.size,1,none⟩ = some (.int .i64 R) ∧ w'.cell? ⟨w.heap.size,2,none⟩ = some (.slice va vn vc) ∧ w'.cell? ⟨w.heap.size + 1,0,none⟩ = some (.int .i64 k') ∧ w'.cell? ⟨w.heap.size + 1,1,none⟩ = some (.int .i64 R') ∧ w'.cell? ⟨w.heap.size + 1,2,none⟩ = some (.slice ua un uc)) 17 [(0,true),(1,true),(3,true),(4,true),(2,false),(5,false),(6,false),(7,true),(8,true),(9,true),(10,false),(11,true),(12,true),(13,true),(14,true),(15,false),(16,true)] (by kernel_rfl) (by kernel_rfl) ?_
 rw [hW.out]
 refine pqY 13 hS1 ?_
 refine pqY 14 hS1 ?_
 refine pqY 16 hS1 ?_
 refine pqY 17 hS1 ?_
 refine headC rfl (fun KK hK => ?_)
 go_simp
 refine (inv_check r k R ma mn mc T k' R' ka kn kc T' W (hg3.out.below bW) (hm3.out.at.below bW) (hk.out.at.below bW)).mono ?_
 rintro e w4 ⟨ev,rfl,b4,he⟩
 have c4:=Below.step bW b4
 have hS4:=hS.out w4 c4
 replace he:=Lib.hid he
 refine hK _ _ hS4 ?_
 clear hK KK hS1
 refine headC rfl (fun KK hK => ?_)
 go_simp
 refine (ref20_check k R va vn vc T k' R' ua un uc T' w4 (h3.out.below c4) (h3'.out.below c4)).mono ?_
 rintro e w5 ⟨fv,rfl,b5,hf⟩
 have c5:=Below.step c4 b5
 have hS5:=hS.out w5 c5
 have he5:=he.out.below b5
 obtain ⟨fn,f1,f2,f3,f4,f5,f6,rfl⟩:=hf.shape
 replace hf:=Lib.hid hf
 replace he5:=Lib.hid he5
 refine hK _ _ hS5 ?_
 clear hK KK hS4
 refine headC rfl (fun KK hK => ?_)
 go_simp
 refine (raw_is r (chkE k R T k' R' T') ev _ w5 (hg3.out.below c5) (hG3.out.below c5) he5.out hf.out.at hfine.out).mono ?_
 rintro e w6 ⟨_,rfl,b6,rfl⟩
 have c6:=Below.step c5 b6
 have hS6:=hS.out w6 c6
 refine hK _ _ hS6 ?_
 clear hK KK hS5
 refine pqY 20 hS6 ?_
 refine pqY 21 hS6 ?_
 refine pqY 22 hS6 ?_
 refine headC rfl (fun KK hK => ?_)
 go_simp
 refine (keptRule_any _ k R ma mn mc va vn vc T w6 (hm3.out.below c6) (h3.out.below c6) (by have:=lT.out; omega)).mono ?_
 rintro e w7 ⟨_,rfl,b7,rfl⟩
 have c7:=Below.step c6 b7
 have hS7:=hS.out w7 c7
 refine hK _ _ hS7 ?_
 clear hK KK hS6
 refine pqY 24 hS7 ?_
 refine pqY 25 hS7 ?_
 refine pqY 26 hS7 ?_
 refine pqY 27 hS7 ?_
 refine headC rfl (fun KK hK => ?_)
 go_simp
 refine (keptRule_any _ k' R' ka kn kc ua un uc T' w7 (hk.out.below c7) (h3'.out.below c7) (by have:=lT'.out; omega)).mono ?_
 rintro e w8 ⟨_,rfl,b8,rfl⟩
 have c8:=Below.step c7 b8
 have hS8:=hS.out w8 c8
 refine hK _ _ hS8 ?_
 clear hK KK hS7
 refine pqY 29 hS8 ?_
 refine head0 ?_
 simp only [List.drop_succ_cons,List.drop_zero]
 have bE:=Below.step c0 c8
 clear hS8
 go_wp2
 refine NoPanic.normal ?_
 go_wp2
 go_ret
 exact ⟨_,rfl,bE,rfl⟩
end Go.Proofs.YtjiadfblphdchaaGreatDoor
namespace Go.Proofs.YtjiadfblphdchaaGreatDoor
open Go.ChangeShapes Go.WideShapes Go.ChangeAt Go.RowKit Go.Joins
namespace InverseChecksP
set_option maxRecDepth 100000 in
theorem door_met (os : Os) (args : Array Value) : laidMetH Tryz.prog Rows.inverseChecksRow.laid ((doorP os).forCall (fun _ _ => 0) ⟨#[],args,[]⟩).memory :=
 laidMetH_of_parts3 (fuel:=8) (laidMet_of_run' 8 (by kernel_rfl) (by kernel_rfl)) (by kernel_rfl) (by kernel_rfl)
set_option maxRecDepth 100000 in
theorem lifted (os : Os) (started : os.Started) (H : Type) (enc : TypeId × Value → H) :
 ReturnsInHanded {} Tryz.checked os 5 .any (fun w args => (Rows.inverseChecksSpec.pre enc Tryz.prog Tryz.f5 [] false w args ∧ laidMetH Tryz.prog Rows.inverseChecksRow.laid w) ∧ sizedMet enc Tryz.prog Tryz.f5 (OpenSpec.ofChange Rows.inverseChecksSpec) false w args)
  (Rows.inverseChecksSpec.post enc Tryz.prog Tryz.f5 false true false false):=by
 refine returnsInHanded_of_change_and (C:=Tryz.checked) (X:=fun w _ => laidMetH Tryz.prog Rows.inverseChecksRow.laid w) (fun _ _ _ hh h => h.of_heap hh) own started (by kernel_rfl) Tryz.func5
  (ChangeSpec.witness_shaped (enc:=enc) (C:=Tryz.checked) (os:=os) (X:=fun w _ => laidMetH Tryz.prog Rows.inverseChecksRow.laid w) false (doorP os) #[.agg #[.int .i64 0,.int .i64 0,.slice none 0 0],.agg #[.int .i64 0,.int .i64 0,.slice none 0 0]] 8 (doorP_os _) (World.shaped_of_RefB (by kernel_rfl) (by kernel_rfl)) (by kernel_rfl) (by kernel_rfl) (by kernel_rfl) (door_met os _)) ?_
 intro W base args ds gs before hval0 hW _ hsz hL _
 have hval : ∀ (j : Nat) t v,Tryz.f5.params[j]? = some t → args[j]? = some v → Value.okWide Tryz.prog W .any base t v:=hval0
 have hW':=hW
 obtain ⟨p,q,hA0,hV,rfl,hfz,hnd⟩:=hW
 have hA : DataW.TrodAll enc Tryz.prog W 0 (fun _ => true) true Tryz.f5.params.toList args.toList ds p:=hA0
 rw [Tryz.params5] at hA hval hsz
 obtain ⟨v0,vs0,d0,ds0,p0,q0,hargs,rfl,rfl,g0,t0⟩:=trodAll_cons hA
 obtain ⟨v1,vs1,d1,ds1,p1,q1,rfl,rfl,rfl,g1,t1⟩:=trodAll_cons t0
 obtain ⟨rfl,rfl,rfl⟩:=trodAll_nil t1
 obtain rfl : args = #[v0,v1]:=by cases args; simp_all
 obtain ⟨rfl,rfl⟩:=trodVars_none hV
 have kk0:=g0
 have lt0 : ∀ x ∈ p0,x.block < W.heap.size:=by obtain ⟨m,hm⟩:=kk0; exact DataW.trod_lt m _ _ _ hm
 obtain ⟨kr0,rr0,u0,x0,rfl,h0,l0,b0,bk0,br0⟩:=open_ruleV (hval 0 24 v0 rfl rfl) g0 (fun n hn => by
  have:=List.all_eq_true.1 hsz n (DataW.weights_mem_each (j:=0) (t:=24) rfl rfl n hn)
  simpa using this)
 have kk1:=g1
 have lt1 : ∀ x ∈ p1,x.block < W.heap.size:=by obtain ⟨m,hm⟩:=kk1; exact DataW.trod_lt m _ _ _ hm
 obtain ⟨kr1,rr1,u1,x1,rfl,h1,l1,b1,bk1,br1⟩:=open_ruleV (hval 1 24 v1 rfl rfl) g1 (fun n hn => by
  have:=List.all_eq_true.1 hsz n (DataW.weights_mem_each (j:=1) (t:=24) rfl rfl n hn)
  simpa using this)
 obtain ⟨r,hg,hG⟩:=glob_of_laidP (W:=W) (by
  exact hL)
 clear hA0 hval0
 refine (inverseChecks_any r kr0 rr0 u0 x0 kr1 rr1 u1 x1 W hg hG h0 h1 (by omega) (by omega)).mono fun e W' ⟨x,he,bel,hxx⟩ => ?_
 subst he; subst hxx
 exact ⟨_,rfl,_,_,_,[],_,[],hW',trodAll_mk1 (shut_bool Tryz.underlying4 _),(trodAll_cons_mk (Below.trod laidOut (by kernel_rfl) (of_decide_eq_true (by kernel_rfl)) kk0 bel lt0) (trodAll_cons_mk (Below.trod laidOut (by kernel_rfl) (of_decide_eq_true (by kernel_rfl)) kk1 bel lt1) trodAll_mk0)),rfl,bel.frame _,fun h => by cases h⟩
theorem and_t {a b : Bool} (h : a = true) (k : b = true) : (a && b) = true:=by rw [h,k]; rfl
theorem jf_wf : Rows.inverseChecksRow.wf (OpenSpec.ofChange Rows.inverseChecksSpec) = true:=by kernel_rfl
theorem jf_lo : laidOutB Tryz.prog = true:=by kernel_rfl
theorem jf_mr : mapsRowed Tryz.prog = true:=by kernel_rfl
theorem jf_nt : namedTie Tryz.prog Rows.inverseChecksRow.named Rows.inverseChecksSpec.vars = true:=by kernel_rfl
theorem jf_ip : (Rows.inverseChecksRow.inPlace == Tryz.prog.inPlace 5) = true:=by kernel_rfl
theorem jf_uf : (Rows.inverseChecksRow.unfollowed == Tryz.prog.unfollowed 5) = true:=by kernel_rfl
theorem jf_rc : (Rows.inverseChecksRow.recurses == Tryz.prog.recurses 5) = true:=by kernel_rfl
theorem jf_nm : (Rows.inverseChecksRow.named == Tryz.prog.varsNamed 5) = true:=by kernel_rfl
theorem jf_pk : (Rows.inverseChecksRow.plainKeys == Tryz.prog.plainKeys) = true:=by kernel_rfl
theorem jf_sh : Tryz.prog.stopsHeard = true:=by kernel_rfl
theorem jf_me : Tryz.prog.mayEnter = true:=by kernel_rfl
theorem jf_lf : (Rows.inverseChecksRow.lifted == Tryz.prog.liftsFinal) = true:=by kernel_rfl
theorem jf_mk : (Tryz.prog.make == some Rows.inverseChecksRow.make) = true:=by kernel_rfl
theorem joined : joinedFacts Tryz.prog 5 Tryz.f5 Rows.inverseChecksSpec Rows.inverseChecksRow = true:=and_t (and_t (and_t (and_t (and_t (and_t (and_t (and_t (and_t (and_t (and_t (and_t (and_t (and_t (and_t (and_t (and_t (and_t (and_t (and_t (and_t (and_t (and_t (and_t (and_t (and_t (and_t (and_t (and_t (and_t (and_t jf_wf jf_lo) jf_mr) (by kernel_rfl)) jf_nt) (by kernel_rfl)) (by kernel_rfl)) (by kernel_rfl)) (by kernel_rfl)) jf_ip) jf_uf) jf_rc) jf_nm) (by kernel_rfl)) (by kernel_rfl)) (by kernel_rfl)) (by kernel_rfl)) (by kernel_rfl)) (by kernel_rfl)) (by kernel_rfl)) (by kernel_rfl)) (by kernel_rfl)) jf_pk) (by kernel_rfl)) jf_sh) jf_me) jf_lf) jf_mk) (by kernel_rfl)) (by kernel_rfl)) (by kernel_rfl)) (by kernel_rfl)
theorem fnamed : Tryz.prog.funcNamed Rows.inverseChecksRow.func = some 5:=by kernel_rfl
theorem inst : Tryz.f5.isInstance Tryz.prog Rows.inverseChecksRow.origin Rows.inverseChecksRow.targs:=of_decide_eq_true (by kernel_rfl)
theorem wrapd : Tryz.f5.isWrapper Tryz.prog Rows.inverseChecksRow.wrapper Rows.inverseChecksRow.mainSum:=by unfold Func.isWrapper; first | (rw [if_pos (by decide +kernel)]; kernel_rfl) | (rw [if_neg (by decide +kernel)]; exact ⟨rfl,rfl⟩)
theorem over : Rows.InverseChecksSaid :=
 OpenClaim.holds_of_wide 5 Tryz.f5 rfl rfl rfl rfl rfl rfl rfl ⟨rfl,rfl,rfl,rfl,rfl⟩ rfl rfl rfl rfl rfl fnamed Tryz.func5 joined
  inst wrapd
  (fun os started H enc _ => lifted os started H enc)
theorem cw : Rows.inverseChecksRow.wfByText (OpenSpec.ofChange Rows.inverseChecksSpec) = true:=by kernel_rfl
theorem cm : Tryz.prog.mainIs = some (Rows.inverseChecksCard.stood.harness.1,Rows.inverseChecksCard.stood.harness.2.toList):=by kernel_rfl
theorem cl : Rows.inverseChecksCard.stood.looks = Tryz.prog.looks []:=by kernel_rfl
theorem cg : false = Rows.inverseChecksRow.goesBy Tryz.prog:=by kernel_rfl
theorem cs : ([24,24].all fun u => !Tryz.prog.wantsStandIn u) = true:=by kernel_rfl
/-- The tied card. -/
theorem card_holds : Rows.InverseChecksCardSaid :=
 Claim7.holds_tied_plain_at .later [] [.data,.handle,.sentinel,.sentinel,.sentinel,.sentinel,.sentinel,.sentinel,.sentinel,.sentinel,.sentinel,.sentinel,.sentinel,.sentinel,.pinned] true _ _
  over (fun _ h => by cases h) cw (fun _ h => by cases h) inverseChecks_row_tie rfl ⟨rfl,rfl⟩ cm rfl
  (fun f fn hf hfn => by
    obtain rfl : f = 5:=Option.some.inj (fnamed.symm.trans hf) |>.symm
    obtain rfl : fn = Tryz.f5:=(Option.some.inj (Tryz.func5.symm.trans hfn)).symm
    exact ⟨cl,fun j t ht => by
     rw [Tryz.params5] at ht
     have hm : t ∈ [24,24]:=by simpa using Array.mem_of_getElem? ht
     exact (show Tryz.prog.wantsStandIn t = false by simpa using List.all_eq_true.1 cs t hm)⟩)
  cg
end InverseChecksP
#print axioms InverseChecksP.card_holds
end Go.Proofs.YtjiadfblphdchaaGreatDoor
