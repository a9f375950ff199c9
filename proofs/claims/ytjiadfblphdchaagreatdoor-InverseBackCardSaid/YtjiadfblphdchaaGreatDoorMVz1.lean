/-
  Plain mathematics of layer 14: rows along vertices without ends, their images.
  Plain mathematics of layers 7 and 15: a row's fault, that of two words that are no twins.
  Walks: additive.Of.
  Walks: additive.Onto, additive.One.
  Walks: edenref18.Onto, One.
  Walk: edenref18.One.
  Errors as edenraw.Is takes them: a number from 1 to 11, few packages.
  Plain mathematics: the reference's factors of a rule, the first found first.
  Walk: edenref18.Of.
  Walks: edenref04.Value, edenref05.fault, edenref05.Mirror at a rule.
  Walks: edenref04.Small, Image, edenref08.Fault.
  Walks: edenref05.wide, Widen at a rule, edenref13.Working, edenref08.Count.
  Walk: edenref13.All: the graph of pairs of a working rule.
  Walks: edenref13.Odd, Graph, Apart.
  Walks: edenref07.At, Piece, after, Image, Equal, Check.
  Walks: edenref07.Equal, Check, edenref14.Witness at rows that are right.
  Walk: edenref07.Check at any row.
  Plain mathematics of layer 7: each cell of a row's image is the rule's answer for the window there.
  Plain mathematics of layers 7 and 20: a row's image, taken back, is the row, cell by cell.
-/
import Derived.Test.YtjiadfblphdchaaGreatDoorMVb11
import Derived.Deep.RegionWith
import Derived.RegionTactic
import Derived.Deep.RegionHeld3
import Derived.Deep.DeepCutAuto
namespace Go.Proofs.YtjiadfblphdchaaGreatDoor
/-- What stands at a place of a row of whatever. -/
def cellA {α : Type} (d : α) (L C Q : List α) (i : Int) : α :=
 if i < 0 then L.getD (i % (L.length : Int)).toNat d
 else if i < C.length then C.getD i.toNat d
 else Q.getD ((i - C.length) % (Q.length : Int)).toNat d
theorem emod_next {a : Int} {n j : Nat} (hn : 1 ≤ n) (h : a % (n : Int) = j) : (a + 1) % (n : Int) = if j + 1 < n then ((j + 1 : Nat) : Int) else 0:=by
 have h1:=Int.emod_lt_of_pos a (show (0 : Int) < n by omega)
 have e : (a + 1) % (n : Int) = (((a % n) + 1) % n):=by rw [Int.emod_add_emod]
 rw [e,h]
 split
 ·exact Int.emod_eq_of_lt (by omega) (by omega)
 ·rw [show (j : Int) + 1 = n by omega]; exact Int.emod_self
/-- A way without ends: a loop, a way, a loop. -/
structure Bi (adj : Nat → List Nat) (L C Q : List Nat) : Prop where
 l1 : 1 ≤ L.length
 c1 : 1 ≤ C.length
 q1 : 1 ≤ Q.length
 sL : ∀ j,j + 1 < L.length → L.getD (j + 1) 0 ∈ adj (L.getD j 0)
 eL : L.getD 0 0 ∈ adj (L.getD (L.length - 1) 0)
 fC : C.getD 0 0 = L.getD 0 0
 sC : ∀ j,j + 1 < C.length → C.getD (j + 1) 0 ∈ adj (C.getD j 0)
 eC : Q.getD 0 0 ∈ adj (C.getD (C.length - 1) 0)
 sQ : ∀ j,j + 1 < Q.length → Q.getD (j + 1) 0 ∈ adj (Q.getD j 0)
 eQ : Q.getD (Q.length - 1) 0 = C.getD (C.length - 1) 0
theorem Bi.step {adj : Nat → List Nat} {L C Q : List Nat} (h : Bi adj L C Q) (i : Int) : cellA 0 L C Q (i + 1) ∈ adj (cellA 0 L C Q i):=by
 have l1:=h.l1
 have c1:=h.c1
 have q1:=h.q1
 unfold cellA
 by_cases h0 : i < 0
 ·rw [if_pos h0]
  obtain ⟨j,hj,e⟩:=emod_nat (a:=i) l1
  have e2:=emod_next l1 e
  rw [e,Int.toNat_natCast]
  by_cases h1 : i + 1 < 0
  ·rw [if_pos h1,e2]
   split
   ·rename_i hlt; rw [Int.toNat_natCast]; exact h.sL j hlt
   ·obtain rfl : j = L.length - 1:=by omega
    exact h.eL
  ·rw [if_neg h1,if_pos (by omega),show (i + 1).toNat = 0 by omega,h.fC]
   have : i = -1:=by omega
   subst this
   have e3 : (-1 : Int) + 1 = 0:=rfl
   rw [e3,Int.zero_emod] at e2
   have : j = L.length - 1:=by
    split at e2
    ·omega
    ·omega
   subst this
   exact h.eL
 ·rw [if_neg h0,if_neg (show ¬ i + 1 < 0 by omega)]
  by_cases h1 : i < C.length
  ·rw [if_pos h1]
   by_cases h2 : i + 1 < C.length
   ·rw [if_pos h2,show (i + 1).toNat = i.toNat + 1 by omega]; exact h.sC _ (by omega)
   ·rw [if_neg h2,show i + 1 - (C.length : Int) = 0 by omega,Int.zero_emod]
    have:=h.eC
    rw [show i.toNat = C.length - 1 by omega]
    exact this
  ·rw [if_neg h1,if_neg (show ¬ i + 1 < C.length by omega)]
   obtain ⟨j,hj,e⟩:=emod_nat (a:=i - C.length) q1
   have e2:=emod_next q1 e
   rw [show i + 1 - (C.length : Int) = i - C.length + 1 by omega,e2,e,Int.toNat_natCast]
   split
   ·rename_i hlt; rw [Int.toNat_natCast]; exact h.sQ j hlt
   ·obtain rfl : j = Q.length - 1:=by omega
    rw [h.eQ]; exact h.eC
end Go.Proofs.YtjiadfblphdchaaGreatDoor
namespace Go.Proofs.YtjiadfblphdchaaGreatDoor
def sRow : ByteArray:=⟨#[114,111,119]⟩
/-- The fault of a row. -/
def rowP (k p : Int) (L C Q : List Int) : PErr :=
 if k < 1 ∨ 4 < k then fresh sRow 0 3
 else if p < -4096 ∨ 4096 < p then fresh sRow 1 3
 else if L.length = 0 then fresh sRow 2 3
 else if Q.length = 0 then fresh sRow 3 3
 else if 8192 < L.length then fresh sRow 2 4
 else if 8192 < Q.length then fresh sRow 3 4
 else if 16384 < C.length then fresh sRow 4 4
 else if 0 ≤ idxOf (odd1 k) (L ++ C ++ Q) then fresh sRow (idxOf (odd1 k) (L ++ C ++ Q)) 2
 else none
structure RowOk (K : Nat) (p : Int) (L C Q : List Int) : Prop where
 k1 : 1 ≤ K
 k4 : K ≤ 4
 p1 : -4096 ≤ p
 p2 : p ≤ 4096
 l1 : 1 ≤ L.length
 l2 : L.length ≤ 8192
 q1 : 1 ≤ Q.length
 q2 : Q.length ≤ 8192
 c2 : C.length ≤ 16384
 sL : Syms K L
 sC : Syms K C
 sQ : Syms K Q
theorem syms_odd {k : Int} {x : List Int} : Syms k x ↔ ∀ y ∈ x,odd1 k y = false:=by
 refine ⟨fun h y hy => ?_,fun h y hy => ?_⟩
 ·have:=h y hy
  unfold odd1
  simp only [Bool.or_eq_false_iff,decide_eq_false_iff_not]
  omega
 ·have:=h y hy
  unfold odd1 at this
  simp only [Bool.or_eq_false_iff,decide_eq_false_iff_not] at this
  omega
theorem idxOf_syms {k : Int} {x : List Int} : ¬ 0 ≤ idxOf (odd1 k) x ↔ Syms k x:=by
 rw [syms_odd]
 rcases idxOf_cases (odd1 k) x with ⟨h1,h2⟩ | ⟨m,h1,h2,h3,_⟩
 ·rw [h1]; exact ⟨fun _ => h2,fun _ => by omega⟩
 ·rw [h1]
  refine ⟨fun h => by omega,fun h => ?_⟩
  have:=h _ (List.getElem_mem h2)
  rw [h3] at this; cases this
theorem rowP_none {k p : Int} {L C Q : List Int} (h : rowP k p L C Q = none) : ∃ K : Nat,k = K ∧ RowOk K p L C Q:=by
 unfold rowP at h
 by_cases h1 : k < 1 ∨ 4 < k
 ·rw [if_pos h1] at h; cases h
 rw [if_neg h1] at h
 by_cases h2 : p < -4096 ∨ 4096 < p
 ·rw [if_pos h2] at h; cases h
 rw [if_neg h2] at h
 by_cases h3 : L.length = 0
 ·rw [if_pos h3] at h; cases h
 rw [if_neg h3] at h
 by_cases h4 : Q.length = 0
 ·rw [if_pos h4] at h; cases h
 rw [if_neg h4] at h
 by_cases h5 : 8192 < L.length
 ·rw [if_pos h5] at h; cases h
 rw [if_neg h5] at h
 by_cases h6 : 8192 < Q.length
 ·rw [if_pos h6] at h; cases h
 rw [if_neg h6] at h
 by_cases h7 : 16384 < C.length
 ·rw [if_pos h7] at h; cases h
 rw [if_neg h7] at h
 by_cases h8 : 0 ≤ idxOf (odd1 k) (L ++ C ++ Q)
 ·rw [if_pos h8] at h; cases h
 have hs:=idxOf_syms.1 h8
 obtain ⟨K,rfl⟩ : ∃ K : Nat,k = K:=⟨k.toNat,by omega⟩
 exact ⟨K,rfl,by omega,by omega,by omega,by omega,by omega,by omega,by omega,by omega,by omega,fun x hx => hs x (by simp [hx]),fun x hx => hs x (by simp [hx]),fun x hx => hs x (by simp [hx])⟩
theorem RowOk.none {K : Nat} {p : Int} {L C Q : List Int} (h : RowOk K p L C Q) : rowP K p L C Q = Option.none:=by
 have hs : Syms K (L ++ C ++ Q):=fun x hx => by
  rcases List.mem_append.1 hx with hx | hx
  ·rcases List.mem_append.1 hx with hx | hx
   ·exact h.sL x hx
   ·exact h.sC x hx
  ·exact h.sQ x hx
 have h1:=h.k1
 have h2:=h.k4
 have h3:=h.p1
 have h4:=h.p2
 have h5:=h.l1
 have h6:=h.l2
 have h7:=h.q1
 have h8:=h.q2
 have h9:=h.c2
 unfold rowP
 rw [if_neg (by omega),if_neg (by omega),if_neg (by omega),if_neg (by omega),if_neg (by omega),if_neg (by omega),if_neg (by omega),if_neg (idxOf_syms.2 hs)]
/-- What twins.Check tells of two words, the rule being small. -/
def twinsP (op : ByteArray) (k : Int) (R : Nat) (img : List Int → List Int) (a b : List Int) : PErr :=
 if 16384 < a.length ∨ 16384 < b.length then fresh op 1 4
 else if 0 ≤ idxOf (odd1 k) a then fresh op (idxOf (odd1 k) a) 2
 else if 0 ≤ idxOf (odd1 k) b then fresh op (a.length + idxOf (odd1 k) b) 2
 else if a.length ≠ b.length ∨ a = b then fresh op 1 3
 else if a.length < 2 * R ∨ a.take (2 * R) ≠ b.take (2 * R) ∨ a.drop (a.length - 2 * R) ≠ b.drop (b.length - 2 * R) then fresh op 2 3
 else if img a ≠ img b then fresh op 3 3
 else none
theorem IsTwins.p {op : ByteArray} {K R : Nat} {T a b : List Int} (h : IsTwins K R T a b) (hl : a.length ≤ 16384) : twinsP op K R (imgP K R T) a b = none:=by
 have e:=h.len
 have e2:=h.low
 unfold twinsP
 rw [if_neg (by omega),if_neg (idxOf_syms.2 h.sa),if_neg (idxOf_syms.2 h.sb),if_neg (fun q => q.elim (fun q => q e) h.ne),if_neg,if_neg (fun q => q h.img)]
 rintro (q | q | q)
 ·omega
 ·exact q h.front
 ·exact q h.back
end Go.Proofs.YtjiadfblphdchaaGreatDoor
namespace Go.Proofs.YtjiadfblphdchaaGreatDoor
open Go.RowKit
set_option maxRecDepth 100000
end Go.Proofs.YtjiadfblphdchaaGreatDoor
namespace Go.Proofs.YtjiadfblphdchaaGreatDoor
open Go.RowKit
set_option maxRecDepth 100000
end Go.Proofs.YtjiadfblphdchaaGreatDoor
namespace Go.Proofs.YtjiadfblphdchaaGreatDoor
open Go.RowKit
set_option maxRecDepth 100000
theorem EOwn.drew {B : Nat} {w : World} {t : PErr} {v : Value} (h : EOwn B w t v) : EOwn B w.drew t v:=by
 match t,h with
 | none,h => exact h
 | some (n,l),h => exact h
end Go.Proofs.YtjiadfblphdchaaGreatDoor
namespace Go.Proofs.YtjiadfblphdchaaGreatDoor
open Go.RowKit
set_option maxRecDepth 100000
end Go.Proofs.YtjiadfblphdchaaGreatDoor
namespace Go.Proofs.YtjiadfblphdchaaGreatDoor
open Go.RowKit
set_option maxRecDepth 100000
theorem checkP_num {k R : Int} {xs : List Int} {t : Int × List (ByteArray × Int)} (h : checkP k R xs = some t) : t.1 = 1 ∧ t.2.length = 1:=by
 unfold checkP fresh at h
 split at h
 ·cases h; exact ⟨rfl,rfl⟩
 ·split at h
  ·cases h; exact ⟨rfl,rfl⟩
  ·split at h
   ·cases h; exact ⟨rfl,rfl⟩
   ·split at h
    ·cases h
    ·cases h; exact ⟨rfl,rfl⟩
end Go.Proofs.YtjiadfblphdchaaGreatDoor
namespace Go.Proofs.YtjiadfblphdchaaGreatDoor
end Go.Proofs.YtjiadfblphdchaaGreatDoor
namespace Go.Proofs.YtjiadfblphdchaaGreatDoor
open Go.RowKit
set_option maxRecDepth 100000
end Go.Proofs.YtjiadfblphdchaaGreatDoor
namespace Go.Proofs.YtjiadfblphdchaaGreatDoor
open Go.RowKit
set_option maxRecDepth 100000
theorem ref_value (K : Nat) (u : Value) (ys : List Int) (w : World) (hk1 : 1 ≤ K) (hk4 : K ≤ 4) (hu : IntsAt w u ys) (hy : Syms K ys) (hyl : ys.length ≤ 7) :
 Calls Tryz.prog 60 #[.int .i64 K,u] w fun e w' => e = .returned (.int .i64 (numW K ys)) ∧ w = w':=by
 have l1:=hu.len
 replace hu:=Lib.hid hu
 replace hy:=Lib.hid hy
 go_enter Tryz.func60,Tryz.ntmps60
 go_wp2
 go_loop [5,6] (fun n i => ∃ j : Nat,j ≤ ys.length ∧ i = .int .i64 j ∧ n = .int .i64 (numW K (ys.take j))) (fun _ i => ys.length - (intOf i).toNat)
 case atStart => exact ⟨0,by omega,rfl,rfl⟩
 case round =>
  obtain ⟨j,hj,rfl,rfl⟩:=hrel
  by_cases hjl : j < ys.length
  ·have i1:=hu.out.idx j hjl
   have c1:=hu.out.cell j hjl
   have hx:=hy.out ys[j] (by simp)
   have hn : Hid (numW K (ys.take (j + 1)) = numW K (ys.take j) * K + ys[j].toNat):=by
    show _ = _
    rw [take_snoc ys j hjl,numW_snoc]
   have hn2 : numW K (ys.take j) ≤ 16384:=by
    have h1:=numW_lt (ys.take j) (fun x hx => hy.out x (List.mem_of_mem_take hx))
    have h2:=pw_le hk1 hk4 (i:=(ys.take j).length) (by simp; omega)
    omega
   generalize ys[j] = x at c1 hx hn
   generalize numW K (ys.take j) = N at hn hn2
   have hm1 : 0 ≤ (N : Int) * (K : Int):=Int.mul_nonneg (by omega) (by omega)
   have hm2 : (N : Int) * (K : Int) ≤ 65536:=by
    have : N * K ≤ 65536:=Nat.mul_le_mul hn2 hk4
    have h2:=Int.ofNat_le.2 this
    rw [Int.natCast_mul] at h2
    exact h2
   go_wp2
   go_round
   case rel => exact ⟨j + 1,by omega,by go_num,by rw [hn.out]; go_num⟩
   case measure => simp [intOf]; omega
  ·obtain rfl : j = ys.length:=by omega
   rw [List.take_length]
   go_wp2
   go_ret
   exact ⟨rfl,rfl⟩
end Go.Proofs.YtjiadfblphdchaaGreatDoor
namespace Go.Proofs.YtjiadfblphdchaaGreatDoor
open Go.RowKit
set_option maxRecDepth 100000
set_option maxHeartbeats 2000000 in
theorem ref_image (K R : Nat) (va : Option Addr) (vn vc : Nat) (T : List Int) (u : Value) (x : List Int) (w : World) (h : IntsAt w (.slice va vn vc) T) (hr : RuleOk K R T) (hu : IntsAt w u x) (hx : Syms K x) (hl : x.length ≤ 100000) :
 Calls Tryz.prog 61 #[.agg #[.int .i64 K,.int .i64 R,.slice va vn vc],u] w (Ret1 (fun v w' => OwnI w.heap.size w' v (imgP K R T x)) w):=by
 have b0:=belowAlloc w (.cells #[.int .i64 K,.int .i64 R,.slice va vn vc] 24)
 have q : Box3 (w.alloc (.cells #[.int .i64 K,.int .i64 R,.slice va vn vc] 24)) w.heap.size (.int .i64 K) (.int .i64 R) (.slice va vn vc):=by simp [Box3,go_sem]
 have hR3:=hr.r3
 have hk1:=hr.k1
 have hk4:=hr.k4
 have lX:=hu.len
 obtain ⟨ua,un,uc,rfl⟩:=hu.shape
 replace h:=Lib.hid (h.below b0)
 replace hu:=Lib.hid (hu.below b0)
 replace hr:=Lib.hid hr
 replace hx:=Lib.hid hx
 obtain ⟨W0,hW0⟩ : ∃ W : World,w.alloc (.cells #[.int .i64 K,.int .i64 R,.slice va vn vc] 24) = W:=⟨_,rfl⟩
 have s0 : w.heap.size ≤ W0.heap.size:=by rw [← hW0]; simp
 rw [hW0] at h hu q b0
 replace hW0:=Lib.hid hW0
 go_enter Tryz.func61,Tryz.ntmps61
 go_upto_region 3 with fail
 rw [hW0.out]
 clear hW0
 go_loopw [5,6] (fun ov iv wr => ∃ (i : Nat) (ow : Value),ow = ov ∧ iv = .int .i64 i ∧ i ≤ x.length - 2 * R ∧ OwnI W0.heap.size wr ow ((imgP K R T x).take i) ∧ Below W0.heap.size W0 wr) (fun _ iv _ => x.length - (intOf iv).toNat)
 case atStart => exact ⟨0,_,rfl,rfl,Nat.zero_le _,OwnI.nil _ _,Below.refl _ _⟩
 case round =>
  obtain ⟨i,ow,rfl,rfl,hi,hO,hB⟩:=hrel
  obtain ⟨wo,rfl⟩ : ∃ wo : World,wo = wr:=⟨_,rfl⟩
  obtain ⟨⟨z0,z1,z2⟩,-,-,-⟩:=q.below hB
  by_cases hlt : i + 2 * R < x.length
  ·obtain ⟨W,hW⟩ : ∃ W : World,wo.drew = W:=⟨_,rfl⟩
   have hBW : Below W0.heap.size W0 W:=by rw [← hW]; exact hB.drew
   have hOW : OwnI W0.heap.size W ow ((imgP K R T x).take i):=by rw [← hW]; exact hO
   obtain ⟨pv,hsl,hP⟩:=(hu.out.below hBW).mid i (i + 2 * R + 1) (by omega) (by omega)
   have hwin : (x.take (i + 2 * R + 1)).drop i = (x.drop i).take (2 * R + 1):=by rw [List.drop_take]; congr 1; omega
   rw [hwin] at hP
   have hwl : ((x.drop i).take (2 * R + 1)).length = 2 * R + 1:=by rw [List.length_take,List.length_drop]; omega
   have hws : Syms K ((x.drop i).take (2 * R + 1)):=syms_take (syms_drop hx.out i) _
   have hnl:=numW_lt _ hws
   rw [hwl,← hr.out.len] at hnl
   have hT:=h.out.below hBW
   have iT:=fun w' => hT.idx _ hnl w'
   have cT:=hT.cellD _ hnl
   have hg:=imgP_getD K R T x i (by omega)
   have htk : (imgP K R T x).take (i + 1) = (imgP K R T x).take i ++ [(imgP K R T x).getD i 0]:=by
    rw [List.take_add_one,List.getElem?_eq_getElem (by rw [imgP_length]; omega),List.getD_eq_getElem?_getD,List.getElem?_eq_getElem (by rw [imgP_length]; omega)]; rfl
   rw [hg] at htk
   have hval:=ref_value K pv _ W hk1 hk4 hP hws (by rw [hwl]; omega)
   obtain ⟨pa,pn,pc,rfl⟩:=hP.shape
   have hsl2 : ∀ w',(Instr.slice 22 (.slice ua un uc) (some (.int .i64 (i : Int))) (some (.int .i64 ((i : Int) + 2 * (R : Int) + 1))) none).run Tryz.prog w' = .ok (.slice pa pn pc) w':=by
    intro w'; have:=hsl w'; rwa [show (((i + 2 * R + 1 : Nat) : Nat) : Int) = (i : Int) + 2 * (R : Int) + 1 by omega] at this
   have hnl2 : numW K ((x.drop i).take (2 * R + 1)) < T.length:=hnl
   have hta0 : (valAt (.slice va vn vc) (numW K ((x.drop i).take (2 * R + 1)))).block < W0.heap.size:=World.block_lt_of_cell? _ _ (h.out.cellD _ hnl)
   generalize T.getD (numW K ((x.drop i).take (2 * R + 1))) 0 = y at *
   generalize numW K ((x.drop i).take (2 * R + 1)) = N at *
   generalize valAt (.slice va vn vc) N = ta at *
   have hol : ((imgP K R T x).take i).length = i:=by rw [List.length_take,imgP_length]; omega
   have sW:=hBW.size
   have hta:=World.block_lt_of_cell? _ _ cT
   have hS : W.cell? ⟨w.heap.size,0,none⟩ = some (.int .i64 K) ∧ W.cell? ⟨w.heap.size,1,none⟩ = some (.int .i64 R) ∧ W.cell? ⟨w.heap.size,2,none⟩ = some (.slice va vn vc) ∧ W.cell? ta = some (.int .i64 y):=by
    obtain ⟨⟨y0,y1,y2⟩,-,-,-⟩:=q.below hBW
    exact ⟨y0,y1,y2,cT⟩
   have bl:=belowAlloc W (.cells #[.int .i64 y] 3)
   have hlit:=OwnI.lit W.heap.size W (Nat.le_refl _) [y] (by simp [maxLen]) #[.int .i64 y] rfl 1 rfl
   have hOl:=hOW.below bl
   have hBl : W0.heap.size ≤ (W.alloc (.cells #[.int .i64 y] 3)).heap.size:=by simp; omega
   have hS1 : (W.alloc (.cells #[.int .i64 y] 3)).cell? ⟨w.heap.size,0,none⟩ = some (.int .i64 K) ∧ (W.alloc (.cells #[.int .i64 y] 3)).cell? ⟨w.heap.size,1,none⟩ = some (.int .i64 R) ∧ (W.alloc (.cells #[.int .i64 y] 3)).cell? ⟨w.heap.size,2,none⟩ = some (.slice va vn vc) ∧ (W.alloc (.cells #[.int .i64 y] 3)).cell? ta = some (.int .i64 y):=by
    have h0:=World.block_lt_of_cell? _ _ hS.1
    exact ⟨(bl.cell h0).trans hS.1,(bl.cell (World.block_lt_of_cell? _ _ hS.2.1)).trans hS.2.1,(bl.cell (World.block_lt_of_cell? _ _ hS.2.2.1)).trans hS.2.2.1,(bl.cell hta).trans hS.2.2.2⟩
   replace hOl:=Lib.hid hOl
   replace hval:=Lib.hid hval
   replace hT:=Lib.hid hT
   replace hOW:=Lib.hid hOW
   replace hO:=Lib.hid hO
   replace hP:=Lib.hid hP
   replace hws:=Lib.hid hws
   replace hwl:=Lib.hid hwl
   replace hwin:=Lib.hid hwin
   replace hg:=Lib.hid hg
   replace htk:=Lib.hid htk
   replace hol:=Lib.hid hol
   replace hW:=Lib.hid hW
   replace hlit:=Lib.hid hlit
   clear hsl cT
   have hw1 : IntKind.i64.wrap (2 * (R : Int)) = 2 * (R : Int):=wrapK (by omega) (by omega)
   have hw2 : IntKind.i64.wrap ((i : Int) + 2 * (R : Int)) = (i : Int) + 2 * (R : Int):=wrapK (by omega) (by omega)
   have hw3 : IntKind.i64.wrap ((i : Int) + 2 * (R : Int) + 1) = (i : Int) + 2 * (R : Int) + 1:=wrapK (by omega) (by omega)
   go_upto_region 5 with fail
   refine wp_region_plan (fun w' => w'.cell? ⟨w.heap.size,0,none⟩ = some (.int .i64 K) ∧ w'.cell? ⟨w.heap.size,1,none⟩ = some (.int .i64 R) ∧ w'.cell? ⟨w.heap.size,2,none⟩ = some (.slice va vn vc) ∧ w'.cell? ta = some (.int .i64 y)) 19 [(0,true),(1,true),(2,true),(3,true),(4,true),(5,true),(6,true),(7,true),(8,true),(9,true),(10,true),(11,true),(12,true),(13,true),(14,false),(15,true),(16,true),(17,false),(18,false)] (by kernel_rfl) (by kernel_rfl) ?_
   rw [hW.out]
   clear z0 z1 z2
   refine pqY 17 hS ?_
   refine pqY 18 hS ?_
   refine pqY 19 hS ?_
   refine pqY 20 hS ?_
   refine pqY 21 hS ?_
   refine pqY 22 hS ?_
   refine pqY 23 hS ?_
   refine pqY 24 hS ?_
   refine pqY 25 hS ?_
   refine pqY 26 hS ?_
   refine pqY 27 hS ?_
   refine pqY 28 hS ?_
   refine pqY 29 hS ?_
   refine pqY 30 hS ?_
   refine headC rfl (fun KK hK => ?_)
   go_simp
   refine hval.out.mono ?_
   rintro e w5 ⟨rfl,rfl⟩
   refine hK _ _ hS ?_
   clear hK KK
   refine pqY 32 hS ?_
   refine pqY 33 hS ?_
   refine headC rfl (fun KK hK => ?_)
   go_simp
   refine hK _ _ hS1 ?_
   clear hK KK
   refine headC rfl (fun KK hK => ?_)
   refine step_appI rfl _ _ rfl W0.heap.size ow (.slice (some ⟨W.heap.size,0,none⟩) 1 1) _ [y] rfl rfl hOl.out hlit.out.at (by rw [hol.out]; simp; omega) hBl ?_
   intro v9 w9 ho9 b9
   rw [← htk.out] at ho9
   have b99:=(hBW.trans (bl.mono sW)).trans b9
   obtain ⟨v9a,v9b,v9c,rfl⟩:=ho9.at.shape
   replace ho9:=Lib.hid ho9
   have hS9 : w9.cell? ⟨w.heap.size,0,none⟩ = some (.int .i64 K) ∧ w9.cell? ⟨w.heap.size,1,none⟩ = some (.int .i64 R) ∧ w9.cell? ⟨w.heap.size,2,none⟩ = some (.slice va vn vc) ∧ w9.cell? ta = some (.int .i64 y):=by
    obtain ⟨⟨y0,y1,y2⟩,-,-,-⟩:=q.below b99
    exact ⟨y0,y1,y2,(b9.cell hta0).trans hS1.2.2.2⟩
   refine hK _ _ hS9 ?_
   clear hK KK
   refine head0 ?_
   simp only [List.drop_succ_cons,List.drop_zero]
   clear hS hS1 hS9
   go_wp2
   refine NoPanic.normal ?_
   go_wp2
   go_roundw
   case measure => simp [intOf]; omega
   case rel => exact ⟨i + 1,_,rfl,by go_num,by omega,ho9.out,b99⟩
  ·have hke : i = x.length - 2 * R:=by omega
   have hfin : (imgP K R T x).take i = imgP K R T x:=List.take_of_length_le (by rw [imgP_length]; omega)
   rw [hfin] at hO
   have d1 : decide ((i : Int) + 2 * (R : Int) < (x.length : Int)) = false:=decide_eq_false (by omega)
   replace hO:=Lib.hid hO
   replace hfin:=Lib.hid hfin
   replace hke:=Lib.hid hke
   obtain ⟨oa,on,oc,hov⟩:=hO.out.at.shape
   subst hov
   go_wp2
   go_ret
   exact ⟨_,rfl,b0.trans (hB.mono s0),hO.out.mono s0⟩
end Go.Proofs.YtjiadfblphdchaaGreatDoor
namespace Go.Proofs.YtjiadfblphdchaaGreatDoor
open Go.RowKit
set_option maxRecDepth 100000
end Go.Proofs.YtjiadfblphdchaaGreatDoor
namespace Go.Proofs.YtjiadfblphdchaaGreatDoor
open Go.RowKit
set_option maxRecDepth 100000
end Go.Proofs.YtjiadfblphdchaaGreatDoor
namespace Go.Proofs.YtjiadfblphdchaaGreatDoor
open Go.RowKit
set_option maxRecDepth 100000
theorem ListsFrom.shape {B : Nat} {w : World} {v : Value} {G : List (List Int)} (h : ListsFrom B w v G) : ∃ a c,v = .slice a G.length c:=h.at.shape
theorem ListsFrom.mono {B B' : Nat} {w : World} {v : Value} {G : List (List Int)} (h : ListsFrom B w v G) (hB : B' ≤ B) : ListsFrom B' w v G:=by
 obtain ⟨vs,h1,h2,h3⟩:=h
 exact ⟨vs,h1.mono hB,h2,fun i hi => (h3 i hi).mono hB⟩
theorem ListsFrom.set3 {B b : Nat} {w : World} {v : Value} {G : List (List Int)} (h : ListsFrom B w v G) (hb : b < B) (x y z : Value) : ListsFrom B (((w.setCell ⟨b,0,none⟩ x).setCell ⟨b,1,none⟩ y).setCell ⟨b,2,none⟩ z) v G :=
 ((h.set (a:=⟨b,0,none⟩) hb x).set (a:=⟨b,1,none⟩) hb y).set (a:=⟨b,2,none⟩) hb z
theorem dm9 (p N : Nat) (hp : p ≤ 100000000) : (p : Int).tdiv (N : Int) = ((p / N : Nat) : Int) ∧ (p : Int).tmod (N : Int) = ((p % N : Nat) : Int) ∧ (p : Int) / (N : Int) = ((p / N : Nat) : Int) ∧ (p : Int) % (N : Int) = ((p % N : Nat) : Int) ∧
 IntKind.i64.wrap ((p / N : Nat) : Int) = ((p / N : Nat) : Int) ∧ IntKind.i64.wrap ((p % N : Nat) : Int) = ((p % N : Nat) : Int):=by
 have h1 : p / N ≤ p:=Nat.div_le_self _ _
 have h2 : p % N ≤ p:=Nat.mod_le _ _
 refine ⟨by rw [Int.tdiv_eq_ediv_of_nonneg (by omega)]; simp,by rw [Int.tmod_eq_emod_of_nonneg (by omega)]; simp,by simp,by simp,?_,?_⟩
 ·generalize p / N = a at *; exact wrapK (by omega) (by omega)
 ·generalize p % N = a at *; exact wrapK (by omega) (by omega)
end Go.Proofs.YtjiadfblphdchaaGreatDoor
namespace Go.Proofs.YtjiadfblphdchaaGreatDoor
open Go.RowKit
set_option maxRecDepth 100000
/-- Counted from the other end. -/
theorem emod_back {d : Int} {n e : Nat} (hn : 1 ≤ n) (he : -1 - d = (e : Int)) : (d % (n : Int)).toNat = n - 1 - e % n:=by
 have h1:=Nat.mod_add_div e n
 have h2:=Nat.mod_lt e (show 0 < n by omega)
 have h3 : d = ((n : Int) - 1 - ((e % n : Nat) : Int)) + (n : Int) * (-((e / n : Nat) : Int) - 1):=by
  have : (e : Int) = ((e % n : Nat) : Int) + (n : Int) * ((e / n : Nat) : Int):=by rw [← Int.natCast_mul,← Int.natCast_add,h1]
  rw [Int.mul_sub,Int.mul_neg,Int.mul_one]
  omega
 rw [h3,Int.add_mul_emod_self_left,Int.emod_eq_of_lt (by omega) (by omega)]
 omega
set_option maxHeartbeats 2000000 in
theorem ref_at (p i : Int) (la : Option Addr) (ln lc : Nat) (ca : Option Addr) (cn cc : Nat) (qa : Option Addr) (qn qc : Nat) (L C Q : List Int) (w : World) (hL : IntsAt w (.slice la ln lc) L) (hC : IntsAt w (.slice ca cn cc) C) (hQ : IntsAt w (.slice qa qn qc) Q) (l1 : 1 ≤ L.length) (q1 : 1 ≤ Q.length) (lb : L.length ≤ 100000) (cb : C.length ≤ 100000) (qb : Q.length ≤ 100000) (hp : -1000000 ≤ p ∧ p ≤ 1000000) (hi : -10000000 ≤ i ∧ i ≤ 10000000) :
 Calls Tryz.prog 54 #[.agg #[.int .i64 p,.slice la ln lc,.slice ca cn cc,.slice qa qn qc],.int .i64 i] w (Ret1 (fun x _ => x = .int .i64 (cellP p L C Q i)) w):=by
 have b0:=belowAlloc w (.cells #[.int .i64 p,.slice la ln lc,.slice ca cn cc,.slice qa qn qc] 45)
 obtain ⟨y0,y1,y2,y3⟩:=Cells4.alloc w 45 (.int .i64 p) (.slice la ln lc) (.slice ca cn cc) (.slice qa qn qc)
 obtain ⟨w0,hw0⟩ : ∃ W : World,w.alloc (.cells #[.int .i64 p,.slice la ln lc,.slice ca cn cc,.slice qa qn qc] 45) = W:=⟨_,rfl⟩
 rw [hw0] at b0 y0 y1 y2 y3
 replace hL:=hL.below b0
 replace hC:=hC.below b0
 replace hQ:=hQ.below b0
 have nL:=hL.len
 have nC:=hC.len
 have nQ:=hQ.len
 replace hw0:=Lib.hid hw0
 by_cases h1 : i < p
 ·have d1 : decide (i < p) = true:=decide_eq_true h1
  obtain ⟨e,he⟩ : ∃ e : Nat,p - 1 - i = (e : Int):=⟨(p - 1 - i).toNat,by omega⟩
  obtain ⟨g1,g2,g3,g4,g5,g6⟩:=dm9 e L.length (by omega)
  have hn3 : ¬ L.length = 0:=by omega
  have hn4 : ((L.length : Int) == 0) = false:=by rw [beq_eq_false_iff_ne]; omega
  have hlt:=Nat.mod_lt e (show 0 < L.length by omega)
  have hv : cellP p L C Q i = L.getD (L.length - 1 - e % L.length) 0:=by
   unfold cellP
   rw [if_pos (by omega),emod_back l1 (e:=e) (by omega)]
  obtain ⟨r,hr⟩ : ∃ r,e % L.length = r:=⟨_,rfl⟩
  rw [hr] at g2 g4 g6 hlt hv
  obtain ⟨j,hj⟩ : ∃ j : Nat,(L.length : Int) - 1 - (r : Int) = (j : Int):=⟨L.length - 1 - r,by omega⟩
  have hjl : j < L.length:=by omega
  rw [show L.length - 1 - r = j by omega] at hv
  have iJ:=fun w' => hL.idx j hjl w'
  have cJ:=hL.cellD j hjl
  rw [hv]
  obtain ⟨ta,hta⟩ : ∃ ta,valAt (.slice la ln lc) j = ta:=⟨_,rfl⟩
  obtain ⟨x,hx⟩ : ∃ x,L.getD j 0 = x:=⟨_,rfl⟩
  rw [hta] at iJ cJ
  rw [hx] at cJ ⊢
  replace hL:=Lib.hid hL
  replace hC:=Lib.hid hC
  replace hQ:=Lib.hid hQ
  replace hv:=Lib.hid hv
  replace hr:=Lib.hid hr
  replace hta:=Lib.hid hta
  replace hx:=Lib.hid hx
  go_enter Tryz.func54,Tryz.ntmps54
  go_upto_region 1 with fail
  rw [hw0.out]
  go_wp2
  go_ret
  exact ⟨_,rfl,b0,rfl⟩
 ·have d1 : decide (i < p) = false:=decide_eq_false h1
  obtain ⟨d,hd⟩ : ∃ d,i - p = d:=⟨_,rfl⟩
  by_cases h2 : d < C.length
  ·have d2 : decide (d < (C.length : Int)) = true:=decide_eq_true h2
   have hv : cellP p L C Q i = C.getD d.toNat 0:=by
    unfold cellP
    rw [hd,if_neg (by omega),if_pos h2]
   have iJ:=fun w' => hC.idxI d (by omega) h2 w'
   have cJ:=hC.cellD d.toNat (by omega)
   rw [hv]
   obtain ⟨ta,hta⟩ : ∃ ta,valAt (.slice ca cn cc) d.toNat = ta:=⟨_,rfl⟩
   obtain ⟨x,hx⟩ : ∃ x,C.getD d.toNat 0 = x:=⟨_,rfl⟩
   rw [hta] at iJ cJ
   rw [hx] at cJ ⊢
   replace hL:=Lib.hid hL
   replace hC:=Lib.hid hC
   replace hQ:=Lib.hid hQ
   replace hv:=Lib.hid hv
   replace hta:=Lib.hid hta
   replace hx:=Lib.hid hx
   go_enter Tryz.func54,Tryz.ntmps54
   go_upto_region 1 with fail
   rw [hw0.out]
   go_wp2
   go_ret
   exact ⟨_,rfl,b0,rfl⟩
  ·have d2 : decide (d < (C.length : Int)) = false:=decide_eq_false h2
   obtain ⟨e,he⟩ : ∃ e : Nat,d - (C.length : Int) = (e : Int):=⟨(d - (C.length : Int)).toNat,by omega⟩
   have hwe : IntKind.i64.wrap (d - (C.length : Int)) = (e : Int):=by rw [he]; exact wrapK (by omega) (by omega)
   obtain ⟨g1,g2,g3,g4,g5,g6⟩:=dm9 e Q.length (by omega)
   have hn3 : ¬ Q.length = 0:=by omega
   have hn4 : ((Q.length : Int) == 0) = false:=by rw [beq_eq_false_iff_ne]; omega
   have hlt:=Nat.mod_lt e (show 0 < Q.length by omega)
   have hv : cellP p L C Q i = Q.getD (e % Q.length) 0:=by
    unfold cellP
    rw [hd,if_neg (by omega),if_neg h2,he,← Int.natCast_emod,Int.toNat_natCast]
   obtain ⟨r,hr⟩ : ∃ r,e % Q.length = r:=⟨_,rfl⟩
   rw [hr] at g2 g4 g6 hlt hv
   have iJ:=fun w' => hQ.idx r hlt w'
   have cJ:=hQ.cellD r hlt
   rw [hv]
   obtain ⟨ta,hta⟩ : ∃ ta,valAt (.slice qa qn qc) r = ta:=⟨_,rfl⟩
   obtain ⟨x,hx⟩ : ∃ x,Q.getD r 0 = x:=⟨_,rfl⟩
   rw [hta] at iJ cJ
   rw [hx] at cJ ⊢
   have hS : w0.drew.cell? ⟨w.heap.size,0,none⟩ = some (.int .i64 p) ∧ w0.drew.cell? ⟨w.heap.size,2,none⟩ = some (.slice ca cn cc) ∧ w0.drew.cell? ⟨w.heap.size,3,none⟩ = some (.slice qa qn qc) ∧ w0.drew.cell? ta = some (.int .i64 x):=⟨y0,y2,y3,cJ⟩
   have b1:=b0.drew
   obtain ⟨W,hW⟩ : ∃ W : World,w0.drew = W:=⟨_,rfl⟩
   rw [hW] at hS b1
   replace hW:=Lib.hid hW
   replace hL:=Lib.hid hL
   replace hC:=Lib.hid hC
   replace hQ:=Lib.hid hQ
   replace hv:=Lib.hid hv
   replace hr:=Lib.hid hr
   replace he:=Lib.hid he
   replace hta:=Lib.hid hta
   replace hx:=Lib.hid hx
   go_enter Tryz.func54,Tryz.ntmps54
   go_upto_region 1 with fail
   rw [hw0.out]
   go_upto_region 7 with fail
   refine wp_region_plan (fun w' => w'.cell? ⟨w.heap.size,0,none⟩ = some (.int .i64 p) ∧ w'.cell? ⟨w.heap.size,2,none⟩ = some (.slice ca cn cc) ∧ w'.cell? ⟨w.heap.size,3,none⟩ = some (.slice qa qn qc) ∧ w'.cell? ta = some (.int .i64 x)) 13 [(0,true),(1,true),(2,true),(3,true),(4,true),(5,true),(6,true),(7,true),(8,true),(9,true),(10,true),(11,true),(12,true)] (by kernel_rfl) (by kernel_rfl) ?_
   rw [hW.out]
   refine pqY 44 hS ?_
   refine pqY 45 hS ?_
   refine pqY 46 hS ?_
   refine pqY 47 hS ?_
   refine pqY 48 hS ?_
   refine pqY 49 hS ?_
   refine pqY 50 hS ?_
   refine pqY 51 hS ?_
   refine pqY 52 hS ?_
   refine pqY 53 hS ?_
   refine pqY 54 hS ?_
   refine pqY 55 hS ?_
   refine pqY 56 hS ?_
   refine head0 ?_
   simp only [List.drop_succ_cons,List.drop_zero]
   go_wp2
   refine NoPanic.normal ?_
   go_wp2
   go_ret
   exact ⟨_,rfl,b1,rfl⟩
theorem piece_set {p : Int} {L C Q : List Int} {f : Int} {n j : Nat} (h : j < n) : (pieceP p L C Q f j ++ List.replicate (n - j) 0).set j (cellP p L C Q (f + j)) = pieceP p L C Q f (j + 1) ++ List.replicate (n - (j + 1)) 0:=by
 rw [show n - j = (n - (j + 1)) + 1 by omega,List.replicate_succ,List.set_append_right _ _ (by rw [pieceP_len]; exact Nat.le_refl _),pieceP_len,Nat.sub_self,List.set_cons_zero,pieceP_succ,List.append_assoc]
 rfl
set_option maxHeartbeats 2000000 in
theorem ref_piece (p f : Int) (n : Nat) (la : Option Addr) (ln lc : Nat) (ca : Option Addr) (cn cc : Nat) (qa : Option Addr) (qn qc : Nat) (L C Q : List Int) (w : World) (hL : IntsAt w (.slice la ln lc) L) (hC : IntsAt w (.slice ca cn cc) C) (hQ : IntsAt w (.slice qa qn qc) Q) (l1 : 1 ≤ L.length) (q1 : 1 ≤ Q.length) (lb : L.length ≤ 100000) (cb : C.length ≤ 100000) (qb : Q.length ≤ 100000) (hp : -1000000 ≤ p ∧ p ≤ 1000000) (hf : -1000000 ≤ f ∧ f ≤ 1000000) (hn : n ≤ 100000) :
 Calls Tryz.prog 96 #[.agg #[.int .i64 p,.slice la ln lc,.slice ca cn cc,.slice qa qn qc],.int .i64 f,.int .i64 n] w (Ret1 (fun x w' => OwnI w.heap.size w' x (pieceP p L C Q f n)) w):=by
 have b0:=belowAlloc w (.cells #[.int .i64 p,.slice la ln lc,.slice ca cn cc,.slice qa qn qc] 45)
 have y:=Cells4.alloc w 45 (.int .i64 p) (.slice la ln lc) (.slice ca cn cc) (.slice qa qn qc)
 obtain ⟨w0,hw0⟩ : ∃ W : World,w.alloc (.cells #[.int .i64 p,.slice la ln lc,.slice ca cn cc,.slice qa qn qc] 45) = W:=⟨_,rfl⟩
 rw [hw0] at b0 y
 replace hL:=hL.below b0
 replace hC:=hC.below b0
 replace hQ:=hQ.below b0
 have s0:=b0.size
 obtain ⟨ov,w1,mk,ho,b1⟩:=run_makeI (n : Int) n w0 rfl (by omega)
 obtain ⟨oa,on,oc,rfl⟩:=ho.at.shape
 have h0 : OwnI w0.heap.size w1 (.slice oa on oc) (pieceP p L C Q f 0 ++ List.replicate (n - 0) 0):=ho
 replace hL:=Lib.hid hL
 replace hC:=Lib.hid hC
 replace hQ:=Lib.hid hQ
 replace hw0:=Lib.hid hw0
 replace ho:=Lib.hid ho
 replace h0:=Lib.hid h0
 replace y:=Lib.hid y
 go_enter Tryz.func96,Tryz.ntmps96
 go_upto_region 1 with fail
 rw [hw0.out]
 go_wp2_with fail
 clear mk
 go_loopw [8] (fun iv wr => ∃ j : Nat,j ≤ n ∧ iv = .int .i64 j ∧ OwnI w0.heap.size wr (.slice oa on oc) (pieceP p L C Q f j ++ List.replicate (n - j) 0) ∧ Below w0.heap.size w0 wr) (fun iv _ => n - (intOf iv).toNat)
 case atStart => exact ⟨0,Nat.zero_le _,rfl,h0.out,b1⟩
 case round =>
  obtain ⟨j,hj,rfl,hO,hB⟩:=hrel
  obtain ⟨wo,rfl⟩ : ∃ wo : World,wo = wr:=⟨_,rfl⟩
  by_cases hjn : j < n
  ·have dj : decide ((j : Int) < (n : Int)) = true:=decide_eq_true (by omega)
   obtain ⟨y0,y1,y2,y3⟩:=y.out.below hB
   have call1:=ref_at p (f + (j : Int)) la ln lc ca cn cc qa qn qc L C Q wo (hL.out.below hB) (hC.out.below hB) (hQ.out.below hB) l1 q1 lb cb qb hp (by omega)
   replace call1:=Lib.hid call1
   replace hO:=Lib.hid hO
   go_wp2_with fail
   refine call1.out.mono ?_
   rintro e w2 ⟨_,rfl,b2,rfl⟩
   have hB2:=Below.step hB b2
   have hO2:=hO.out.below b2
   have hjl : j < (pieceP p L C Q f j ++ List.replicate (n - j) 0).length:=by rw [List.length_append,pieceP_len,List.length_replicate]; omega
   have iJ:=fun w' => hO2.at.idx j hjl w'
   have cJ:=hO2.at.cell j hjl
   have fJ:=hO2.frz j hjl
   have kJ:=hO2.blkB j hjl
   have hS:=hO2.set j hjl (cellP p L C Q (f + (j : Int)))
   rw [piece_set hjn] at hS
   have hBS:=hB2.setCell kJ (.int .i64 (cellP p L C Q (f + (j : Int))))
   obtain ⟨ta,hta⟩ : ∃ ta,valAt (.slice oa on oc) j = ta:=⟨_,rfl⟩
   obtain ⟨x,hx⟩ : ∃ x,cellP p L C Q (f + (j : Int)) = x:=⟨_,rfl⟩
   rw [hta] at iJ cJ fJ hS hBS
   rw [hx] at hS hBS ⊢
   replace hS:=Lib.hid hS
   replace hO2:=Lib.hid hO2
   replace hta:=Lib.hid hta
   replace hx:=Lib.hid hx
   clear y0 y1 y2 y3 kJ
   go_wp2
   go_roundw
   case measure => simp [intOf]; omega
   case rel => exact ⟨j + 1,by omega,by go_num,hS.out,hBS⟩
  ·have dj : decide ((j : Int) < (n : Int)) = false:=decide_eq_false (by omega)
   obtain rfl : j = n:=by omega
   have hE : OwnI w.heap.size wo (.slice oa on oc) (pieceP p L C Q f j):=by
    have:=hO.mono s0
    rwa [Nat.sub_self,List.replicate_zero,List.append_nil] at this
   replace hO:=Lib.hid hO
   replace hE:=Lib.hid hE
   have bE:=Below.step b0 hB
   go_wp2
   go_ret
   exact ⟨_,rfl,bE,hE.out⟩
set_option maxHeartbeats 2000000 in
theorem ref_after (p f : Int) (n K R : Nat) (va : Option Addr) (vn vc : Nat) (T : List Int) (la : Option Addr) (ln lc : Nat) (ca : Option Addr) (cn cc : Nat) (qa : Option Addr) (qn qc : Nat) (L C Q : List Int) (w : World) (h : IntsAt w (.slice va vn vc) T) (hr : RuleOk K R T) (hL : IntsAt w (.slice la ln lc) L) (hC : IntsAt w (.slice ca cn cc) C) (hQ : IntsAt w (.slice qa qn qc) Q) (l1 : 1 ≤ L.length) (q1 : 1 ≤ Q.length) (lb : L.length ≤ 100000) (cb : C.length ≤ 100000) (qb : Q.length ≤ 100000) (hp : -1000000 ≤ p ∧ p ≤ 1000000) (hf : -900000 ≤ f ∧ f ≤ 900000) (hn : n ≤ 90000) (sL : Syms K L) (sC : Syms K C) (sQ : Syms K Q) :
 Calls Tryz.prog 53 #[.agg #[.int .i64 K,.int .i64 R,.slice va vn vc],.agg #[.int .i64 p,.slice la ln lc,.slice ca cn cc,.slice qa qn qc],.int .i64 f,.int .i64 n] w (Ret1 (fun x w' => OwnI w.heap.size w' x (imgP K R T (pieceP p L C Q (f - R) (n + 2 * R)))) w):=by
 have hR3:=hr.r3
 have b0:=Below.step (belowAlloc w (.cells #[.int .i64 K,.int .i64 R,.slice va vn vc] 24)) (belowAlloc _ (.cells #[.int .i64 p,.slice la ln lc,.slice ca cn cc,.slice qa qn qc] 45))
 have q : Box3 ((w.alloc (.cells #[.int .i64 K,.int .i64 R,.slice va vn vc] 24)).alloc (.cells #[.int .i64 p,.slice la ln lc,.slice ca cn cc,.slice qa qn qc] 45)) w.heap.size (.int .i64 K) (.int .i64 R) (.slice va vn vc):=by simp [Box3,go_sem]
 have y:=Cells4.alloc (w.alloc (.cells #[.int .i64 K,.int .i64 R,.slice va vn vc] 24)) 45 (.int .i64 p) (.slice la ln lc) (.slice ca cn cc) (.slice qa qn qc)
 rw [show (w.alloc (.cells #[.int .i64 K,.int .i64 R,.slice va vn vc] 24)).heap.size = w.heap.size + 1 by simp] at y
 obtain ⟨w0,hw0⟩ : ∃ W : World,(w.alloc (.cells #[.int .i64 K,.int .i64 R,.slice va vn vc] 24)).alloc (.cells #[.int .i64 p,.slice la ln lc,.slice ca cn cc,.slice qa qn qc] 45) = W:=⟨_,rfl⟩
 rw [hw0] at b0 y q
 obtain ⟨W,hW⟩ : ∃ W : World,w0.drew = W:=⟨_,rfl⟩
 have bW : Below w.heap.size w W:=by rw [← hW]; exact b0.drew
 have qW : Box3 W w.heap.size (.int .i64 K) (.int .i64 R) (.slice va vn vc):=by rw [← hW]; exact q
 have yW : Cells4 W (w.heap.size + 1) (.int .i64 p) (.slice la ln lc) (.slice ca cn cc) (.slice qa qn qc):=by rw [← hW]; exact ⟨y.c0,y.c1,y.c2,y.c3⟩
 have sW:=bW.size
 replace h:=h.below bW
 have call1:=ref_piece p (f - (R : Int)) (n + 2 * R) la ln lc ca cn cc qa qn qc L C Q W (hL.below bW) (hC.below bW) (hQ.below bW) l1 q1 lb cb qb hp (by omega) (by omega)
 have hsy : Syms K (pieceP p L C Q (f - (R : Int)) (n + 2 * R)):=pieceP_syms sL sC sQ l1 q1 _ _
 have hlen:=pieceP_len p L C Q (f - (R : Int)) (n + 2 * R)
 obtain ⟨zs,hzs⟩ : ∃ zs,pieceP p L C Q (f - (R : Int)) (n + 2 * R) = zs:=⟨_,rfl⟩
 rw [hzs] at call1 hsy hlen ⊢
 have hw1 : IntKind.i64.wrap (f - (R : Int)) = f - (R : Int):=wrapK (by omega) (by omega)
 obtain ⟨m,hm⟩ : ∃ m,2 * R = m:=⟨_,rfl⟩
 have hw2 : IntKind.i64.wrap (2 * (R : Int)) = (m : Int):=by rw [show 2 * (R : Int) = (m : Int) by omega]; exact wrapK (by omega) (by omega)
 obtain ⟨k,hk⟩ : ∃ k,n + m = k:=⟨_,rfl⟩
 have hk9 : k ≤ 100000:=by omega
 have hk2 : (n : Int) + (m : Int) = (k : Int):=by omega
 have hw3 : IntKind.i64.wrap (k : Int) = (k : Int):=wrapK (by omega) (by omega)
 rw [hm,hk] at call1 hlen
 have hS : W.cell? ⟨w.heap.size,0,none⟩ = some (.int .i64 K) ∧ W.cell? ⟨w.heap.size,1,none⟩ = some (.int .i64 R) ∧ W.cell? ⟨w.heap.size,2,none⟩ = some (.slice va vn vc) ∧ W.cell? ⟨w.heap.size + 1,0,none⟩ = some (.int .i64 p) ∧ W.cell? ⟨w.heap.size + 1,1,none⟩ = some (.slice la ln lc) ∧ W.cell? ⟨w.heap.size + 1,2,none⟩ = some (.slice ca cn cc) ∧ W.cell? ⟨w.heap.size + 1,3,none⟩ = some (.slice qa qn qc):=⟨qW.1.1,qW.1.2.1,qW.1.2.2,yW.c0,yW.c1,yW.c2,yW.c3⟩
 replace hzs:=Lib.hid hzs
 replace hm:=Lib.hid hm
 replace hk:=Lib.hid hk
 replace hw0:=Lib.hid hw0
 replace hW:=Lib.hid hW
 replace h:=Lib.hid h
 replace hr:=Lib.hid hr
 replace hsy:=Lib.hid hsy
 replace hlen:=Lib.hid hlen
 replace call1:=Lib.hid call1
 replace hL:=Lib.hid hL
 replace hC:=Lib.hid hC
 replace hQ:=Lib.hid hQ
 replace qW:=Lib.hid qW
 replace yW:=Lib.hid yW
 clear q y
 go_enter Tryz.func53,Tryz.ntmps53
 go_upto_region 1 with fail
 rw [hw0.out]
 refine wp_region_plan (fun w' => w'.cell? ⟨w.heap.size,0,none⟩ = some (.int .i64 K) ∧ w'.cell? ⟨w.heap.size,1,none⟩ = some (.int .i64 R) ∧ w'.cell? ⟨w.heap.size,2,none⟩ = some (.slice va vn vc) ∧ w'.cell? ⟨w.heap.size + 1,0,none⟩ = some (.int .i64 p) ∧ w'.cell? ⟨w.heap.size + 1,1,none⟩ = some (.slice la ln lc) ∧ w'.cell? ⟨w.heap.size + 1,2,none⟩ = some (.slice ca cn cc) ∧ w'.cell? ⟨w.heap.size + 1,3,none⟩ = some (.slice qa qn qc)) 13 [(0,true),(1,true),(2,true),(3,true),(4,true),(5,true),(6,true),(7,true),(8,true),(9,true),(10,true),(11,false),(12,false)] (by kernel_rfl) (by kernel_rfl) ?_
 rw [hW.out]
 refine pqY 9 hS ?_
 refine pqY 10 hS ?_
 refine pqY 11 hS ?_
 refine pqY 12 hS ?_
 refine pqY 13 hS ?_
 refine pqY 14 hS ?_
 refine pqY 15 hS ?_
 refine pqY 16 hS ?_
 refine pqY 17 hS ?_
 refine pqY 18 hS ?_
 refine pqY 19 hS ?_
 refine headC rfl (fun KK hK => ?_)
 go_simp
 refine call1.out.mono ?_
 rintro e w2 ⟨x,rfl,b2,hx⟩
 have qW2:=qW.out.below b2
 have yW2:=yW.out.below b2
 have hS2 : w2.cell? ⟨w.heap.size,0,none⟩ = some (.int .i64 K) ∧ w2.cell? ⟨w.heap.size,1,none⟩ = some (.int .i64 R) ∧ w2.cell? ⟨w.heap.size,2,none⟩ = some (.slice va vn vc) ∧ w2.cell? ⟨w.heap.size + 1,0,none⟩ = some (.int .i64 p) ∧ w2.cell? ⟨w.heap.size + 1,1,none⟩ = some (.slice la ln lc) ∧ w2.cell? ⟨w.heap.size + 1,2,none⟩ = some (.slice ca cn cc) ∧ w2.cell? ⟨w.heap.size + 1,3,none⟩ = some (.slice qa qn qc):=⟨qW2.1.1,qW2.1.2.1,qW2.1.2.2,yW2.c0,yW2.c1,yW2.c2,yW2.c3⟩
 obtain ⟨xa,xn,xc,rfl⟩:=hx.at.shape
 refine hK _ _ hS2 ?_
 clear hK KK
 refine headC rfl (fun KK hK => ?_)
 go_simp
 refine (ref_image K R va vn vc T _ zs w2 (h.out.below b2) hr.out hx.at hsy.out (by rw [hlen.out]; exact hk9)).mono ?_
 rintro e w3 ⟨z,rfl,b3,hz⟩
 have qW3:=qW2.below b3
 have yW3:=yW2.below b3
 have hS3 : w3.cell? ⟨w.heap.size,0,none⟩ = some (.int .i64 K) ∧ w3.cell? ⟨w.heap.size,1,none⟩ = some (.int .i64 R) ∧ w3.cell? ⟨w.heap.size,2,none⟩ = some (.slice va vn vc) ∧ w3.cell? ⟨w.heap.size + 1,0,none⟩ = some (.int .i64 p) ∧ w3.cell? ⟨w.heap.size + 1,1,none⟩ = some (.slice la ln lc) ∧ w3.cell? ⟨w.heap.size + 1,2,none⟩ = some (.slice ca cn cc) ∧ w3.cell? ⟨w.heap.size + 1,3,none⟩ = some (.slice qa qn qc):=⟨qW3.1.1,qW3.1.2.1,qW3.1.2.2,yW3.c0,yW3.c1,yW3.c2,yW3.c3⟩
 obtain ⟨za,zn,zc,rfl⟩:=hz.at.shape
 have sE : w.heap.size ≤ w2.heap.size:=Nat.le_trans sW b2.size
 have hzE:=hz.mono sE
 have bE:=Below.step bW (Below.step b2 b3)
 replace hx:=Lib.hid hx
 replace hz:=Lib.hid hz
 replace hzE:=Lib.hid hzE
 refine hK _ _ hS3 ?_
 clear hK KK
 refine head0 ?_
 simp only [List.drop_succ_cons,List.drop_zero]
 clear hS hS2 hS3
 go_wp2
 refine NoPanic.normal ?_
 go_wp2
 go_ret
 exact ⟨_,rfl,bE,hzE.out⟩
set_option maxHeartbeats 4000000 in
theorem ref_rimageO (p : Int) (K R : Nat) (va : Option Addr) (vn vc : Nat) (T : List Int) (la : Option Addr) (ln lc : Nat) (ca : Option Addr) (cn cc : Nat) (qa : Option Addr) (qn qc : Nat) (L C Q : List Int) (w : World) (h : IntsAt w (.slice va vn vc) T) (hr : RuleOk K R T) (hL : IntsAt w (.slice la ln lc) L) (hC : IntsAt w (.slice ca cn cc) C) (hQ : IntsAt w (.slice qa qn qc) Q) (l1 : 1 ≤ L.length) (q1 : 1 ≤ Q.length) (lb : L.length ≤ 100000) (cb : C.length ≤ 100000) (qb : Q.length ≤ 100000) (hp : -1000000 ≤ p ∧ p ≤ 1000000) (sL : Syms K L) (sC : Syms K C) (sQ : Syms K Q) (lb' : L.length ≤ 80000) (cb' : C.length ≤ 80000) (qb' : Q.length ≤ 80000) (hp' : -500000 ≤ p ∧ p ≤ 500000) :
 Calls Tryz.prog 25 #[.agg #[.int .i64 K,.int .i64 R,.slice va vn vc],.agg #[.int .i64 p,.slice la ln lc,.slice ca cn cc,.slice qa qn qc]] w (Ret1 (fun x w' => ∃ l1 l2 l3 c1 c2 c3 q1 q2 q3,x = .agg #[.int .i64 (p - R),.slice l1 l2 l3,.slice c1 c2 c3,.slice q1 q2 q3] ∧ OwnI w.heap.size w' (.slice l1 l2 l3) (imgP K R T (pieceP p L C Q (p - R - L.length - R) (L.length + 2 * R))) ∧ OwnI w.heap.size w' (.slice c1 c2 c3) (imgP K R T (pieceP p L C Q (p - R - R) (C.length + 2 * R + 2 * R))) ∧ OwnI w.heap.size w' (.slice q1 q2 q3) (imgP K R T (pieceP p L C Q (p - R + (C.length + 2 * R) - R) (Q.length + 2 * R)))) w):=by
 have hR3:=hr.r3
 have b0:=Below.step (Below.step (belowAlloc w (.cells #[.int .i64 K,.int .i64 R,.slice va vn vc] 24)) (belowAlloc _ (.cells #[.int .i64 p,.slice la ln lc,.slice ca cn cc,.slice qa qn qc] 45))) (belowAlloc _ (.cells #[.int .i64 0,.slice none 0 0,.slice none 0 0,.slice none 0 0] 45))
 have q : Box3 (((w.alloc (.cells #[.int .i64 K,.int .i64 R,.slice va vn vc] 24)).alloc (.cells #[.int .i64 p,.slice la ln lc,.slice ca cn cc,.slice qa qn qc] 45)).alloc (.cells #[.int .i64 0,.slice none 0 0,.slice none 0 0,.slice none 0 0] 45)) w.heap.size (.int .i64 K) (.int .i64 R) (.slice va vn vc):=by simp [Box3,go_sem]
 have y : Cells4 (((w.alloc (.cells #[.int .i64 K,.int .i64 R,.slice va vn vc] 24)).alloc (.cells #[.int .i64 p,.slice la ln lc,.slice ca cn cc,.slice qa qn qc] 45)).alloc (.cells #[.int .i64 0,.slice none 0 0,.slice none 0 0,.slice none 0 0] 45)) (w.heap.size + 1) (.int .i64 p) (.slice la ln lc) (.slice ca cn cc) (.slice qa qn qc):=by
  refine ⟨?_,?_,?_,?_⟩ <;> simp [go_sem]
 have z : Cells4 (((w.alloc (.cells #[.int .i64 K,.int .i64 R,.slice va vn vc] 24)).alloc (.cells #[.int .i64 p,.slice la ln lc,.slice ca cn cc,.slice qa qn qc] 45)).alloc (.cells #[.int .i64 0,.slice none 0 0,.slice none 0 0,.slice none 0 0] 45)) (w.heap.size + 2) (.int .i64 0) (.slice none 0 0) (.slice none 0 0) (.slice none 0 0):=by
  refine ⟨?_,?_,?_,?_⟩ <;> simp [go_sem]
 have zf : ∀ i,(((w.alloc (.cells #[.int .i64 K,.int .i64 R,.slice va vn vc] 24)).alloc (.cells #[.int .i64 p,.slice la ln lc,.slice ca cn cc,.slice qa qn qc] 45)).alloc (.cells #[.int .i64 0,.slice none 0 0,.slice none 0 0,.slice none 0 0] 45)).frozen? ⟨w.heap.size + 2,i,none⟩ = false:=fun i => by simp [go_sem]
 have s0 : (((w.alloc (.cells #[.int .i64 K,.int .i64 R,.slice va vn vc] 24)).alloc (.cells #[.int .i64 p,.slice la ln lc,.slice ca cn cc,.slice qa qn qc] 45)).alloc (.cells #[.int .i64 0,.slice none 0 0,.slice none 0 0,.slice none 0 0] 45)).heap.size = w.heap.size + 3:=by simp
 obtain ⟨w0,hw0⟩ : ∃ W : World,(((w.alloc (.cells #[.int .i64 K,.int .i64 R,.slice va vn vc] 24)).alloc (.cells #[.int .i64 p,.slice la ln lc,.slice ca cn cc,.slice qa qn qc] 45)).alloc (.cells #[.int .i64 0,.slice none 0 0,.slice none 0 0,.slice none 0 0] 45)) = W:=⟨_,rfl⟩
 rw [hw0] at b0 y q z zf s0
 obtain ⟨W,hW⟩ : ∃ W : World,w0.drew = W:=⟨_,rfl⟩
 have bW : Below w.heap.size w W:=by rw [← hW]; exact b0.drew
 have qW : Box3 W w.heap.size (.int .i64 K) (.int .i64 R) (.slice va vn vc):=by rw [← hW]; exact q
 have yW : Cells4 W (w.heap.size + 1) (.int .i64 p) (.slice la ln lc) (.slice ca cn cc) (.slice qa qn qc):=by rw [← hW]; exact ⟨y.c0,y.c1,y.c2,y.c3⟩
 have zW : Cells4 W (w.heap.size + 2) (.int .i64 0) (.slice none 0 0) (.slice none 0 0) (.slice none 0 0):=by rw [← hW]; exact ⟨z.c0,z.c1,z.c2,z.c3⟩
 have zfW : ∀ i,W.frozen? ⟨w.heap.size + 2,i,none⟩ = false:=fun i => by rw [← hW]; exact zf i
 have sW : W.heap.size = w.heap.size + 3:=by rw [← hW]; exact s0
 replace h:=h.below bW
 replace hL:=hL.below bW
 replace hC:=hC.below bW
 replace hQ:=hQ.below bW
 have nL:=hL.len
 have nC:=hC.len
 have nQ:=hQ.len
 obtain ⟨m,hm⟩ : ∃ m,2 * R = m:=⟨_,rfl⟩
 obtain ⟨k,hk⟩ : ∃ k,C.length + m = k:=⟨_,rfl⟩
 obtain ⟨t,ht⟩ : ∃ t,p - (R : Int) = t:=⟨_,rfl⟩
 have calls:=fun (f : Int) (n : Nat) (w' : World) (h' : IntsAt w' (.slice va vn vc) T) (hL' : IntsAt w' (.slice la ln lc) L) (hC' : IntsAt w' (.slice ca cn cc) C) (hQ' : IntsAt w' (.slice qa qn qc) Q) (hf : -900000 ≤ f ∧ f ≤ 900000) (hn : n ≤ 90000) => ref_after p f n K R va vn vc T la ln lc ca cn cc qa qn qc L C Q w' h' hr hL' hC' hQ' l1 q1 lb cb qb hp hf hn sL sC sQ
 rw [hm] at calls ⊢
 have hk2 : ((C.length : Int) + 2 * (R : Int)) = (k : Int):=by omega
 rw [ht,hk,hk2]
 obtain ⟨u,hu⟩ : ∃ u,t - (L.length : Int) = u:=⟨_,rfl⟩
 obtain ⟨s,hs⟩ : ∃ s,t + (k : Int) = s:=⟨_,rfl⟩
 rw [hu,hs]
 have hw2 : wrap64 (2 * (R : Int)) = (m : Int):=by rw [show 2 * (R : Int) = (m : Int) by omega]; exact wrap64_id (by omega) (by omega)
 have hw3 : (C.length : Int) + (m : Int) = (k : Int):=by omega
 have hw4 : IntKind.i64.wrap (t - (L.length : Int)) = u:=by rw [hu]; exact wrapK (by omega) (by omega)
 have hw5 : IntKind.i64.wrap (t + (k : Int)) = s:=by rw [hs]; exact wrapK (by omega) (by omega)
 have hS : W.cell? ⟨w.heap.size,0,none⟩ = some (.int .i64 K) ∧ W.cell? ⟨w.heap.size,1,none⟩ = some (.int .i64 R) ∧ W.cell? ⟨w.heap.size,2,none⟩ = some (.slice va vn vc) ∧ W.cell? ⟨w.heap.size + 1,0,none⟩ = some (.int .i64 p) ∧ W.cell? ⟨w.heap.size + 1,1,none⟩ = some (.slice la ln lc) ∧ W.cell? ⟨w.heap.size + 1,2,none⟩ = some (.slice ca cn cc) ∧ W.cell? ⟨w.heap.size + 1,3,none⟩ = some (.slice qa qn qc):=⟨qW.1.1,qW.1.2.1,qW.1.2.2,yW.c0,yW.c1,yW.c2,yW.c3⟩
 have keep : ∀ W' : World,Below W.heap.size W W' → W'.cell? ⟨w.heap.size,0,none⟩ = some (.int .i64 K) ∧ W'.cell? ⟨w.heap.size,1,none⟩ = some (.int .i64 R) ∧ W'.cell? ⟨w.heap.size,2,none⟩ = some (.slice va vn vc) ∧ W'.cell? ⟨w.heap.size + 1,0,none⟩ = some (.int .i64 p) ∧ W'.cell? ⟨w.heap.size + 1,1,none⟩ = some (.slice la ln lc) ∧ W'.cell? ⟨w.heap.size + 1,2,none⟩ = some (.slice ca cn cc) ∧ W'.cell? ⟨w.heap.size + 1,3,none⟩ = some (.slice qa qn qc):=fun W' hb => ⟨(qW.below hb).1.1,(qW.below hb).1.2.1,(qW.below hb).1.2.2,(yW.below hb).c0,(yW.below hb).c1,(yW.below hb).c2,(yW.below hb).c3⟩
 have call1:=calls u L.length W h hL hC hQ (by omega) (by omega)
 have call2:=fun (w' : World) (hb : Below W.heap.size W w') => calls t k w' (h.below hb) (hL.below hb) (hC.below hb) (hQ.below hb) (by omega) (by omega)
 have call3:=fun (w' : World) (hb : Below W.heap.size W w') => calls s Q.length w' (h.below hb) (hL.below hb) (hC.below hb) (hQ.below hb) (by omega) (by omega)
 obtain ⟨A1,hA1⟩ : ∃ z,imgP K R T (pieceP p L C Q (u - (R : Int)) (L.length + m)) = z:=⟨_,rfl⟩
 obtain ⟨A2,hA2⟩ : ∃ z,imgP K R T (pieceP p L C Q (t - (R : Int)) (k + m)) = z:=⟨_,rfl⟩
 obtain ⟨A3,hA3⟩ : ∃ z,imgP K R T (pieceP p L C Q (s - (R : Int)) (Q.length + m)) = z:=⟨_,rfl⟩
 rw [hA1] at call1 ⊢
 rw [hA2] at call2 ⊢
 rw [hA3] at call3 ⊢
 replace hA1:=Lib.hid hA1
 replace hA2:=Lib.hid hA2
 replace hA3:=Lib.hid hA3
 replace hm:=Lib.hid hm
 replace hk:=Lib.hid hk
 replace hu:=Lib.hid hu
 replace hs:=Lib.hid hs
 have ht2:=Lib.hid ht
 replace hw0:=Lib.hid hw0
 replace hW:=Lib.hid hW
 replace h:=Lib.hid h
 replace hr:=Lib.hid hr
 replace hL:=Lib.hid hL
 replace hC:=Lib.hid hC
 replace hQ:=Lib.hid hQ
 replace call1:=Lib.hid call1
 replace call2:=Lib.hid call2
 replace call3:=Lib.hid call3
 replace keep:=Lib.hid keep
 replace qW:=Lib.hid qW
 replace yW:=Lib.hid yW
 replace zW:=Lib.hid zW
 replace zfW:=Lib.hid zfW
 obtain ⟨⟨z0,z1,z2⟩,-,-,-⟩:=q
 obtain ⟨y0,y1,y2,y3⟩:=y
 clear calls z zf z0 z2 y1 y3
 go_enter Tryz.func25,Tryz.ntmps25
 go_upto_region 1 with fail
 rw [hw0.out]
 go_upto_region 3 with fail
 refine wp_region_plan (fun w' => w'.cell? ⟨w.heap.size,0,none⟩ = some (.int .i64 K) ∧ w'.cell? ⟨w.heap.size,1,none⟩ = some (.int .i64 R) ∧ w'.cell? ⟨w.heap.size,2,none⟩ = some (.slice va vn vc) ∧ w'.cell? ⟨w.heap.size + 1,0,none⟩ = some (.int .i64 p) ∧ w'.cell? ⟨w.heap.size + 1,1,none⟩ = some (.slice la ln lc) ∧ w'.cell? ⟨w.heap.size + 1,2,none⟩ = some (.slice ca cn cc) ∧ w'.cell? ⟨w.heap.size + 1,3,none⟩ = some (.slice qa qn qc)) 27 [(0,true),(1,true),(2,true),(3,true),(4,true),(5,true),(6,true),(7,true),(8,true),(9,true),(10,true),(12,true),(13,true),(14,true),(15,true),(17,true),(18,true),(19,true),(20,true),(21,true),(22,true),(23,true),(24,true),(11,false),(16,false),(25,false),(26,true)] (by kernel_rfl) (by kernel_rfl) ?_
 rw [hW.out]
 clear z1 y0 y2
 refine pqY 19 hS ?_
 refine pqY 20 hS ?_
 refine pqY 21 hS ?_
 refine pqY 22 hS ?_
 refine pqY 23 hS ?_
 refine pqY 24 hS ?_
 refine pqY 25 hS ?_
 refine pqY 26 hS ?_
 refine pqY 27 hS ?_
 refine pqY 28 hS ?_
 refine pqY 29 hS ?_
 refine pqY 31 hS ?_
 refine pqY 32 hS ?_
 refine pqY 33 hS ?_
 refine pqY 34 hS ?_
 refine pqY 36 hS ?_
 refine pqY 37 hS ?_
 refine pqY 38 hS ?_
 refine pqY 39 hS ?_
 refine pqY 40 hS ?_
 refine pqY 41 hS ?_
 refine pqY 42 hS ?_
 refine pqY 43 hS ?_
 refine headC rfl (fun KK hK => ?_)
 go_simp
 refine call1.out.mono ?_
 rintro e w2 ⟨x1,rfl,b2,hx1⟩
 have hS2:=keep.out w2 b2
 obtain ⟨x1a,x1n,x1c,rfl⟩:=hx1.at.shape
 replace hx1:=Lib.hid hx1
 refine hK _ _ hS2 ?_
 clear hK KK hS
 refine headC rfl (fun KK hK => ?_)
 go_simp
 refine (call2.out w2 b2).mono ?_
 rintro e w3 ⟨x2,rfl,b3,hx2⟩
 have c3:=Below.step b2 b3
 have hS3:=keep.out w3 c3
 obtain ⟨x2a,x2n,x2c,rfl⟩:=hx2.at.shape
 replace hx2:=Lib.hid hx2
 refine hK _ _ hS3 ?_
 clear hK KK hS2
 refine headC rfl (fun KK hK => ?_)
 go_simp
 refine (call3.out w3 c3).mono ?_
 rintro e w4 ⟨x3,rfl,b4,hx3⟩
 have c4:=Below.step c3 b4
 have hS4:=keep.out w4 c4
 obtain ⟨x3a,x3n,x3c,rfl⟩:=hx3.at.shape
 refine hK _ _ hS4 ?_
 clear hK KK hS3
 refine pqY 45 hS4 ?_
 refine head0 ?_
 simp only [List.drop_succ_cons,List.drop_zero]
 clear hS4
 obtain ⟨v0,v1,v2,v3⟩:=zW.out.below c4
 have fz : ∀ i,w4.frozen? ⟨w.heap.size + 2,i,none⟩ = false:=fun i => by
  rw [c4.frozen (by show w.heap.size + 2 < W.heap.size; omega)]; exact zfW.out i
 have f0:=fz 0
 have f1:=fz 1
 have f2:=fz 2
 have f3:=fz 3
 have o1:=(hx1.out.below b3).below b4
 have o2:=hx2.out.below b4
 have k2:=b2.size
 have k3:=b3.size
 have fin : ∀ (B : Nat) (v : Value) (xs : List Int),w.heap.size + 2 < B → OwnI B w4 v xs → OwnI w.heap.size ((((w4.setCell ⟨w.heap.size + 2,0,none⟩ (.int .i64 t)).setCell ⟨w.heap.size + 2,1,none⟩ (.slice x1a x1n x1c)).setCell ⟨w.heap.size + 2,2,none⟩ (.slice x2a x2n x2c)).setCell ⟨w.heap.size + 2,3,none⟩ (.slice x3a x3n x3c)) v xs:=fun B v xs hB ho =>
  ((((ho.setBelowBase (a:=⟨w.heap.size + 2,0,none⟩) hB _).setBelowBase (a:=⟨w.heap.size + 2,1,none⟩) hB _).setBelowBase (a:=⟨w.heap.size + 2,2,none⟩) hB _).setBelowBase (a:=⟨w.heap.size + 2,3,none⟩) hB _).mono (by omega)
 have e1:=fin _ _ _ (by omega) o1
 have e2:=fin _ _ _ (by omega) o2
 have e3:=fin _ _ _ (by omega) hx3
 have bE:=Below.all4 (g:=w.heap.size + 2) (Below.step bW c4) (by omega) (.int .i64 t) (.slice x1a x1n x1c) (.slice x2a x2n x2c) (.slice x3a x3n x3c)
 replace e1:=Lib.hid e1
 replace e2:=Lib.hid e2
 replace e3:=Lib.hid e3
 replace o1:=Lib.hid o1
 replace o2:=Lib.hid o2
 replace hx3:=Lib.hid hx3
 replace fin:=Lib.hid fin
 replace fz:=Lib.hid fz
 go_wp2
 refine NoPanic.normal ?_
 go_wp2
 (try simp only [Exit.inBlock,Exit.then])
 exact bodyPost_ret (v:=.agg #[.int .i64 t,.slice x1a x1n x1c,.slice x2a x2n x2c,.slice x3a x3n x3c]) (by simp [results,Tryz.results25,go_sem,v0,v1,v2,v3]) rfl ⟨_,rfl,bE,_,_,_,_,_,_,_,_,_,rfl,e1.out,e2.out,e3.out⟩
end Go.Proofs.YtjiadfblphdchaaGreatDoor
namespace Go.Proofs.YtjiadfblphdchaaGreatDoor
open Go.RowKit
set_option maxRecDepth 100000
/-- What edenref07.Equal tells of any two rows. -/
def EqPost2 (p : Int) (L C Q : List Int) (p' : Int) (L' C' Q' : List Int) (x : Value) : Prop:=∃ b : Bool,x = .bool b ∧ (b = true ↔ ∀ i : Int,min p p' - 2 * L.length - 2 * L'.length ≤ i → i < max (p + C.length) (p' + C'.length) + 2 * Q.length + 2 * Q'.length → cellP p L C Q i = cellP p' L' C' Q' i)
theorem eqPost2_of {p m M : Int} {L C Q : List Int} {p' : Int} {L' C' Q' : List Int} (hm : min p p' = m) (hM : max (p + (C.length : Int)) (p' + (C'.length : Int)) = M) (b : Bool) (h : b = true ↔ ∀ i : Int,m - 2 * L.length - 2 * L'.length ≤ i → i < M + 2 * Q.length + 2 * Q'.length → cellP p L C Q i = cellP p' L' C' Q' i) : EqPost2 p L C Q p' L' C' Q' (.bool b):=by
 subst hm; subst hM; exact ⟨b,rfl,h⟩
set_option maxHeartbeats 4000000 in
theorem ref_equal2 (p p' : Int) (la : Option Addr) (ln lc : Nat) (ca : Option Addr) (cn cc : Nat) (qa : Option Addr) (qn qc : Nat) (L C Q : List Int) (la' : Option Addr) (ln' lc' : Nat) (ca' : Option Addr) (cn' cc' : Nat) (qa' : Option Addr) (qn' qc' : Nat) (L' C' Q' : List Int) (w : World) (hL : IntsAt w (.slice la ln lc) L) (hC : IntsAt w (.slice ca cn cc) C) (hQ : IntsAt w (.slice qa qn qc) Q) (hL' : IntsAt w (.slice la' ln' lc') L') (hC' : IntsAt w (.slice ca' cn' cc') C') (hQ' : IntsAt w (.slice qa' qn' qc') Q') (l1 : 1 ≤ L.length) (q1 : 1 ≤ Q.length) (lb : L.length ≤ 100000) (cb : C.length ≤ 100000) (qb : Q.length ≤ 100000) (hp : -1000000 ≤ p ∧ p ≤ 1000000) (l1' : 1 ≤ L'.length) (q1' : 1 ≤ Q'.length) (lb' : L'.length ≤ 100000) (cb' : C'.length ≤ 100000) (qb' : Q'.length ≤ 100000) (hp' : -1000000 ≤ p' ∧ p' ≤ 1000000) :
 Calls Tryz.prog 26 #[.agg #[.int .i64 p,.slice la ln lc,.slice ca cn cc,.slice qa qn qc],.agg #[.int .i64 p',.slice la' ln' lc',.slice ca' cn' cc',.slice qa' qn' qc']] w (Ret1 (fun x _ => EqPost2 p L C Q p' L' C' Q' x) w):=by
 have b0:=Below.step (belowAlloc w (.cells #[.int .i64 p,.slice la ln lc,.slice ca cn cc,.slice qa qn qc] 45)) (belowAlloc _ (.cells #[.int .i64 p',.slice la' ln' lc',.slice ca' cn' cc',.slice qa' qn' qc'] 45))
 have y : Cells4 ((w.alloc (.cells #[.int .i64 p,.slice la ln lc,.slice ca cn cc,.slice qa qn qc] 45)).alloc (.cells #[.int .i64 p',.slice la' ln' lc',.slice ca' cn' cc',.slice qa' qn' qc'] 45)) (w.heap.size) (.int .i64 p) (.slice la ln lc) (.slice ca cn cc) (.slice qa qn qc):=by
  refine ⟨?_,?_,?_,?_⟩ <;> simp [go_sem]
 have z : Cells4 ((w.alloc (.cells #[.int .i64 p,.slice la ln lc,.slice ca cn cc,.slice qa qn qc] 45)).alloc (.cells #[.int .i64 p',.slice la' ln' lc',.slice ca' cn' cc',.slice qa' qn' qc'] 45)) (w.heap.size + 1) (.int .i64 p') (.slice la' ln' lc') (.slice ca' cn' cc') (.slice qa' qn' qc'):=by
  refine ⟨?_,?_,?_,?_⟩ <;> simp [go_sem]
 obtain ⟨w0,hw0⟩ : ∃ W : World,(w.alloc (.cells #[.int .i64 p,.slice la ln lc,.slice ca cn cc,.slice qa qn qc] 45)).alloc (.cells #[.int .i64 p',.slice la' ln' lc',.slice ca' cn' cc',.slice qa' qn' qc'] 45) = W:=⟨_,rfl⟩
 rw [hw0] at b0 y z
 replace hL:=hL.below b0
 replace hC:=hC.below b0
 replace hQ:=hQ.below b0
 replace hL':=hL'.below b0
 replace hC':=hC'.below b0
 replace hQ':=hQ'.below b0
 have nL:=hL.len
 have nC:=hC.len
 have nQ:=hQ.len
 have nL':=hL'.len
 have nC':=hC'.len
 have nQ':=hQ'.len
 obtain ⟨m,mm⟩ : ∃ m,min p p' = m:=⟨_,rfl⟩
 obtain ⟨M,xx⟩ : ∃ m,max (p + (C.length : Int)) (p' + (C'.length : Int)) = m:=⟨_,rfl⟩
 have hm1 : -1000000 ≤ m ∧ m ≤ 1000000:=by omega
 have hM1 : -1000000 ≤ M ∧ M ≤ 1100000:=by omega
 have hmM : m ≤ M:=by omega
 have callA:=fun (i : Int) (w' : World) (hb : Below w0.heap.size w0 w') (hi : -10000000 ≤ i ∧ i ≤ 10000000) => ref_at p i la ln lc ca cn cc qa qn qc L C Q w' (hL.below hb) (hC.below hb) (hQ.below hb) l1 q1 lb cb qb hp hi
 have callB:=fun (i : Int) (w' : World) (hb : Below w0.heap.size w0 w') (hi : -10000000 ≤ i ∧ i ≤ 10000000) => ref_at p' i la' ln' lc' ca' cn' cc' qa' qn' qc' L' C' Q' w' (hL'.below hb) (hC'.below hb) (hQ'.below hb) l1' q1' lb' cb' qb' hp' hi
 have keep : ∀ W' : World,Below w0.heap.size w0 W' → W'.cell? ⟨w.heap.size,0,none⟩ = some (.int .i64 p) ∧ W'.cell? ⟨w.heap.size,1,none⟩ = some (.slice la ln lc) ∧ W'.cell? ⟨w.heap.size,2,none⟩ = some (.slice ca cn cc) ∧ W'.cell? ⟨w.heap.size,3,none⟩ = some (.slice qa qn qc) ∧ W'.cell? ⟨w.heap.size + 1,0,none⟩ = some (.int .i64 p') ∧ W'.cell? ⟨w.heap.size + 1,1,none⟩ = some (.slice la' ln' lc') ∧ W'.cell? ⟨w.heap.size + 1,2,none⟩ = some (.slice ca' cn' cc') ∧ W'.cell? ⟨w.heap.size + 1,3,none⟩ = some (.slice qa' qn' qc'):=fun W' hb => ⟨(y.below hb).c0,(y.below hb).c1,(y.below hb).c2,(y.below hb).c3,(z.below hb).c0,(z.below hb).c1,(z.below hb).c2,(z.below hb).c3⟩
 obtain ⟨y0,y1,y2,y3⟩:=y
 obtain ⟨z0,z1,z2,z3⟩:=z
 replace hL:=Lib.hid hL
 replace hC:=Lib.hid hC
 replace hQ:=Lib.hid hQ
 replace hL':=Lib.hid hL'
 replace hC':=Lib.hid hC'
 replace hQ':=Lib.hid hQ'
 replace hw0:=Lib.hid hw0
 replace callA:=Lib.hid callA
 replace callB:=Lib.hid callB
 replace keep:=Lib.hid keep
 go_enter Tryz.func26,Tryz.ntmps26
 go_upto_region 1 with fail
 rw [hw0.out]
 go_wp2_with fail
 clear y0 y1 y2 y3 z0 z1 z2 z3
 go_loopw [7] (fun iv wr => ∃ i : Int,iv = .int .i64 i ∧ m - 2 * L.length - 2 * L'.length ≤ i ∧ i ≤ M + 2 * Q.length + 2 * Q'.length ∧ (∀ j : Int,m - 2 * L.length - 2 * L'.length ≤ j → j < i → cellP p L C Q j = cellP p' L' C' Q' j) ∧ Below w0.heap.size w0 wr) (fun iv _ => (M + 2 * Q.length + 2 * Q'.length - intOf iv).toNat)
 case atStart => exact ⟨_,rfl,by omega,by omega,fun j h1 h2 => by omega,Below.refl _ _⟩
 case round =>
  obtain ⟨i,rfl,h1,h2,heq,hB⟩:=hrel
  obtain ⟨wo,rfl⟩ : ∃ wo : World,wo = wr:=⟨_,rfl⟩
  replace heq:=Lib.hid heq
  by_cases hi : i < M + 2 * Q.length + 2 * Q'.length
  ·have di : decide (i < M + 2 * (Q.length : Int) + 2 * (Q'.length : Int)) = true:=decide_eq_true hi
   obtain ⟨W,hW⟩ : ∃ W : World,wo.drew = W:=⟨_,rfl⟩
   have bW : Below w0.heap.size w0 W:=by rw [← hW]; exact hB.drew
   have hS:=keep.out W bW
   replace hW:=Lib.hid hW
   go_upto_region 6 with fail
   refine wp_region_plan (fun w' => w'.cell? ⟨w.heap.size,0,none⟩ = some (.int .i64 p) ∧ w'.cell? ⟨w.heap.size,1,none⟩ = some (.slice la ln lc) ∧ w'.cell? ⟨w.heap.size,2,none⟩ = some (.slice ca cn cc) ∧ w'.cell? ⟨w.heap.size,3,none⟩ = some (.slice qa qn qc) ∧ w'.cell? ⟨w.heap.size + 1,0,none⟩ = some (.int .i64 p') ∧ w'.cell? ⟨w.heap.size + 1,1,none⟩ = some (.slice la' ln' lc') ∧ w'.cell? ⟨w.heap.size + 1,2,none⟩ = some (.slice ca' cn' cc') ∧ w'.cell? ⟨w.heap.size + 1,3,none⟩ = some (.slice qa' qn' qc')) 6 [(0,true),(1,true),(3,true),(4,true),(2,false),(5,false)] (by kernel_rfl) (by kernel_rfl) ?_
   rw [hW.out]
   refine pqY 52 hS ?_
   refine pqY 53 hS ?_
   refine pqY 55 hS ?_
   refine pqY 56 hS ?_
   refine headC rfl (fun KK hK => ?_)
   go_simp
   refine (callA.out i W bW (by omega)).mono ?_
   rintro e w2 ⟨_,rfl,b2,rfl⟩
   have c2:=Below.step bW b2
   have hS2:=keep.out w2 c2
   refine hK _ _ hS2 ?_
   clear hK KK hS
   refine headC rfl (fun KK hK => ?_)
   go_simp
   refine (callB.out i w2 c2 (by omega)).mono ?_
   rintro e w3 ⟨_,rfl,b3,rfl⟩
   have c3:=Below.step c2 b3
   have hS3:=keep.out w3 c3
   refine hK _ _ hS3 ?_
   clear hK KK hS2
   refine head0 ?_
   simp only [List.drop_succ_cons,List.drop_zero]
   clear hS3
   by_cases e : cellP p L C Q i = cellP p' L' C' Q' i
   ·obtain ⟨x,hx⟩ : ∃ x,cellP p L C Q i = x:=⟨_,rfl⟩
    have e2:=e
    rw [hx] at e2
    rw [hx,← e2]
    have q9 : (x != x) = false:=by simp
    have heq2 : ∀ j : Int,m - 2 * L.length - 2 * L'.length ≤ j → j < i + 1 → cellP p L C Q j = cellP p' L' C' Q' j:=fun j g1 g2 => by
     by_cases ej : j = i
     ·subst ej; exact e
     ·exact heq.out j g1 (by omega)
    replace e:=Lib.hid e
    replace e2:=Lib.hid e2
    replace hx:=Lib.hid hx
    replace heq2:=Lib.hid heq2
    go_wp2
    refine NoPanic.normal ?_
    go_wp2
    go_roundw
    case measure => simp [intOf]; omega
    case rel => exact ⟨i + 1,by go_num,by omega,by omega,heq2.out,c3⟩
   ·have q9 : (cellP p L C Q i != cellP p' L' C' Q' i) = true:=by rw [bne_iff_ne]; exact e
    have hno : ¬ ∀ j : Int,m - 2 * L.length - 2 * L'.length ≤ j → j < M + 2 * Q.length + 2 * Q'.length → cellP p L C Q j = cellP p' L' C' Q' j:=fun h => e (h i h1 hi)
    have bE:=Below.step b0 c3
    obtain ⟨x,hx⟩ : ∃ x,cellP p L C Q i = x:=⟨_,rfl⟩
    obtain ⟨x',hx'⟩ : ∃ x,cellP p' L' C' Q' i = x:=⟨_,rfl⟩
    rw [hx,hx'] at q9 ⊢
    replace e:=Lib.hid e
    replace hno:=Lib.hid hno
    replace hx:=Lib.hid hx
    replace hx':=Lib.hid hx'
    go_wp2
    refine NoPanic.normal ?_
    go_wp2
    go_ret
    exact ⟨_,rfl,bE,eqPost2_of mm xx false ⟨fun h => absurd h (by simp),fun h => absurd h hno.out⟩⟩
  ·have di : decide (i < M + 2 * (Q.length : Int) + 2 * (Q'.length : Int)) = false:=decide_eq_false hi
   have bE:=Below.step b0 hB
   have hall : ∀ j : Int,m - 2 * L.length - 2 * L'.length ≤ j → j < M + 2 * Q.length + 2 * Q'.length → cellP p L C Q j = cellP p' L' C' Q' j:=fun j g1 g2 => heq.out j g1 (by omega)
   replace hall:=Lib.hid hall
   go_wp2
   go_ret
   exact ⟨_,rfl,bE,eqPost2_of mm xx true ⟨fun _ => hall.out,fun _ => rfl⟩⟩
set_option maxHeartbeats 4000000 in
theorem ref_rcheck (p : Int) (K : Nat) (la : Option Addr) (ln lc : Nat) (ca : Option Addr) (cn cc : Nat) (qa : Option Addr) (qn qc : Nat) (L C Q : List Int) (w : World) (hL : IntsAt w (.slice la ln lc) L) (hC : IntsAt w (.slice ca cn cc) C) (hQ : IntsAt w (.slice qa qn qc) Q) (hr : RowOk K p L C Q) :
 Calls Tryz.prog 23 #[.int .i64 K,.agg #[.int .i64 p,.slice la ln lc,.slice ca cn cc,.slice qa qn qc]] w (Ret1 (fun x _ => x = .agg #[.int .i64 0,.slice none 0 0,.slice none 0 0]) w):=by
 obtain ⟨k1,k4,p1,p2,l1,l2,q1,q2,c2,sL,sC,sQ⟩:=hr
 have b0:=Below.step (belowAlloc w (.cells #[.int .i64 p,.slice la ln lc,.slice ca cn cc,.slice qa qn qc] 45)) (belowAlloc _ (.cells #[.int .i64 0,.slice none 0 0,.slice none 0 0] 37))
 have y : Cells4 ((w.alloc (.cells #[.int .i64 p,.slice la ln lc,.slice ca cn cc,.slice qa qn qc] 45)).alloc (.cells #[.int .i64 0,.slice none 0 0,.slice none 0 0] 37)) w.heap.size (.int .i64 p) (.slice la ln lc) (.slice ca cn cc) (.slice qa qn qc):=by
  refine ⟨?_,?_,?_,?_⟩ <;> simp [go_sem]
 have q4 : Box3 ((w.alloc (.cells #[.int .i64 p,.slice la ln lc,.slice ca cn cc,.slice qa qn qc] 45)).alloc (.cells #[.int .i64 0,.slice none 0 0,.slice none 0 0] 37)) (w.heap.size + 1) (.int .i64 0) (.slice none 0 0) (.slice none 0 0):=by simp [Box3,go_sem]
 obtain ⟨w0,hw0⟩ : ∃ W : World,(w.alloc (.cells #[.int .i64 p,.slice la ln lc,.slice ca cn cc,.slice qa qn qc] 45)).alloc (.cells #[.int .i64 0,.slice none 0 0,.slice none 0 0] 37) = W:=⟨_,rfl⟩
 rw [hw0] at b0 y q4
 obtain ⟨W,hW⟩ : ∃ W : World,w0.drew = W:=⟨_,rfl⟩
 have bW0 : Below w0.heap.size w0 W:=by rw [← hW]; exact (Below.refl _ _).drew
 replace hL:=hL.below b0
 replace hC:=hC.below b0
 replace hQ:=hQ.below b0
 have nL:=hL.len
 have nC:=hC.len
 have nQ:=hQ.len
 replace hL:=hL.below bW0
 replace hC:=hC.below bW0
 replace hQ:=hQ.below bW0
 have yW:=y.below bW0
 have hS : W.cell? ⟨w.heap.size,0,none⟩ = some (.int .i64 p) ∧ W.cell? ⟨w.heap.size,1,none⟩ = some (.slice la ln lc) ∧ W.cell? ⟨w.heap.size,2,none⟩ = some (.slice ca cn cc) ∧ W.cell? ⟨w.heap.size,3,none⟩ = some (.slice qa qn qc):=⟨yW.c0,yW.c1,yW.c2,yW.c3⟩
 have d1 : decide ((K : Int) < 1) = false:=decide_eq_false (by omega)
 have d2 : decide ((4 : Int) < (K : Int)) = false:=decide_eq_false (by omega)
 have d3 : decide (p < -4096) = false:=decide_eq_false (by omega)
 have d4 : decide ((4096 : Int) < p) = false:=decide_eq_false (by omega)
 have d5 : ((L.length : Int) == 0) = false:=by rw [beq_eq_false_iff_ne]; omega
 have d5' : ¬ L.length = 0:=by omega
 have d6 : ((Q.length : Int) == 0) = false:=by rw [beq_eq_false_iff_ne]; omega
 have d6' : ¬ Q.length = 0:=by omega
 have d7 : decide ((8192 : Int) < (L.length : Int)) = false:=decide_eq_false (by omega)
 have d8 : decide ((8192 : Int) < (Q.length : Int)) = false:=decide_eq_false (by omega)
 have d9 : decide ((16384 : Int) < (C.length : Int)) = false:=decide_eq_false (by omega)
 have hall : Syms K ((L ++ C) ++ Q):=fun x hx => by
  rcases List.mem_append.1 hx with hx | hx
  ·rcases List.mem_append.1 hx with hx | hx
   ·exact sL x hx
   ·exact sC x hx
  ·exact sQ x hx
 have hidx:=hall.odd
 have sW : w0.heap.size ≤ W.heap.size:=bW0.size
 replace hidx:=Lib.hid hidx
 replace hall:=Lib.hid hall
 replace sL:=Lib.hid sL
 replace sC:=Lib.hid sC
 replace sQ:=Lib.hid sQ
 replace hL:=Lib.hid hL
 replace hC:=Lib.hid hC
 replace hQ:=Lib.hid hQ
 replace hw0:=Lib.hid hw0
 replace hW:=Lib.hid hW
 replace yW:=Lib.hid yW
 obtain ⟨y0,y1,y2,y3⟩:=y
 go_enter Tryz.func23,Tryz.ntmps23
 go_upto_region 1 with fail
 rw [hw0.out]
 go_upto_region 15 with fail
 refine wp_region_plan (fun w' => w'.cell? ⟨w.heap.size,0,none⟩ = some (.int .i64 p) ∧ w'.cell? ⟨w.heap.size,1,none⟩ = some (.slice la ln lc) ∧ w'.cell? ⟨w.heap.size,2,none⟩ = some (.slice ca cn cc) ∧ w'.cell? ⟨w.heap.size,3,none⟩ = some (.slice qa qn qc)) 9 [(0,true),(1,true),(3,true),(4,true),(6,true),(7,true),(2,false),(5,false),(8,false)] (by kernel_rfl) (by kernel_rfl) ?_
 rw [hW.out]
 clear y0 y1 y2 y3
 refine pqY 48 hS ?_
 refine pqY 49 hS ?_
 refine pqY 51 hS ?_
 refine pqY 52 hS ?_
 refine pqY 54 hS ?_
 refine pqY 55 hS ?_
 refine headC rfl (fun KK hK => ?_)
 go_simp
 refine (copy_any _ L W hL.out (by omega)).mono ?_
 rintro e w2 ⟨x,rfl,b2,hx⟩
 have y2:=yW.out.below b2
 have hS2 : w2.cell? ⟨w.heap.size,0,none⟩ = some (.int .i64 p) ∧ w2.cell? ⟨w.heap.size,1,none⟩ = some (.slice la ln lc) ∧ w2.cell? ⟨w.heap.size,2,none⟩ = some (.slice ca cn cc) ∧ w2.cell? ⟨w.heap.size,3,none⟩ = some (.slice qa qn qc):=⟨y2.c0,y2.c1,y2.c2,y2.c3⟩
 obtain ⟨xa,xn,xc,rfl⟩:=hx.at.shape
 have hC2:=hC.out.below b2
 have hQ2:=hQ.out.below b2
 have s2:=b2.size
 refine hK _ _ hS2 ?_
 clear hK KK hS
 refine headC rfl (fun KK hK => ?_)
 refine step_appI rfl _ _ rfl W.heap.size (.slice xa xn xc) (.slice ca cn cc) L C rfl rfl hx hC2 (by omega) s2 ?_
 intro v3 w3 ho3 b3
 have c3:=b2.trans b3
 have y3:=yW.out.below c3
 have hS3 : w3.cell? ⟨w.heap.size,0,none⟩ = some (.int .i64 p) ∧ w3.cell? ⟨w.heap.size,1,none⟩ = some (.slice la ln lc) ∧ w3.cell? ⟨w.heap.size,2,none⟩ = some (.slice ca cn cc) ∧ w3.cell? ⟨w.heap.size,3,none⟩ = some (.slice qa qn qc):=⟨y3.c0,y3.c1,y3.c2,y3.c3⟩
 have hQ3:=hQ.out.below c3
 have s3:=c3.size
 obtain ⟨v3a,v3n,v3c,rfl⟩:=ho3.at.shape
 replace hx:=Lib.hid hx
 refine hK _ _ hS3 ?_
 clear hK KK hS2
 refine headC rfl (fun KK hK => ?_)
 refine step_appI rfl _ _ rfl W.heap.size (.slice v3a v3n v3c) (.slice qa qn qc) (L ++ C) Q rfl rfl ho3 hQ3 (by rw [List.length_append]; omega) s3 ?_
 intro v4 w4 ho4 b4
 have c4:=c3.trans b4
 have y4:=yW.out.below c4
 have hS4 : w4.cell? ⟨w.heap.size,0,none⟩ = some (.int .i64 p) ∧ w4.cell? ⟨w.heap.size,1,none⟩ = some (.slice la ln lc) ∧ w4.cell? ⟨w.heap.size,2,none⟩ = some (.slice ca cn cc) ∧ w4.cell? ⟨w.heap.size,3,none⟩ = some (.slice qa qn qc):=⟨y4.c0,y4.c1,y4.c2,y4.c3⟩
 obtain ⟨v4a,v4n,v4c,rfl⟩:=ho4.at.shape
 replace ho3:=Lib.hid ho3
 refine hK _ _ hS4 ?_
 clear hK KK hS3
 refine head0 ?_
 simp only [List.drop_succ_cons,List.drop_zero]
 clear hS4
 go_wp2
 refine NoPanic.normal ?_
 go_wp2_with fail
 refine (ref_bad K _ _ w4 ho4.at).mono ?_
 rintro e w5 ⟨rfl,rfl⟩
 rw [hidx.out]
 have c5:=Below.step bW0 c4
 obtain ⟨⟨v0,v1,v2⟩,f0,f1,f2⟩:=q4.below c5
 replace ho4:=Lib.hid ho4
 go_wp2
 (try simp only [Exit.inBlock,Exit.then])
 exact bodyPost_ret (v:=.agg #[.int .i64 0,.slice none 0 0,.slice none 0 0]) (by simp [results,Tryz.results23,go_sem,v0,v1,v2]) rfl ⟨_,rfl,below_set3 (Below.step b0 c5) (by omega) _ _ _,rfl⟩
end Go.Proofs.YtjiadfblphdchaaGreatDoor
namespace Go.Proofs.YtjiadfblphdchaaGreatDoor
open Go.RowKit
set_option maxRecDepth 100000
theorem rowP_num {k p : Int} {L C Q : List Int} {n : Int} {l : List (ByteArray × Int)} (h : rowP k p L C Q = some (n,l)) : n ≠ 0:=by
 have key : ∀ (a m : Int),m ≠ 0 → fresh sRow a m = some (n,l) → n ≠ 0:=fun a m hm e => by
  unfold fresh at e
  injection e with e
  injection e with e1 e2
  rw [← e1]; exact hm
 unfold rowP at h
 repeat' (split at h)
 all_goals first | exact key _ _ (by decide) h | cases h
set_option maxHeartbeats 2000000 in
theorem ref_rowc_early (p : Int) (K : Nat) (la : Option Addr) (ln lc : Nat) (ca : Option Addr) (cn cc : Nat) (qa : Option Addr) (qn qc : Nat) (L C Q : List Int) (w : World) (hL : IntsAt w (.slice la ln lc) L) (hC : IntsAt w (.slice ca cn cc) C) (hQ : IntsAt w (.slice qa qn qc) Q) (k1 : 1 ≤ K) (k4 : K ≤ 4) (hbad : (p < -4096 ∨ 4096 < p) ∨ L.length = 0 ∨ Q.length = 0 ∨ 8192 < L.length ∨ 8192 < Q.length ∨ 16384 < C.length) :
 Calls Tryz.prog 23 #[.int .i64 K,.agg #[.int .i64 p,.slice la ln lc,.slice ca cn cc,.slice qa qn qc]] w (Ret1 (fun x w' => EOwn w.heap.size w' (rowP K p L C Q) x) w):=by
 have b0:=Below.step (belowAlloc w (.cells #[.int .i64 p,.slice la ln lc,.slice ca cn cc,.slice qa qn qc] 45)) (belowAlloc _ (.cells #[.int .i64 0,.slice none 0 0,.slice none 0 0] 37))
 have y : Cells4 ((w.alloc (.cells #[.int .i64 p,.slice la ln lc,.slice ca cn cc,.slice qa qn qc] 45)).alloc (.cells #[.int .i64 0,.slice none 0 0,.slice none 0 0] 37)) w.heap.size (.int .i64 p) (.slice la ln lc) (.slice ca cn cc) (.slice qa qn qc):=by
  refine ⟨?_,?_,?_,?_⟩ <;> simp [go_sem]
 have q4 : Box3 ((w.alloc (.cells #[.int .i64 p,.slice la ln lc,.slice ca cn cc,.slice qa qn qc] 45)).alloc (.cells #[.int .i64 0,.slice none 0 0,.slice none 0 0] 37)) (w.heap.size + 1) (.int .i64 0) (.slice none 0 0) (.slice none 0 0):=by simp [Box3,go_sem]
 have s0 : ((w.alloc (.cells #[.int .i64 p,.slice la ln lc,.slice ca cn cc,.slice qa qn qc] 45)).alloc (.cells #[.int .i64 0,.slice none 0 0,.slice none 0 0] 37)).heap.size = w.heap.size + 2:=by simp
 obtain ⟨w0,hw0⟩ : ∃ W : World,(w.alloc (.cells #[.int .i64 p,.slice la ln lc,.slice ca cn cc,.slice qa qn qc] 45)).alloc (.cells #[.int .i64 0,.slice none 0 0,.slice none 0 0] 37) = W:=⟨_,rfl⟩
 rw [hw0] at b0 y q4 s0
 have nL:=hL.len
 have nC:=hC.len
 have nQ:=hQ.len
 have d1 : decide ((K : Int) < 1) = false:=decide_eq_false (by omega)
 have d2 : decide ((4 : Int) < (K : Int)) = false:=decide_eq_false (by omega)
 have hk : ¬ ((K : Int) < 1 ∨ 4 < (K : Int)):=by omega
 obtain ⟨y0,y1,y2,y3⟩:=y
 have fin : ∀ (a m : Int) (w1 : World) (x0 x1 x2 : Value),Below w0.heap.size w0 w1 → EOwn w0.heap.size w1 (fresh sRow a m) (.agg #[x0,x1,x2]) → EOwn w.heap.size (((w1.setCell ⟨w.heap.size + 1,0,none⟩ x0).setCell ⟨w.heap.size + 1,1,none⟩ x1).setCell ⟨w.heap.size + 1,2,none⟩ x2) (fresh sRow a m) (.agg #[x0,x1,x2]) ∧ Below w.heap.size w (((w1.setCell ⟨w.heap.size + 1,0,none⟩ x0).setCell ⟨w.heap.size + 1,1,none⟩ x1).setCell ⟨w.heap.size + 1,2,none⟩ x2):=fun a m w1 x0 x1 x2 hb he =>
  ⟨(he.set3 (by omega) _ _ _).mono (by omega),below_set3 (Below.step b0 hb) (by omega) _ _ _⟩
 replace fin:=Lib.hid fin
 replace hw0:=Lib.hid hw0
 replace s0:=Lib.hid s0
 replace hL:=Lib.hid hL
 replace hC:=Lib.hid hC
 replace hQ:=Lib.hid hQ
 by_cases h2 : p < -4096 ∨ 4096 < p
 ·by_cases h2a : p < -4096
  ·have d3 : decide (p < -4096) = true:=decide_eq_true h2a
   have hE : rowP K p L C Q = fresh sRow 1 3:=by unfold rowP; rw [if_neg hk,if_pos h2]
   replace hE:=Lib.hid hE
   go_enter Tryz.func23,Tryz.ntmps23
   go_upto_region 1 with fail
   rw [hw0.out]
   go_wp2_with fail
   refine (raw_new sRow 1 3 w0).mono ?_
   rintro e w1 ⟨x,rfl,b1,he⟩
   obtain ⟨en,e1,e2,e3,e4,e5,e6,rfl⟩:=he.shape
   obtain ⟨⟨v0,v1,v2⟩,f0,f1,f2⟩:=q4.below b1
   have hF:=fin.out _ _ w1 _ _ _ b1 he
   replace hF:=Lib.hid hF
   replace he:=Lib.hid he
   clear y0 y1 y2 y3
   go_wp2
   (try simp only [Exit.inBlock,Exit.then])
   exact bodyPost_ret (v:=.agg #[.int .i64 en,.slice e1 e2 e3,.slice e4 e5 e6]) (by simp [results,Tryz.results23,go_sem,v0,v1,v2]) rfl ⟨_,rfl,hF.out.2,by rw [hE.out]; exact hF.out.1⟩
  ·have d3 : decide (p < -4096) = false:=decide_eq_false h2a
   have d4 : decide ((4096 : Int) < p) = true:=decide_eq_true (by omega)
   have hE : rowP K p L C Q = fresh sRow 1 3:=by unfold rowP; rw [if_neg hk,if_pos h2]
   replace hE:=Lib.hid hE
   go_enter Tryz.func23,Tryz.ntmps23
   go_upto_region 1 with fail
   rw [hw0.out]
   go_wp2_with fail
   refine (raw_new sRow 1 3 w0).mono ?_
   rintro e w1 ⟨x,rfl,b1,he⟩
   obtain ⟨en,e1,e2,e3,e4,e5,e6,rfl⟩:=he.shape
   obtain ⟨⟨v0,v1,v2⟩,f0,f1,f2⟩:=q4.below b1
   have hF:=fin.out _ _ w1 _ _ _ b1 he
   replace hF:=Lib.hid hF
   replace he:=Lib.hid he
   clear y0 y1 y2 y3
   go_wp2
   (try simp only [Exit.inBlock,Exit.then])
   exact bodyPost_ret (v:=.agg #[.int .i64 en,.slice e1 e2 e3,.slice e4 e5 e6]) (by simp [results,Tryz.results23,go_sem,v0,v1,v2]) rfl ⟨_,rfl,hF.out.2,by rw [hE.out]; exact hF.out.1⟩
 have d3 : decide (p < -4096) = false:=decide_eq_false (by omega)
 have d4 : decide ((4096 : Int) < p) = false:=decide_eq_false (by omega)
 by_cases h3 : L.length = 0
 ·have d5 : ((L.length : Int) == 0) = true:=by rw [beq_iff_eq]; omega
  have hE : rowP K p L C Q = fresh sRow 2 3:=by unfold rowP; rw [if_neg hk,if_neg h2,if_pos h3]
  replace hE:=Lib.hid hE
  go_enter Tryz.func23,Tryz.ntmps23
  go_upto_region 1 with fail
  rw [hw0.out]
  go_wp2_with fail
  refine (raw_new sRow 2 3 w0).mono ?_
  rintro e w1 ⟨x,rfl,b1,he⟩
  obtain ⟨en,e1,e2,e3,e4,e5,e6,rfl⟩:=he.shape
  obtain ⟨⟨v0,v1,v2⟩,f0,f1,f2⟩:=q4.below b1
  have hF:=fin.out _ _ w1 _ _ _ b1 he
  replace hF:=Lib.hid hF
  replace he:=Lib.hid he
  clear y0 y1 y2 y3
  go_wp2
  (try simp only [Exit.inBlock,Exit.then])
  exact bodyPost_ret (v:=.agg #[.int .i64 en,.slice e1 e2 e3,.slice e4 e5 e6]) (by simp [results,Tryz.results23,go_sem,v0,v1,v2]) rfl ⟨_,rfl,hF.out.2,by rw [hE.out]; exact hF.out.1⟩
 have d5 : ((L.length : Int) == 0) = false:=by rw [beq_eq_false_iff_ne]; omega
 have d5' : ¬ L.length = 0:=h3
 by_cases h4 : Q.length = 0
 ·have d6 : ((Q.length : Int) == 0) = true:=by rw [beq_iff_eq]; omega
  have hE : rowP K p L C Q = fresh sRow 3 3:=by unfold rowP; rw [if_neg hk,if_neg h2,if_neg h3,if_pos h4]
  replace hE:=Lib.hid hE
  go_enter Tryz.func23,Tryz.ntmps23
  go_upto_region 1 with fail
  rw [hw0.out]
  go_wp2_with fail
  refine (raw_new sRow 3 3 w0).mono ?_
  rintro e w1 ⟨x,rfl,b1,he⟩
  obtain ⟨en,e1,e2,e3,e4,e5,e6,rfl⟩:=he.shape
  obtain ⟨⟨v0,v1,v2⟩,f0,f1,f2⟩:=q4.below b1
  have hF:=fin.out _ _ w1 _ _ _ b1 he
  replace hF:=Lib.hid hF
  replace he:=Lib.hid he
  clear y0 y1 y2 y3
  go_wp2
  (try simp only [Exit.inBlock,Exit.then])
  exact bodyPost_ret (v:=.agg #[.int .i64 en,.slice e1 e2 e3,.slice e4 e5 e6]) (by simp [results,Tryz.results23,go_sem,v0,v1,v2]) rfl ⟨_,rfl,hF.out.2,by rw [hE.out]; exact hF.out.1⟩
 have d6 : ((Q.length : Int) == 0) = false:=by rw [beq_eq_false_iff_ne]; omega
 have d6' : ¬ Q.length = 0:=h4
 by_cases h5 : 8192 < L.length
 ·have d7 : decide ((8192 : Int) < (L.length : Int)) = true:=decide_eq_true (by omega)
  have hE : rowP K p L C Q = fresh sRow 2 4:=by unfold rowP; rw [if_neg hk,if_neg h2,if_neg h3,if_neg h4,if_pos h5]
  replace hE:=Lib.hid hE
  go_enter Tryz.func23,Tryz.ntmps23
  go_upto_region 1 with fail
  rw [hw0.out]
  go_wp2_with fail
  refine (raw_new sRow 2 4 w0).mono ?_
  rintro e w1 ⟨x,rfl,b1,he⟩
  obtain ⟨en,e1,e2,e3,e4,e5,e6,rfl⟩:=he.shape
  obtain ⟨⟨v0,v1,v2⟩,f0,f1,f2⟩:=q4.below b1
  have hF:=fin.out _ _ w1 _ _ _ b1 he
  replace hF:=Lib.hid hF
  replace he:=Lib.hid he
  clear y0 y1 y2 y3
  go_wp2
  (try simp only [Exit.inBlock,Exit.then])
  exact bodyPost_ret (v:=.agg #[.int .i64 en,.slice e1 e2 e3,.slice e4 e5 e6]) (by simp [results,Tryz.results23,go_sem,v0,v1,v2]) rfl ⟨_,rfl,hF.out.2,by rw [hE.out]; exact hF.out.1⟩
 have d7 : decide ((8192 : Int) < (L.length : Int)) = false:=decide_eq_false (by omega)
 by_cases h6 : 8192 < Q.length
 ·have d8 : decide ((8192 : Int) < (Q.length : Int)) = true:=decide_eq_true (by omega)
  have hE : rowP K p L C Q = fresh sRow 3 4:=by unfold rowP; rw [if_neg hk,if_neg h2,if_neg h3,if_neg h4,if_neg h5,if_pos h6]
  replace hE:=Lib.hid hE
  go_enter Tryz.func23,Tryz.ntmps23
  go_upto_region 1 with fail
  rw [hw0.out]
  go_wp2_with fail
  refine (raw_new sRow 3 4 w0).mono ?_
  rintro e w1 ⟨x,rfl,b1,he⟩
  obtain ⟨en,e1,e2,e3,e4,e5,e6,rfl⟩:=he.shape
  obtain ⟨⟨v0,v1,v2⟩,f0,f1,f2⟩:=q4.below b1
  have hF:=fin.out _ _ w1 _ _ _ b1 he
  replace hF:=Lib.hid hF
  replace he:=Lib.hid he
  clear y0 y1 y2 y3
  go_wp2
  (try simp only [Exit.inBlock,Exit.then])
  exact bodyPost_ret (v:=.agg #[.int .i64 en,.slice e1 e2 e3,.slice e4 e5 e6]) (by simp [results,Tryz.results23,go_sem,v0,v1,v2]) rfl ⟨_,rfl,hF.out.2,by rw [hE.out]; exact hF.out.1⟩
 have d8 : decide ((8192 : Int) < (Q.length : Int)) = false:=decide_eq_false (by omega)
 have h7 : 16384 < C.length:=by omega
 have d9 : decide ((16384 : Int) < (C.length : Int)) = true:=decide_eq_true (by omega)
 have hE : rowP K p L C Q = fresh sRow 4 4:=by unfold rowP; rw [if_neg hk,if_neg h2,if_neg h3,if_neg h4,if_neg h5,if_neg h6,if_pos h7]
 replace hE:=Lib.hid hE
 go_enter Tryz.func23,Tryz.ntmps23
 go_upto_region 1 with fail
 rw [hw0.out]
 go_wp2_with fail
 refine (raw_new sRow 4 4 w0).mono ?_
 rintro e w1 ⟨x,rfl,b1,he⟩
 obtain ⟨en,e1,e2,e3,e4,e5,e6,rfl⟩:=he.shape
 obtain ⟨⟨v0,v1,v2⟩,f0,f1,f2⟩:=q4.below b1
 have hF:=fin.out _ _ w1 _ _ _ b1 he
 replace hF:=Lib.hid hF
 replace he:=Lib.hid he
 clear y0 y1 y2 y3
 go_wp2
 (try simp only [Exit.inBlock,Exit.then])
 exact bodyPost_ret (v:=.agg #[.int .i64 en,.slice e1 e2 e3,.slice e4 e5 e6]) (by simp [results,Tryz.results23,go_sem,v0,v1,v2]) rfl ⟨_,rfl,hF.out.2,by rw [hE.out]; exact hF.out.1⟩
set_option maxHeartbeats 4000000 in
theorem ref_rowc_late (p : Int) (K : Nat) (la : Option Addr) (ln lc : Nat) (ca : Option Addr) (cn cc : Nat) (qa : Option Addr) (qn qc : Nat) (L C Q : List Int) (w : World) (hL : IntsAt w (.slice la ln lc) L) (hC : IntsAt w (.slice ca cn cc) C) (hQ : IntsAt w (.slice qa qn qc) Q) (k1 : 1 ≤ K) (k4 : K ≤ 4) (p1 : -4096 ≤ p) (p2 : p ≤ 4096) (l1 : 1 ≤ L.length) (l2 : L.length ≤ 8192) (q1 : 1 ≤ Q.length) (q2 : Q.length ≤ 8192) (c2 : C.length ≤ 16384) (hix : 0 ≤ idxOf (odd1 K) (L ++ C ++ Q)) :
 Calls Tryz.prog 23 #[.int .i64 K,.agg #[.int .i64 p,.slice la ln lc,.slice ca cn cc,.slice qa qn qc]] w (Ret1 (fun x w' => EOwn w.heap.size w' (rowP K p L C Q) x) w):=by
 have hE : rowP K p L C Q = fresh sRow (idxOf (odd1 K) (L ++ C ++ Q)) 2:=by
  unfold rowP
  rw [if_neg (by omega),if_neg (by omega),if_neg (by omega),if_neg (by omega),if_neg (by omega),if_neg (by omega),if_neg (by omega),if_pos hix]
 replace hE:=Lib.hid hE
 have b0:=Below.step (belowAlloc w (.cells #[.int .i64 p,.slice la ln lc,.slice ca cn cc,.slice qa qn qc] 45)) (belowAlloc _ (.cells #[.int .i64 0,.slice none 0 0,.slice none 0 0] 37))
 have y : Cells4 ((w.alloc (.cells #[.int .i64 p,.slice la ln lc,.slice ca cn cc,.slice qa qn qc] 45)).alloc (.cells #[.int .i64 0,.slice none 0 0,.slice none 0 0] 37)) w.heap.size (.int .i64 p) (.slice la ln lc) (.slice ca cn cc) (.slice qa qn qc):=by
  refine ⟨?_,?_,?_,?_⟩ <;> simp [go_sem]
 have q4 : Box3 ((w.alloc (.cells #[.int .i64 p,.slice la ln lc,.slice ca cn cc,.slice qa qn qc] 45)).alloc (.cells #[.int .i64 0,.slice none 0 0,.slice none 0 0] 37)) (w.heap.size + 1) (.int .i64 0) (.slice none 0 0) (.slice none 0 0):=by simp [Box3,go_sem]
 have s0 : ((w.alloc (.cells #[.int .i64 p,.slice la ln lc,.slice ca cn cc,.slice qa qn qc] 45)).alloc (.cells #[.int .i64 0,.slice none 0 0,.slice none 0 0] 37)).heap.size = w.heap.size + 2:=by simp
 obtain ⟨w0,hw0⟩ : ∃ W : World,(w.alloc (.cells #[.int .i64 p,.slice la ln lc,.slice ca cn cc,.slice qa qn qc] 45)).alloc (.cells #[.int .i64 0,.slice none 0 0,.slice none 0 0] 37) = W:=⟨_,rfl⟩
 rw [hw0] at b0 y q4 s0
 replace s0:=Lib.hid s0
 obtain ⟨W,hW⟩ : ∃ W : World,w0.drew = W:=⟨_,rfl⟩
 have bW0 : Below w0.heap.size w0 W:=by rw [← hW]; exact (Below.refl _ _).drew
 replace hL:=hL.below b0
 replace hC:=hC.below b0
 replace hQ:=hQ.below b0
 have nL:=hL.len
 have nC:=hC.len
 have nQ:=hQ.len
 replace hL:=hL.below bW0
 replace hC:=hC.below bW0
 replace hQ:=hQ.below bW0
 have yW:=y.below bW0
 have hS : W.cell? ⟨w.heap.size,0,none⟩ = some (.int .i64 p) ∧ W.cell? ⟨w.heap.size,1,none⟩ = some (.slice la ln lc) ∧ W.cell? ⟨w.heap.size,2,none⟩ = some (.slice ca cn cc) ∧ W.cell? ⟨w.heap.size,3,none⟩ = some (.slice qa qn qc):=⟨yW.c0,yW.c1,yW.c2,yW.c3⟩
 have d1 : decide ((K : Int) < 1) = false:=decide_eq_false (by omega)
 have d2 : decide ((4 : Int) < (K : Int)) = false:=decide_eq_false (by omega)
 have d3 : decide (p < -4096) = false:=decide_eq_false (by omega)
 have d4 : decide ((4096 : Int) < p) = false:=decide_eq_false (by omega)
 have d5 : ((L.length : Int) == 0) = false:=by rw [beq_eq_false_iff_ne]; omega
 have d5' : ¬ L.length = 0:=by omega
 have d6 : ((Q.length : Int) == 0) = false:=by rw [beq_eq_false_iff_ne]; omega
 have d6' : ¬ Q.length = 0:=by omega
 have d7 : decide ((8192 : Int) < (L.length : Int)) = false:=decide_eq_false (by omega)
 have d8 : decide ((8192 : Int) < (Q.length : Int)) = false:=decide_eq_false (by omega)
 have d9 : decide ((16384 : Int) < (C.length : Int)) = false:=decide_eq_false (by omega)
 obtain ⟨ix,hidx⟩ : ∃ i,idxOf (odd1 K) (L ++ C ++ Q) = i:=⟨_,rfl⟩
 rw [hidx] at hix
 have hixb : decide ((0 : Int) ≤ ix) = true:=decide_eq_true hix
 have sW : w0.heap.size ≤ W.heap.size:=bW0.size
 replace hidx:=Lib.hid hidx
 replace hL:=Lib.hid hL
 replace hC:=Lib.hid hC
 replace hQ:=Lib.hid hQ
 replace hw0:=Lib.hid hw0
 replace hW:=Lib.hid hW
 replace yW:=Lib.hid yW
 obtain ⟨y0,y1,y2,y3⟩:=y
 go_enter Tryz.func23,Tryz.ntmps23
 go_upto_region 1 with fail
 rw [hw0.out]
 go_upto_region 15 with fail
 refine wp_region_plan (fun w' => w'.cell? ⟨w.heap.size,0,none⟩ = some (.int .i64 p) ∧ w'.cell? ⟨w.heap.size,1,none⟩ = some (.slice la ln lc) ∧ w'.cell? ⟨w.heap.size,2,none⟩ = some (.slice ca cn cc) ∧ w'.cell? ⟨w.heap.size,3,none⟩ = some (.slice qa qn qc)) 9 [(0,true),(1,true),(3,true),(4,true),(6,true),(7,true),(2,false),(5,false),(8,false)] (by kernel_rfl) (by kernel_rfl) ?_
 rw [hW.out]
 clear y0 y1 y2 y3
 refine pqY 48 hS ?_
 refine pqY 49 hS ?_
 refine pqY 51 hS ?_
 refine pqY 52 hS ?_
 refine pqY 54 hS ?_
 refine pqY 55 hS ?_
 refine headC rfl (fun KK hK => ?_)
 go_simp
 refine (copy_any _ L W hL.out (by omega)).mono ?_
 rintro e w2 ⟨x,rfl,b2,hx⟩
 have y2:=yW.out.below b2
 have hS2 : w2.cell? ⟨w.heap.size,0,none⟩ = some (.int .i64 p) ∧ w2.cell? ⟨w.heap.size,1,none⟩ = some (.slice la ln lc) ∧ w2.cell? ⟨w.heap.size,2,none⟩ = some (.slice ca cn cc) ∧ w2.cell? ⟨w.heap.size,3,none⟩ = some (.slice qa qn qc):=⟨y2.c0,y2.c1,y2.c2,y2.c3⟩
 obtain ⟨xa,xn,xc,rfl⟩:=hx.at.shape
 have hC2:=hC.out.below b2
 have hQ2:=hQ.out.below b2
 have s2:=b2.size
 refine hK _ _ hS2 ?_
 clear hK KK hS
 refine headC rfl (fun KK hK => ?_)
 refine step_appI rfl _ _ rfl W.heap.size (.slice xa xn xc) (.slice ca cn cc) L C rfl rfl hx hC2 (by omega) s2 ?_
 intro v3 w3 ho3 b3
 have c3:=b2.trans b3
 have y3:=yW.out.below c3
 have hS3 : w3.cell? ⟨w.heap.size,0,none⟩ = some (.int .i64 p) ∧ w3.cell? ⟨w.heap.size,1,none⟩ = some (.slice la ln lc) ∧ w3.cell? ⟨w.heap.size,2,none⟩ = some (.slice ca cn cc) ∧ w3.cell? ⟨w.heap.size,3,none⟩ = some (.slice qa qn qc):=⟨y3.c0,y3.c1,y3.c2,y3.c3⟩
 have hQ3:=hQ.out.below c3
 have s3:=c3.size
 obtain ⟨v3a,v3n,v3c,rfl⟩:=ho3.at.shape
 replace hx:=Lib.hid hx
 refine hK _ _ hS3 ?_
 clear hK KK hS2
 refine headC rfl (fun KK hK => ?_)
 refine step_appI rfl _ _ rfl W.heap.size (.slice v3a v3n v3c) (.slice qa qn qc) (L ++ C) Q rfl rfl ho3 hQ3 (by rw [List.length_append]; omega) s3 ?_
 intro v4 w4 ho4 b4
 have c4:=c3.trans b4
 have y4:=yW.out.below c4
 have hS4 : w4.cell? ⟨w.heap.size,0,none⟩ = some (.int .i64 p) ∧ w4.cell? ⟨w.heap.size,1,none⟩ = some (.slice la ln lc) ∧ w4.cell? ⟨w.heap.size,2,none⟩ = some (.slice ca cn cc) ∧ w4.cell? ⟨w.heap.size,3,none⟩ = some (.slice qa qn qc):=⟨y4.c0,y4.c1,y4.c2,y4.c3⟩
 obtain ⟨v4a,v4n,v4c,rfl⟩:=ho4.at.shape
 replace ho3:=Lib.hid ho3
 refine hK _ _ hS4 ?_
 clear hK KK hS3
 refine head0 ?_
 simp only [List.drop_succ_cons,List.drop_zero]
 clear hS4
 go_wp2
 refine NoPanic.normal ?_
 go_wp2_with fail
 refine (ref_bad K _ _ w4 ho4.at).mono ?_
 rintro e w5 ⟨rfl,rfl⟩
 rw [hidx.out]
 have c5:=Below.step bW0 c4
 replace ho4:=Lib.hid ho4
 go_wp2_with fail
 refine (raw_new sRow ix 2 w4).mono ?_
 rintro e w6 ⟨x,rfl,b6,he⟩
 obtain ⟨en,e1,e2,e3,e4,e5,e6,rfl⟩:=he.shape
 have c6:=Below.step c5 b6
 obtain ⟨⟨v0,v1,v2⟩,f0,f1,f2⟩:=q4.below c6
 have s4 : w.heap.size + 2 ≤ w4.heap.size:=by rw [← s0.out]; exact c5.size
 have hF:=(he.set3 (b:=w.heap.size + 1) (by omega) (.int .i64 en) (.slice e1 e2 e3) (.slice e4 e5 e6)).mono (B':=w.heap.size) (by omega)
 replace hF:=Lib.hid hF
 replace he:=Lib.hid he
 have bE:=below_set3 (Below.step b0 c6) (show w.heap.size ≤ w.heap.size + 1 by omega) (.int .i64 en) (.slice e1 e2 e3) (.slice e4 e5 e6)
 go_wp2
 (try simp only [Exit.inBlock,Exit.then])
 exact bodyPost_ret (v:=.agg #[.int .i64 en,.slice e1 e2 e3,.slice e4 e5 e6]) (by simp [results,Tryz.results23,go_sem,v0,v1,v2]) rfl ⟨_,rfl,bE,by rw [hE.out,hidx.out]; exact hF.out⟩
/-- edenref07.Check at any row. -/
theorem ref_rowc (p : Int) (K : Nat) (la : Option Addr) (ln lc : Nat) (ca : Option Addr) (cn cc : Nat) (qa : Option Addr) (qn qc : Nat) (L C Q : List Int) (w : World) (hL : IntsAt w (.slice la ln lc) L) (hC : IntsAt w (.slice ca cn cc) C) (hQ : IntsAt w (.slice qa qn qc) Q) (k1 : 1 ≤ K) (k4 : K ≤ 4) :
 Calls Tryz.prog 23 #[.int .i64 K,.agg #[.int .i64 p,.slice la ln lc,.slice ca cn cc,.slice qa qn qc]] w (Ret1 (fun x w' => EOwn w.heap.size w' (rowP K p L C Q) x) w):=by
 by_cases hb : (p < -4096 ∨ 4096 < p) ∨ L.length = 0 ∨ Q.length = 0 ∨ 8192 < L.length ∨ 8192 < Q.length ∨ 16384 < C.length
 ·exact ref_rowc_early p K la ln lc ca cn cc qa qn qc L C Q w hL hC hQ k1 k4 hb
 by_cases hix : 0 ≤ idxOf (odd1 K) (L ++ C ++ Q)
 ·exact ref_rowc_late p K la ln lc ca cn cc qa qn qc L C Q w hL hC hQ k1 k4 (by omega) (by omega) (by omega) (by omega) (by omega) (by omega) (by omega) hix
 ·have hs:=idxOf_syms.1 hix
  have ho : RowOk K p L C Q:=⟨k1,k4,by omega,by omega,by omega,by omega,by omega,by omega,by omega,fun x hx => hs x (by simp [hx]),fun x hx => hs x (by simp [hx]),fun x hx => hs x (by simp [hx])⟩
  rw [ho.none]
  refine (ref_rcheck p K la ln lc ca cn cc qa qn qc L C Q w hL hC hQ ho).mono ?_
  rintro e w' ⟨x,he,hb,hx⟩
  exact ⟨x,he,hb,hx⟩
end Go.Proofs.YtjiadfblphdchaaGreatDoor
namespace Go.Proofs.YtjiadfblphdchaaGreatDoor
theorem pieceP_sub {p : Int} {L C Q : List Int} {f : Int} {n t m : Nat} (h : t + m ≤ n) : ((pieceP p L C Q f n).drop t).take m = pieceP p L C Q (f + t) m:=by
 obtain ⟨r,rfl⟩ : ∃ r,n = t + (m + r):=⟨n - t - m,by omega⟩
 rw [pieceP_add,pieceP_add,List.drop_append_of_le_length (by rw [pieceP_len]; exact Nat.le_refl _),List.drop_eq_nil_of_le (by rw [pieceP_len]; exact Nat.le_refl _),List.nil_append,List.take_append_of_le_length (by rw [pieceP_len]; exact Nat.le_refl _),List.take_of_length_le (by rw [pieceP_len]; exact Nat.le_refl _)]
theorem cellP_left {p : Int} {L C Q : List Int} {i j q : Int} (hi : i < p) (hj : j < p) (e : i = j + L.length * q) : cellP p L C Q i = cellP p L C Q j:=by
 unfold cellP
 rw [if_pos (by omega),if_pos (by omega),show i - p = (j - p) + L.length * q by omega,Int.add_mul_emod_self_left]
theorem cellP_right {p : Int} {L C Q : List Int} {i j q : Int} (hi : p + C.length ≤ i) (hj : p + C.length ≤ j) (e : i = j + Q.length * q) : cellP p L C Q i = cellP p L C Q j:=by
 unfold cellP
 rw [if_neg (by omega),if_neg (by omega),if_neg (by omega),if_neg (by omega),show i - p - C.length = (j - p - C.length) + Q.length * q by omega,Int.add_mul_emod_self_left]
theorem piece_left {p : Int} {L C Q : List Int} {f g q : Int} {n : Nat} (hi : f + n ≤ p) (hj : g + n ≤ p) (e : f = g + L.length * q) : pieceP p L C Q f n = pieceP p L C Q g n :=
 List.map_congr_left fun t ht => by
  have:=List.mem_range.1 ht
  exact cellP_left (q:=q) (by omega) (by omega) (by omega)
theorem piece_right {p : Int} {L C Q : List Int} {f g q : Int} {n : Nat} (hi : p + C.length ≤ f) (hj : p + C.length ≤ g) (e : f = g + Q.length * q) : pieceP p L C Q f n = pieceP p L C Q g n :=
 List.map_congr_left fun t ht => cellP_right (q:=q) (by omega) (by omega) (by omega)
/-- One cell of the image of a piece. -/
theorem img_pieceI {K R : Nat} {T : List Int} {p : Int} {L C Q : List Int} {f : Int} {n t : Nat} (h : t < n) : (imgP K R T (pieceP p L C Q f (n + 2 * R))).getD t 0 = T.getD (numW K (pieceP p L C Q (f + t) (2 * R + 1))) 0:=by
 rw [imgP_getD _ _ _ _ _ (by rw [pieceP_len]; omega),pieceP_sub (by omega)]
/-- The image row, cell by cell. -/
theorem image_cell {K R : Nat} {T : List Int} {p : Int} {L C Q : List Int} (l1 : 1 ≤ L.length) (q1 : 1 ≤ Q.length) (i : Int) :
 cellP (p - R) (imgP K R T (pieceP p L C Q (p - R - L.length - R) (L.length + 2 * R))) (imgP K R T (pieceP p L C Q (p - R - R) (C.length + 2 * R + 2 * R))) (imgP K R T (pieceP p L C Q (p - R + (C.length + 2 * R : Nat) - R) (Q.length + 2 * R))) i = T.getD (numW K (pieceP p L C Q (i - R) (2 * R + 1))) 0:=by
 have a1 : (imgP K R T (pieceP p L C Q (p - R - L.length - R) (L.length + 2 * R))).length = L.length:=by rw [imgP_length,pieceP_len]; omega
 have a2 : (imgP K R T (pieceP p L C Q (p - R - R) (C.length + 2 * R + 2 * R))).length = C.length + 2 * R:=by rw [imgP_length,pieceP_len]; omega
 have a3 : (imgP K R T (pieceP p L C Q (p - R + (C.length + 2 * R : Nat) - R) (Q.length + 2 * R))).length = Q.length:=by rw [imgP_length,pieceP_len]; omega
 unfold cellP
 rw [a1,a2,a3]
 by_cases h1 : i - (p - R) < 0
 ·rw [if_pos h1]
  obtain ⟨m,hm,e⟩:=emod_nat (a:=i - (p - R)) l1
  have hd:=Int.emod_add_mul_ediv (i - (p - R)) (L.length : Int)
  rw [e] at hd ⊢
  rw [Int.toNat_natCast,img_pieceI hm]
  congr 2
  generalize (i - (p - (R : Int))) / (L.length : Int) = z at hd
  refine (piece_left (q:=z + 1) (by omega) (by omega) ?_).symm
  rw [Int.mul_add,Int.mul_one]
  omega
 ·rw [if_neg h1]
  by_cases h2 : i - (p - R) < (C.length + 2 * R : Nat)
  ·rw [if_pos h2]
   obtain ⟨m,hm⟩ : ∃ m : Nat,i - (p - R) = m:=⟨(i - (p - R)).toNat,by omega⟩
   rw [hm,Int.toNat_natCast,img_pieceI (by omega)]
   congr 3
   omega
  ·rw [if_neg h2]
   obtain ⟨m,hm,e⟩:=emod_nat (a:=i - (p - R) - (C.length + 2 * R : Nat)) q1
   have hd:=Int.emod_add_mul_ediv (i - (p - R) - (C.length + 2 * R : Nat)) (Q.length : Int)
   rw [e] at hd ⊢
   rw [Int.toNat_natCast,img_pieceI hm]
   congr 2
   generalize (i - (p - (R : Int)) - ((C.length + 2 * R : Nat) : Int)) / (Q.length : Int) = z at hd
   refine (piece_right (q:=z) (by omega) (by omega) ?_).symm
   omega
end Go.Proofs.YtjiadfblphdchaaGreatDoor
namespace Go.Proofs.YtjiadfblphdchaaGreatDoor
/-- The blocks of a row's image. -/
def imL (K R : Nat) (T : List Int) (p : Int) (L C Q : List Int) : List Int:=imgP K R T (pieceP p L C Q (p - R - L.length - R) (L.length + 2 * R))
def imC (K R : Nat) (T : List Int) (p : Int) (L C Q : List Int) : List Int:=imgP K R T (pieceP p L C Q (p - R - R) (C.length + 2 * R + 2 * R))
def imQ (K R : Nat) (T : List Int) (p : Int) (L C Q : List Int) : List Int:=imgP K R T (pieceP p L C Q (p - R + (C.length + 2 * R : Nat) - R) (Q.length + 2 * R))
theorem imL_len (K R : Nat) (T : List Int) (p : Int) (L C Q : List Int) : (imL K R T p L C Q).length = L.length:=by unfold imL; rw [imgP_length,pieceP_len]; omega
theorem imC_len (K R : Nat) (T : List Int) (p : Int) (L C Q : List Int) : (imC K R T p L C Q).length = C.length + 2 * R:=by unfold imC; rw [imgP_length,pieceP_len]; omega
theorem imQ_len (K R : Nat) (T : List Int) (p : Int) (L C Q : List Int) : (imQ K R T p L C Q).length = Q.length:=by unfold imQ; rw [imgP_length,pieceP_len]; omega
theorem im_cell {K R : Nat} {T : List Int} {p : Int} {L C Q : List Int} (l1 : 1 ≤ L.length) (q1 : 1 ≤ Q.length) (i : Int) : cellP (p - R) (imL K R T p L C Q) (imC K R T p L C Q) (imQ K R T p L C Q) i = T.getD (numW K (pieceP p L C Q (i - R) (2 * R + 1))) 0:=image_cell l1 q1 i
/-- A piece of a row's image is the image of a piece. -/
theorem im_piece {K R : Nat} {T : List Int} {p : Int} {L C Q : List Int} (l1 : 1 ≤ L.length) (q1 : 1 ≤ Q.length) (f : Int) (n : Nat) : pieceP (p - R) (imL K R T p L C Q) (imC K R T p L C Q) (imQ K R T p L C Q) f n = imgP K R T (pieceP p L C Q (f - R) (n + 2 * R)):=by
 refine ext_getD (by rw [pieceP_len,imgP_length,pieceP_len]; omega) fun t ht => ?_
 rw [pieceP_len] at ht
 rw [pieceP_get ht,im_cell l1 q1,img_pieceI ht]
 congr 3
 omega
/-- There and back: the row. -/
theorem row_back {K R d : Nat} {T S : List Int} (h : TakesBack K R T d S) {p : Int} {L C Q : List Int} (l1 : 1 ≤ L.length) (q1 : 1 ≤ Q.length) (sL : Syms K L) (sC : Syms K C) (sQ : Syms K Q) (i : Int) :
 cellP (p - R - d) (imL K d S (p - R) (imL K R T p L C Q) (imC K R T p L C Q) (imQ K R T p L C Q)) (imC K d S (p - R) (imL K R T p L C Q) (imC K R T p L C Q) (imQ K R T p L C Q)) (imQ K d S (p - R) (imL K R T p L C Q) (imC K R T p L C Q) (imQ K R T p L C Q)) i = cellP p L C Q i:=by
 rw [im_cell (by rw [imL_len]; exact l1) (by rw [imQ_len]; exact q1),im_piece l1 q1]
 rw [h _ (pieceP_syms sL sC sQ l1 q1 _ _) (by rw [pieceP_len]; omega),pieceP_get (by omega)]
 congr 1
 omega
end Go.Proofs.YtjiadfblphdchaaGreatDoor
