/-
  Walks: package permut.
  Walks: permut.check, permut.fits.
  Walk: permut.Right.
  Walk: permut.Left.
  Plain mathematics of layer 7: the symbol of a row at a place, pieces of rows, twins in a row.
  Walk: inverse.back: the first word whose image is not taken back.
  Walk: the method fill of inverse.guess, by induction on the symbols that are still to come.
  Several rows of memory of one's own, under names, no two in one block: what a store, an append, a new row does to them.
  The memory of graph's search under names: its box, the marks, the two stacks; what a store, an append, a shorter stack does to it.
  Walk: graph's search begins a vertex.
  Walk: graph's search ends a vertex.
  Plain mathematics: breadth first: the first of the shortest ways.
  A graph in memory: lists of ints that are read; its arrows as plain numbers.
-/
import Derived.Test.YtjiadfblphdchaaGreatDoorMVb2
import Derived.Deep.RegionHeld3
import Derived.BigQuiet
import Derived.Deep.QuietTactic
import Derived.Deep.DeepCutAuto
import Derived.Deep.LoopGhost
namespace Go.Proofs.YtjiadfblphdchaaGreatDoor
open Go.RowKit
set_option maxRecDepth 100000
end Go.Proofs.YtjiadfblphdchaaGreatDoor
namespace Go.Proofs.YtjiadfblphdchaaGreatDoor
open Go.RowKit
set_option maxRecDepth 100000
end Go.Proofs.YtjiadfblphdchaaGreatDoor
namespace Go.Proofs.YtjiadfblphdchaaGreatDoor
open Go.RowKit
set_option maxRecDepth 100000
end Go.Proofs.YtjiadfblphdchaaGreatDoor
namespace Go.Proofs.YtjiadfblphdchaaGreatDoor
open Go.RowKit
set_option maxRecDepth 100000
theorem run_makeI (C : Int) (n : Nat) (w : World) (hC : C = n) (hn : n ≤ 17592186044416) :
 ∃ v w',(Instr.makeSlice 22 (.int .i64 C) (.int .i64 C)).run Tryz.prog w = .ok v w' ∧ OwnI w.heap.size w' v (List.replicate n 0) ∧ Below w.heap.size w w':=by
 subst hC
 obtain ⟨i,hi,hz0,hz1,hz2⟩:=info_parts iInt
 obtain ⟨w',hrun,r1,r2⟩:=run_make_full (P:=Tryz.prog) w w.heap.size 22 3 i (.int .i64 0) 1 uInts hi hz0 hz1 .i64 .i64 n (by rw [hz2]; omega) (by unfold maxLen; omega) (Nat.le_refl _)
 refine ⟨_,w',hrun,?_,(Below.refl _ _).grown r2 (Nat.le_refl _) (by intro k hk; cases hk)⟩
 have e : (madeCells (Value.cells (.int .i64 0)) (n * 1)).toList = (List.replicate n (0 : Int)).map (Value.int .i64):=by
  rw [show Value.cells (.int .i64 0) = #[.int .i64 0] from rfl,toList_madeCells_one]; simp
 rw [e] at r1
 simpa [OwnI] using r1
/-- What is left of an owned slice from a place on. -/
theorem OwnI.post {B : Nat} {w : World} {v : Value} {xs : List Int} (h : OwnI B w v xs) (off : Nat) (ho : off ≤ xs.length) :
 ∃ dp dLen dCap,(∀ w',(Instr.slice 22 v (some (.int .i64 off)) none none).run Tryz.prog w' = .ok (.slice dp dLen dCap) w') ∧ dLen = xs.length - off ∧ (0 < xs.length - off → dp = some (valAt v off)):=by
 rcases h.2 with ⟨rfl,hn⟩ | ⟨g,cap,cur,rfl,hB,hg,hn,hm,hs,ht⟩
 ·have hr : ∀ w',(Instr.slice 22 (.slice none 0 0) (some (.int .i64 off)) none none).run Tryz.prog w' = .ok (sliced none off 0 0 1) w':=by
   intro w'
   rw [run_slice_l w' 22 none 0 0 uIntsE .i64 off (by omega) (by omega),eInts,sInt]
   rfl
  exact ⟨_,_,_,hr,by omega,by intro hh; omega⟩
 ·have hr : ∀ w',(Instr.slice 22 (.slice (some ⟨g,0,none⟩) xs.length cap) (some (.int .i64 off)) none none).run Tryz.prog w' = .ok (sliced (some ⟨g,0,none⟩) off xs.length cap 1) w':=by
   intro w'
   rw [run_slice_l w' 22 (some ⟨g,0,none⟩) xs.length cap uIntsE .i64 off (by omega) (by omega),eInts,sInt]
   rfl
  refine ⟨_,_,_,hr,rfl,fun hh => ?_⟩
  rw [if_neg (by omega),valAt_row]
  simp [Addr.add]
  intro e; exact e.symm
end Go.Proofs.YtjiadfblphdchaaGreatDoor
namespace Go.Proofs.YtjiadfblphdchaaGreatDoor
/-- The symbol of a row at a place. -/
def cellP (p : Int) (L C Q : List Int) (i : Int) : Int :=
 if i - p < 0 then L.getD ((i - p) % (L.length : Int)).toNat 0
 else if i - p < C.length then C.getD (i - p).toNat 0
 else Q.getD ((i - p - C.length) % (Q.length : Int)).toNat 0
/-- n symbols from a place on. -/
def pieceP (p : Int) (L C Q : List Int) (f : Int) (n : Nat) : List Int:=(List.range n).map fun i : Nat => cellP p L C Q (f + i)
theorem pieceP_len (p : Int) (L C Q : List Int) (f : Int) (n : Nat) : (pieceP p L C Q f n).length = n:=by simp [pieceP]
theorem pieceP_get {p : Int} {L C Q : List Int} {f : Int} {n i : Nat} (h : i < n) : (pieceP p L C Q f n).getD i 0 = cellP p L C Q (f + i):=by simp [pieceP,List.getD,h]
theorem pieceP_add (p : Int) (L C Q : List Int) (f : Int) (n m : Nat) : pieceP p L C Q f (n + m) = pieceP p L C Q f n ++ pieceP p L C Q (f + n) m:=by
 unfold pieceP
 rw [List.range_add,List.map_append,List.map_map]
 congr 1
 refine List.map_congr_left fun i _ => ?_
 simp [Int.add_assoc]
theorem pieceP_succ (p : Int) (L C Q : List Int) (f : Int) (n : Nat) : pieceP p L C Q f (n + 1) = pieceP p L C Q f n ++ [cellP p L C Q (f + n)]:=by
 rw [pieceP_add]; simp [pieceP]
theorem emod_nat {a : Int} {n : Nat} (hn : 1 ≤ n) : ∃ m : Nat,m < n ∧ a % (n : Int) = m:=by
 have h1:=Int.emod_nonneg a (show (n : Int) ≠ 0 by omega)
 have h2:=Int.emod_lt_of_pos a (show (0 : Int) < n by omega)
 exact ⟨(a % (n : Int)).toNat,by omega,by omega⟩
theorem getD_syms {K : Int} {x : List Int} (h : Syms K x) {i : Nat} (hi : i < x.length) : 0 ≤ x.getD i 0 ∧ x.getD i 0 < K:=by
 have e : x.getD i 0 = x[i]:=by simp [List.getD,hi]
 rw [e]; exact h _ (List.getElem_mem hi)
theorem cellP_syms {K : Int} {p : Int} {L C Q : List Int} (hL : Syms K L) (hC : Syms K C) (hQ : Syms K Q) (l1 : 1 ≤ L.length) (q1 : 1 ≤ Q.length) (i : Int) : 0 ≤ cellP p L C Q i ∧ cellP p L C Q i < K:=by
 unfold cellP
 split
 ·obtain ⟨m,hm,e⟩:=emod_nat (a:=i - p) l1
  rw [e,Int.toNat_natCast]; exact getD_syms hL hm
 ·split
  ·exact getD_syms hC (by omega)
  ·obtain ⟨m,hm,e⟩:=emod_nat (a:=i - p - C.length) q1
   rw [e,Int.toNat_natCast]; exact getD_syms hQ hm
theorem pieceP_syms {K : Int} {p : Int} {L C Q : List Int} (hL : Syms K L) (hC : Syms K C) (hQ : Syms K Q) (l1 : 1 ≤ L.length) (q1 : 1 ≤ Q.length) (f : Int) (n : Nat) : Syms K (pieceP p L C Q f n):=by
 intro x hx
 obtain ⟨i,_,rfl⟩:=List.mem_map.1 hx
 exact cellP_syms hL hC hQ l1 q1 _
end Go.Proofs.YtjiadfblphdchaaGreatDoor
namespace Go.Proofs.YtjiadfblphdchaaGreatDoor
open Go.RowKit
set_option maxRecDepth 100000
set_option maxHeartbeats 4000000 in
theorem inv_back (K R d N : Nat) (va : Option Addr) (vn vc : Nat) (T : List Int) (ua : Option Addr) (un uc : Nat) (S : List Int) (w : World) (h : IntsAt w (.slice va vn vc) T) (h' : IntsAt w (.slice ua un uc) S) (hr : RuleOk K R T) (hs : RuleOk K d S) (hR : R + d ≤ 4) (hN : N = pw K (2 * (R + d) + 1)) :
 Calls Tryz.prog 56 #[.agg #[.int .i64 K,.int .i64 R,.slice va vn vc],.agg #[.int .i64 K,.int .i64 d,.slice ua un uc],.int .i64 N] w (Ret1 (fun x _ => x = .int .i64 (backP K R T d S)) w):=by
 have hk1:=hr.k1
 have hk4:=hr.k4
 have b0:=Below.step (belowAlloc w (.cells #[.int .i64 K,.int .i64 R,.slice va vn vc] 24)) (belowAlloc _ (.cells #[.int .i64 K,.int .i64 d,.slice ua un uc] 24))
 have q : Box3 ((w.alloc (.cells #[.int .i64 K,.int .i64 R,.slice va vn vc] 24)).alloc (.cells #[.int .i64 K,.int .i64 d,.slice ua un uc] 24)) w.heap.size (.int .i64 K) (.int .i64 R) (.slice va vn vc):=by simp [Box3,go_sem]
 have q' : Box3 ((w.alloc (.cells #[.int .i64 K,.int .i64 R,.slice va vn vc] 24)).alloc (.cells #[.int .i64 K,.int .i64 d,.slice ua un uc] 24)) (w.heap.size + 1) (.int .i64 K) (.int .i64 d) (.slice ua un uc):=by simp [Box3,go_sem]
 obtain ⟨w0,hw0⟩ : ∃ W : World,(w.alloc (.cells #[.int .i64 K,.int .i64 R,.slice va vn vc] 24)).alloc (.cells #[.int .i64 K,.int .i64 d,.slice ua un uc] 24) = W:=⟨_,rfl⟩
 rw [hw0] at b0 q q'
 replace h:=h.below b0
 replace h':=h'.below b0
 have lT:=h.len
 have lS:=h'.len
 obtain ⟨tl,htl⟩ : ∃ t,T.length = t:=⟨_,rfl⟩
 obtain ⟨sl,hsl⟩ : ∃ t,S.length = t:=⟨_,rfl⟩
 have htb : tl ≤ 16384:=by rw [← htl]; exact hr.len_le
 have hsb : sl ≤ 16384:=by rw [← hsl]; exact hs.len_le
 have hs1 : 1 ≤ sl:=by rw [← hsl,hs.len]; exact pw_pos _ hk1
 rw [htl] at lT
 rw [hsl] at lS
 obtain ⟨Lq,hLq⟩ : ∃ q,tl / K = q:=⟨_,rfl⟩
 have hL1 : 1 ≤ Lq:=by
  rw [← hLq,← htl,hr.len,pw_succ,Nat.mul_div_cancel _ (by omega)]; exact pw_pos _ hk1
 have hLb : Lq ≤ 16384:=by rw [← hLq]; exact Nat.le_trans (Nat.div_le_self _ _) htb
 have hLz : ¬ Lq = 0:=by omega
 have hKz : ¬ K = 0:=by omega
 have hsz : ¬ sl = 0:=by omega
 obtain ⟨e1,e2⟩:=quoN hLq
 obtain ⟨c,hc⟩ : ∃ c,R + d = c:=⟨_,rfl⟩
 have hc1 : (R : Int) + (d : Int) = (c : Int):=by omega
 have hcb : c ≤ 4:=by omega
 obtain ⟨n,hn⟩ : ∃ n,2 * c + 1 = n:=⟨_,rfl⟩
 have hn1 : (2 : Int) * (c : Int) + 1 = (n : Int):=by omega
 have hnb : n ≤ 9:=by omega
 have hn2 : 1 ≤ n:=by omega
 have hNb : N ≤ 262144:=by rw [hN]; exact pw9 hk4 (by omega)
 have hLT:=Lib.hid htl
 replace htl:=Lib.hid htl
 replace hsl:=Lib.hid hsl
 replace hLq:=Lib.hid hLq
 replace hc:=Lib.hid hc
 replace hn:=Lib.hid hn
 replace hN:=Lib.hid hN
 replace hr:=Lib.hid hr
 replace hs:=Lib.hid hs
 replace h:=Lib.hid h
 replace h':=Lib.hid h'
 replace hw0:=Lib.hid hw0
 go_enter Tryz.func56,Tryz.ntmps56
 obtain ⟨⟨z0,z1,z2⟩,-,-,-⟩:=id q
 obtain ⟨⟨y0,y1,y2⟩,-,-,-⟩:=id q'
 go_upto_region 1 with fail
 rw [hw0.out]
 go_quiet (fail)
 go_wp2_with fail
 go_loopw [10,39] (fun mv iv wr => ∃ j : Nat,j ≤ c ∧ mv = .int .i64 ((pw K j : Nat) : Int) ∧ iv = .int .i64 j ∧ wr = w0.drewN nq) (fun _ iv _ => c - (intOf iv).toNat)
 case atStart => exact ⟨0,Nat.zero_le _,rfl,rfl,rfl⟩
 case round =>
  obtain ⟨j,hj,rfl,rfl,rfl⟩:=hrel
  by_cases hjc : j < c
  ·have dj : decide ((j : Int) < (c : Int)) = true:=decide_eq_true (by omega)
   have hP : pw K (j + 1) = pw K j * K:=pw_succ _ _
   have hPb : pw K (j + 1) ≤ 256:=pw4 hk4 (by omega)
   obtain ⟨P,hPn⟩ : ∃ P,pw K j = P:=⟨_,rfl⟩
   obtain ⟨P',hPn'⟩ : ∃ P,pw K (j + 1) = P:=⟨_,rfl⟩
   rw [hPn,hPn'] at hP
   rw [hPn'] at hPb
   rw [hPn]
   have hPK : (P : Int) * (K : Int) = (P' : Int):=by rw [hP]; simp
   replace hP:=Lib.hid hP
   replace hPn:=Lib.hid hPn
   replace hPn':=Lib.hid hPn'
   go_wp2
   go_roundw
   case measure => simp [intOf]; omega
   case rel => exact ⟨j + 1,by omega,by rw [hPn'.out],by go_num,trivial⟩
  ·obtain rfl : j = c:=by omega
   have dj : decide ((j : Int) < (j : Int)) = false:=decide_eq_false (by omega)
   obtain ⟨M,hM⟩ : ∃ P,pw K j = P:=⟨_,rfl⟩
   have hM1 : 1 ≤ M:=by rw [← hM]; exact pw_pos _ hk1
   have hMb : M ≤ 256:=by rw [← hM]; exact pw4 hk4 (by omega)
   rw [hM]
   obtain ⟨ov,w1,mk,ho,b1⟩:=run_makeI (n : Int) n (w0.drewN nq) rfl (by omega)
   obtain ⟨oa,on,oc,rfl⟩:=ho.at.shape
   replace b1 : Below w0.heap.size w0 w1:=(below_drewN (Below.refl _ _) nq).trans b1
   replace ho : OwnI w0.heap.size w1 (.slice oa on oc) (List.replicate n 0):=ho
   have hol : n - 1 < (List.replicate n (0 : Int)).length:=by simp; omega
   have hn3 : (n : Int) - 1 = ((n - 1 : Nat) : Int):=by omega
   have iA : ∀ w',(Instr.indexAt 22 (.slice oa on oc) (.int .i64 ((n : Int) - 1))).run Tryz.prog w' = .ok (.pointer (some (valAt (.slice oa on oc) (n - 1)))) w':=fun w' => by rw [hn3]; exact ho.at.idx (n - 1) hol w'
   obtain ⟨c0,cA⟩ : ∃ z,w1.cell? (valAt (.slice oa on oc) (n - 1)) = some z:=⟨_,ho.at.cell (n - 1) hol⟩
   have fA:=ho.frz (n - 1) hol
   have hset:=ho.set (n - 1) hol 1
   rw [wtL_one (K:=K) hn2] at hset
   have b2:=ho.setBelow b1 (n - 1) hol (.int .i64 1)
   obtain ⟨p,hp⟩ : ∃ p,valAt (.slice oa on oc) (n - 1) = p:=⟨_,rfl⟩
   rw [hp] at iA cA fA hset b2
   replace hset:=Lib.hid hset
   replace ho:=Lib.hid ho
   replace hp:=Lib.hid hp
   replace hM:=Lib.hid hM
   replace hn3:=Lib.hid hn3
   clear z0 z1 z2 y0 y1 y2
   obtain ⟨⟨z0,z1,z2⟩,-,-,-⟩:=q.below b1
   go_wp2_with fail
   clear mk z0 z1 z2 cA fA iA
   go_loopw [12] (fun iv wr => ∃ (m : Nat) (z : Int),iv = .int .i64 z ∧ z = (n : Int) - m - 1 ∧ 1 ≤ m ∧ m ≤ n ∧ OwnI w0.heap.size wr (.slice oa on oc) (wtL K n m) ∧ Below w0.heap.size w0 wr) (fun iv _ => (intOf iv + 1).toNat)
   case atStart => exact ⟨1,_,rfl,by omega,by omega,by omega,hset.out,b2⟩
   case round =>
    obtain ⟨m,z,rfl,hz,hm1,hmn,hO,hB⟩:=hrel
    obtain ⟨wo,rfl⟩ : ∃ wo : World,wo = wr:=⟨_,rfl⟩
    by_cases hlt : m < n
    ·obtain ⟨i,rfl⟩ : ∃ i : Nat,z = i:=⟨z.toNat,by omega⟩
     have di : decide ((0 : Int) ≤ (i : Int)) = true:=decide_eq_true (by omega)
     have hib : i ≤ 9:=by omega
     have hil : i < (wtL K n m).length:=by rw [wtL_len hmn]; omega
     have hil2 : i + 1 < (wtL K n m).length:=by rw [wtL_len hmn]; omega
     have i0:=fun w' => hO.at.idx i hil w'
     have i1 : ∀ w',(Instr.indexAt 22 (.slice oa on oc) (.int .i64 ((i : Int) + 1))).run Tryz.prog w' = .ok (.pointer (some (valAt (.slice oa on oc) (i + 1)))) w':=fun w' => hO.at.idx (i + 1) hil2 w'
     have v1:=hO.at.cellD (i + 1) hil2
     have hg:=wtL_get (K:=K) (n:=n) (m:=m) (j:=0) (by omega)
     rw [show n - m + 0 = i + 1 by omega,show m - 1 - 0 = m - 1 by omega] at hg
     rw [hg] at v1
     have hset2:=hO.set i hil ((pw K m : Nat) : Int)
     have hst:=wtL_step (K:=K) hlt
     rw [show n - m - 1 = i by omega] at hst
     rw [hst] at hset2
     have b3:=hO.setBelow hB i hil (.int .i64 ((pw K m : Nat) : Int))
     obtain ⟨c1,cI⟩ : ∃ z,wo.cell? (valAt (.slice oa on oc) i) = some z:=⟨_,hO.at.cell i hil⟩
     have fI:=hO.frz i hil
     have hP : pw K m = pw K (m - 1) * K:=by rw [← pw_succ]; congr 1; omega
     have hPb : pw K m ≤ 262144:=pw9 hk4 (by omega)
     obtain ⟨P,hPn⟩ : ∃ P,pw K (m - 1) = P:=⟨_,rfl⟩
     obtain ⟨P',hPn'⟩ : ∃ P,pw K m = P:=⟨_,rfl⟩
     rw [hPn,hPn'] at hP
     rw [hPn'] at hPb hset2 b3
     rw [hPn] at v1
     have hPK : (P : Int) * (K : Int) = (P' : Int):=by rw [hP]; simp
     have k1:=wrapK (x:=(i : Int) + 1) (by omega) (by omega)
     have k2:=wrapK (x:=(P' : Int)) (by omega) (by omega)
     obtain ⟨p0,hp0⟩ : ∃ p,valAt (.slice oa on oc) i = p:=⟨_,rfl⟩
     obtain ⟨p1,hp1⟩ : ∃ p,valAt (.slice oa on oc) (i + 1) = p:=⟨_,rfl⟩
     rw [hp0] at i0 hset2 b3 cI fI
     rw [hp1] at i1 v1
     have hset3 : OwnI w0.heap.size (wo.drew.setCell p0 (.int .i64 P')) (.slice oa on oc) (wtL K n (m + 1)):=hset2
     have b4 : Below w0.heap.size w0 (wo.drew.setCell p0 (.int .i64 P')):=b3.drew
     obtain ⟨W,hW⟩ : ∃ W : World,wo.drew = W:=⟨_,rfl⟩
     have hS : W.cell? ⟨w.heap.size,0,none⟩ = some (.int .i64 K) ∧ W.cell? p1 = some (.int .i64 P):=by rw [← hW]; exact ⟨(q.below hB).1.1,v1⟩
     have cW : W.cell? p0 = some c1:=by rw [← hW]; exact cI
     have fW : W.frozen? p0 = false:=by rw [← hW]; exact fI
     rw [hW] at hset3 b4
     replace hset2:=Lib.hid hset3
     replace hW:=Lib.hid hW
     replace hP:=Lib.hid hP
     replace hPn:=Lib.hid hPn
     replace hPn':=Lib.hid hPn'
     replace hp0:=Lib.hid hp0
     replace hp1:=Lib.hid hp1
     replace hO:=Lib.hid hO
     replace hz:=Lib.hid hz
     clear hst hg hset3 cI fI v1
     go_upto_region 13 with fail
     refine wp_region_plan (fun w' => w'.cell? ⟨w.heap.size,0,none⟩ = some (.int .i64 K) ∧ w'.cell? p1 = some (.int .i64 P)) 11 [(0,true),(1,true),(2,true),(3,true),(4,true),(5,true),(6,true),(7,true),(8,true),(9,true),(10,true)] (by kernel_rfl) (by kernel_rfl) ?_
     rw [hW.out]
     refine pqY 58 hS ?_
     refine pqY 59 hS ?_
     refine pqY 60 hS ?_
     refine pqY 61 hS ?_
     refine pqY 62 hS ?_
     refine pqY 63 hS ?_
     refine pqY 64 hS ?_
     refine pqY 65 hS ?_
     refine pqY 66 hS ?_
     refine pqY 67 hS ?_
     refine pqY 68 hS ?_
     refine head0 ?_
     simp only [List.drop_succ_cons,List.drop_zero]
     go_wp2
     refine NoPanic.normal ?_
     go_wp2
     go_roundw
     case measure => simp only [intOf]; have:=hz.out; omega
     case rel => exact ⟨m + 1,(i : Int) - 1,rfl,by have:=hz.out; omega,by omega,by omega,hset2.out,b4⟩
    ·obtain rfl : n = m:=by omega
     have dz : decide ((0 : Int) ≤ z) = false:=decide_eq_false (by omega)
     have lW : ∀ w',(Builtin.len_ #[22] 3 #[.slice oa on oc]).run Tryz.prog w' = .ok (.int .i64 n) w':=fun w' => by have:=hO.at.len w'; rwa [wtL_len (Nat.le_refl _)] at this
     have hTo:=h.out.below hB
     have hSo:=h'.out.below hB
     have bO:=Below.step b0 hB
     replace hO:=Lib.hid hO
     replace hz:=Lib.hid hz
     replace hTo:=Lib.hid hTo
     replace hSo:=Lib.hid hSo
     go_wp2_with fail
     go_loopw [70] (fun iv wr => ∃ i : Nat,i ≤ N ∧ iv = .int .i64 i ∧ (∀ k,k < i → badB K R T d S k = false) ∧ ∃ q,wr = wo.drewN q) (fun iv _ => N - (intOf iv).toNat)
     case atStart => exact ⟨0,Nat.zero_le _,rfl,fun k hk => absurd hk (Nat.not_lt_zero _),0,rfl⟩
     case round =>
      obtain ⟨i,hi,rfl,hbad,nr,rfl⟩:=hrel
      by_cases hiN : i < N
      ·have di : decide ((i : Int) < (N : Int)) = true:=decide_eq_true (by omega)
       obtain ⟨⟨z0,z1,z2⟩,-,-,-⟩:=q.below hB
       obtain ⟨⟨y0,y1,y2⟩,-,-,-⟩:=q'.below hB
       replace hbad:=Lib.hid hbad
       go_wp2_with fail
       go_loopw [14,15,75] (fun av xv jv wr => ∃ j : Nat,j ≤ n ∧ av = .int .i64 ((winJ K n i j tl : Nat) : Int) ∧ xv = .int .i64 ((imgJ K R T n i j sl : Nat) : Int) ∧ jv = .int .i64 j ∧ ∃ q,wr = wo.drewN q) (fun _ _ jv _ => n - (intOf jv).toNat)
       case atStart => exact ⟨0,Nat.zero_le _,by rw [winJ_zero]; rfl,by rw [imgJ_zero]; rfl,rfl,_,rfl⟩
       case round =>
        obtain ⟨t,ht,rfl,rfl,rfl,ns,rfl⟩:=hrel
        by_cases htn : t < n
        ·have dt : decide ((t : Int) < (n : Int)) = true:=decide_eq_true (by omega)
         have hw:=winJ_step hr.out (i:=i) htn
         have hx:=imgJ_step hr.out (i:=i) htn sl
         rw [htl.out,hLq.out] at hw
         rw [htl.out] at hx
         have ha1:=winJ_lt (K:=K) (n:=n) (i:=i) (j:=t) (L:=tl) (by have:=hr.out.len; rw [htl.out] at this; rw [this]; exact pw_pos _ hk1)
         have ha2:=winJ_lt (K:=K) (n:=n) (i:=i) (j:=t + 1) (L:=tl) (by omega)
         have hx1:=imgJ_lt (K:=K) (R:=R) (T:=T) (n:=n) (i:=i) (j:=t) hs1
         have hx2:=imgJ_lt (K:=K) (R:=R) (T:=T) (n:=n) (i:=i) (j:=t + 1) hs1
         obtain ⟨a,ha⟩ : ∃ a,winJ K n i t tl = a:=⟨_,rfl⟩
         obtain ⟨a',ha'⟩ : ∃ a,winJ K n i (t + 1) tl = a:=⟨_,rfl⟩
         obtain ⟨x,hxx⟩ : ∃ a,imgJ K R T n i t sl = a:=⟨_,rfl⟩
         obtain ⟨x',hxx'⟩ : ∃ a,imgJ K R T n i (t + 1) sl = a:=⟨_,rfl⟩
         rw [ha,hxx]
         rw [ha,ha'] at hw
         rw [hxx,hxx',ha'] at hx
         rw [ha] at ha1
         rw [ha'] at ha2
         rw [hxx] at hx1
         rw [hxx'] at hx2
         have hwt1 : 1 ≤ pw K (n - 1 - t):=pw_pos _ hk1
         have htO : t < (wtL K n n).length:=by rw [wtL_len (Nat.le_refl _)]; exact htn
         have iW:=fun w' => hO.out.at.idx t htO w'
         have cW:=hO.out.at.cellD t htO
         rw [wtL_full htn] at cW
         obtain ⟨wt,hwt⟩ : ∃ a,pw K (n - 1 - t) = a:=⟨_,rfl⟩
         rw [hwt] at hw cW hwt1
         obtain ⟨am,ham⟩ : ∃ q,a % Lq = q:=⟨_,rfl⟩
         obtain ⟨m1,m2⟩:=remN ham
         have hamb : am < Lq:=by rw [← ham]; exact Nat.mod_lt _ (by omega)
         obtain ⟨g,hg⟩ : ∃ q,i / wt = q:=⟨_,rfl⟩
         obtain ⟨g1,g2⟩:=quoN hg
         have hgb : g ≤ 262144:=by rw [← hg]; exact Nat.le_trans (Nat.div_le_self _ _) (by omega)
         obtain ⟨s,hs9⟩ : ∃ q,g % K = q:=⟨_,rfl⟩
         obtain ⟨s1,s2⟩:=remN hs9
         have hsK : s < K:=by rw [← hs9]; exact Nat.mod_lt _ (by omega)
         rw [ham,hg,hs9] at hw
         obtain ⟨ak,hak⟩ : ∃ q,am * K = q:=⟨_,rfl⟩
         have hak1 : (am : Int) * (K : Int) = (ak : Int):=by rw [← hak]; simp
         have hakb : ak ≤ 16384 * 4:=by rw [← hak]; exact Nat.mul_le_mul (by omega) hk4
         rw [hak] at hw
         have hw1 : (ak : Int) + (s : Int) = (a' : Int):=by omega
         have iT:=fun w' => hTo.out.idx a' (by rw [htl.out]; exact ha2) w'
         have cT:=hTo.out.cellD a' (by rw [htl.out]; exact ha2)
         have hxs:=getD_syms hr.out.syms (show a' < T.length by rw [htl.out]; exact ha2)
         obtain ⟨y,hy⟩ : ∃ y,T.getD a' 0 = y:=⟨_,rfl⟩
         rw [hy] at hxs cT hx
         obtain ⟨yn,rfl⟩ : ∃ m : Nat,y = (m : Int):=⟨y.toNat,by omega⟩
         rw [Int.toNat_natCast] at hx
         obtain ⟨xk,hxk⟩ : ∃ q,x * K = q:=⟨_,rfl⟩
         have hxk1 : (x : Int) * (K : Int) = (xk : Int):=by rw [← hxk]; simp
         have hxkb : xk ≤ 16384 * 4:=by rw [← hxk]; exact Nat.mul_le_mul (by omega) hk4
         rw [hxk] at hx
         obtain ⟨xs,hxsum⟩ : ∃ q,xk + yn = q:=⟨_,rfl⟩
         have hxs1 : (xk : Int) + (yn : Int) = (xs : Int):=by omega
         rw [hxsum] at hx
         have hxsb : xs ≤ 70000:=by omega
         obtain ⟨xm,hxm⟩ : ∃ q,xs % sl = q:=⟨_,rfl⟩
         obtain ⟨r1,r2⟩:=remN hxm
         rw [hxm] at hx
         have hxmb : xm < sl:=by rw [← hxm]; exact Nat.mod_lt _ (by omega)
         obtain ⟨pw_,hpw⟩ : ∃ p,valAt (.slice oa on oc) t = p:=⟨_,rfl⟩
         obtain ⟨pt,hpt⟩ : ∃ p,valAt (.slice va vn vc) a' = p:=⟨_,rfl⟩
         rw [hpw] at iW cW
         rw [hpt] at iT cT
         have k1:=wrapK (x:=(ak : Int)) (by omega) (by omega)
         have k2:=wrapK (x:=(a' : Int)) (by omega) (by omega)
         have k3:=wrapK (x:=(xk : Int)) (by omega) (by omega)
         have k4:=wrapK (x:=(xs : Int)) (by omega) (by omega)
         have k5:=wrapK (x:=(g : Int)) (by omega) (by omega)
         have k6:=wrapK (x:=(s : Int)) (by omega) (by omega)
         have k7:=wrapK (x:=(am : Int)) (by omega) (by omega)
         have k8:=wrapK (x:=(xm : Int)) (by omega) (by omega)
         have hwz : ¬ wt = 0:=by omega
         clear ha1 ha2 hx1 hwt1
         replace hw:=Lib.hid hw
         replace ha:=Lib.hid ha
         replace ha':=Lib.hid ha'
         replace hxx:=Lib.hid hxx
         replace hxx':=Lib.hid hxx'
         replace hwt:=Lib.hid hwt
         replace ham:=Lib.hid ham
         replace hg:=Lib.hid hg
         replace hs9:=Lib.hid hs9
         replace hak:=Lib.hid hak
         replace hy:=Lib.hid hy
         replace hxk:=Lib.hid hxk
         replace hxsum:=Lib.hid hxsum
         replace hxm:=Lib.hid hxm
         replace hpw:=Lib.hid hpw
         replace hpt:=Lib.hid hpt
         by_cases hge : 2 * R ≤ t
         ·have dg : decide ((2 : Int) * (R : Int) ≤ (t : Int)) = true:=decide_eq_true (by omega)
          rw [if_pos hge] at hx
          subst hx
          go_upto_region 21 with fail
          go_quiet (fail)
          go_upto_region 23 with fail
          go_quiet (fail)
          go_wp2
          go_roundw
          case measure => simp [intOf]; omega
          case rel => exact ⟨t + 1,by omega,by rw [ha'.out],by rw [hxx'.out],by go_num,_,rfl⟩
         ·have dg : decide ((2 : Int) * (R : Int) ≤ (t : Int)) = false:=decide_eq_false (by omega)
          rw [if_neg hge] at hx
          subst hx
          go_upto_region 21 with fail
          go_quiet (fail)
          go_wp2
          go_roundw
          case measure => simp [intOf]; omega
          case rel => exact ⟨t + 1,by omega,by rw [ha'.out],by rw [hxx'.out],by go_num,_,rfl⟩
        ·obtain rfl : n = t:=by omega
         have dt : decide ((n : Int) < (n : Int)) = false:=decide_eq_false (by omega)
         have hxl:=imgJ_lt (K:=K) (R:=R) (T:=T) (n:=n) (i:=i) (j:=n) hs1
         have hbi:=bad_iff (K:=K) (R:=R) (d:=d) (i:=i) (T:=T) (S:=S) hr.out (L:=sl) (by rw [← hsl.out]; exact hs.out.len)
         rw [hc.out,hn.out,hM.out] at hbi
         obtain ⟨im,him⟩ : ∃ a,imgJ K R T n i n sl = a:=⟨_,rfl⟩
         rw [him] at hbi hxl ⊢
         have iS:=fun w' => hSo.out.idx im (by rw [hsl.out]; exact hxl) w'
         have cS:=hSo.out.cellD im (by rw [hsl.out]; exact hxl)
         obtain ⟨y,hy⟩ : ∃ y,S.getD im 0 = y:=⟨_,rfl⟩
         rw [hy] at cS hbi
         obtain ⟨g,hg⟩ : ∃ q,i / M = q:=⟨_,rfl⟩
         obtain ⟨g1,g2⟩:=quoN hg
         have hgb : g ≤ 262144:=by rw [← hg]; exact Nat.le_trans (Nat.div_le_self _ _) (by omega)
         obtain ⟨s,hs9⟩ : ∃ q,g % K = q:=⟨_,rfl⟩
         obtain ⟨s1,s2⟩:=remN hs9
         have hsK : s < K:=by rw [← hs9]; exact Nat.mod_lt _ (by omega)
         rw [hg,hs9] at hbi
         obtain ⟨ps,hps⟩ : ∃ p,valAt (.slice ua un uc) im = p:=⟨_,rfl⟩
         rw [hps] at iS cS
         have k5:=wrapK (x:=(g : Int)) (by omega) (by omega)
         have k6:=wrapK (x:=(s : Int)) (by omega) (by omega)
         have hMz : ¬ M = 0:=by omega
         have bE:=fun q => below_drewN bO q
         replace him:=Lib.hid him
         replace hy:=Lib.hid hy
         replace hg:=Lib.hid hg
         replace hs9:=Lib.hid hs9
         replace hps:=Lib.hid hps
         replace bE:=Lib.hid bE
         by_cases e : y = (s : Int)
         ·have dy : (y != (s : Int)) = false:=by rw [e]; simp
          rw [dy] at hbi
          have hbad2 : ∀ k,k < i + 1 → badB K R T d S k = false:=fun k hk => by
           by_cases ek : k = i
           ·subst ek; exact hbi
           ·exact hbad.out k (by omega)
          replace hbi:=Lib.hid hbi
          replace hbad2:=Lib.hid hbad2
          replace e:=Lib.hid e
          go_upto_region 25 with fail
          go_quiet (fail)
          go_wp2
          go_roundw
          case measure => simp [intOf]; omega
          case rel => exact ⟨i + 1,by omega,by go_num,hbad2.out,_,rfl⟩
         ·have dy : (y != (s : Int)) = true:=by rw [bne_iff_ne]; exact e
          rw [dy] at hbi
          replace hbi:=Lib.hid hbi
          replace e:=Lib.hid e
          go_upto_region 25 with fail
          go_quiet (fail)
          go_wp2
          go_ret
          exact ⟨_,rfl,below_drewN (bE.out _) _,by rw [back_first (n:=N) hN.out hiN hbi.out hbad.out]; rfl⟩
      ·obtain rfl : N = i:=by omega
       have di : decide ((N : Int) < (N : Int)) = false:=decide_eq_false (by omega)
       have bE:=below_drewN bO nr
       have hb:=back_none (fun k hk => hbad k (by rw [hN.out]; exact hk))
       replace hbad:=Lib.hid hbad
       replace hb:=Lib.hid hb
       go_wp2
       go_ret
       exact ⟨_,rfl,bE,by rw [hb.out]; rfl⟩
end Go.Proofs.YtjiadfblphdchaaGreatDoor
namespace Go.Proofs.YtjiadfblphdchaaGreatDoor
open Go.RowKit
set_option maxRecDepth 100000
/-- The five cells of a guess. -/
structure GBox (w : World) (G : Nat) (K R : Nat) (Tv : Value) (d : Nat) (tv : Value) : Prop where
 c0 : w.cell? ⟨G,0,none⟩ = some (.int .i64 K)
 c1 : w.cell? ⟨G,1,none⟩ = some (.int .i64 R)
 c2 : w.cell? ⟨G,2,none⟩ = some Tv
 c3 : w.cell? ⟨G,3,none⟩ = some (.int .i64 d)
 c4 : w.cell? ⟨G,4,none⟩ = some tv
theorem GBox.kept {w w' : World} {G tb K R d : Nat} {Tv tv : Value} (h : GBox w G K R Tv d tv) (hg : w.grownBy w' (some tb)) (hne : G ≠ tb) : GBox w' G K R Tv d tv:=by
 have k : ∀ {i x},w.cell? ⟨G,i,none⟩ = some x → w'.cell? ⟨G,i,none⟩ = some x:=fun {i x} hc => by
  rw [World.cell?_of_block (a:=⟨G,i,none⟩) (hg.block G (World.block_lt_of_cell? _ _ hc) (by simpa using hne))]; exact hc
 exact ⟨k h.c0,k h.c1,k h.c2,k h.c3,k h.c4⟩
theorem IntsAt.grown {w w' : World} {v : Value} {xs : List Int} {tb : Nat} (h : IntsAt w v xs) (hg : w.grownBy w' (some tb)) (hoff : ∀ i,i < xs.length → (valAt v i).block ≠ tb) : IntsAt w' v xs :=
 h.cells_eq fun i hi => World.cell?_of_block (hg.block _ (h.blk i hi) (by simpa using hoff i hi))
theorem setCell_grown {w : World} {v : Value} {i g n c : Nat} (hv : v = .slice (some ⟨g,0,none⟩) n c) (x : Value) : w.grownBy (w.setCell (valAt v i) x) (some g):=by
 subst hv
 rw [valAt_row]
 exact ⟨rfl,rfl,rfl,by simp [World.setCell],fun k _ hk => Below.heap_setCell _ _ _ _ (by simp at hk; omega)⟩
theorem drewN_grown (w : World) (n : Nat) (row : Option Nat) : w.grownBy (w.drewN n) row:=⟨rfl,rfl,rfl,Nat.le_refl _,fun _ _ _ => rfl⟩
set_option maxHeartbeats 3000000 in
theorem fill_any (K R d G tb tn tc B : Nat) (va : Option Addr) (vn vc : Nat) (T : List Int) (hr : RuleOk K R T) (hl : T.length ≤ 256) (hd : d ≤ 3) (hne : G ≠ tb) (hoff : ∀ i,i < T.length → (valAt (.slice va vn vc) i).block ≠ tb) :
 ∀ (f n front image middle : Nat) (w : World) (tab : List Int),n + f = 2 * (R + d) + 1 → FillOk K R T n front image → middle < K → GBox w G K R (.slice va vn vc) d (.slice (some ⟨tb,0,none⟩) tn tc) → IntsAt w (.slice va vn vc) T → OwnI B w (.slice (some ⟨tb,0,none⟩) tn tc) tab → tab.length = pw K (2 * d + 1) →
 Calls Tryz.prog 67 #[.pointer (some ⟨G,0,none⟩),.int .i64 front,.int .i64 image,.int .i64 middle,.int .i64 n] w fun e w' =>
  e = .returned (.bool (fillF K R (2 * (R + d) + 1) T f front image middle tab).1) ∧ OwnI B w' (.slice (some ⟨tb,0,none⟩) tn tc) (fillF K R (2 * (R + d) + 1) T f front image middle tab).2 ∧ w.grownBy w' (some tb):=by
 have hk1:=hr.k1
 have hk4:=hr.k4
 have hr3:=hr.r3
 intro f
 induction f with
 | zero =>
  intro n front image middle w tab hn hf hm hbox hT ho htl
  have him : image < tab.length:=by
   have:=hf.2
   rw [htl,show 2 * d + 1 = n - 2 * R by omega]; exact this
  have lT:=ho.at.len
  have iT:=fun w' => ho.at.idx image him w'
  have cT:=ho.at.cellD image him
  have fT:=ho.frz image him
  obtain ⟨y,hy⟩ : ∃ y,tab.getD image 0 = y:=⟨_,rfl⟩
  rw [hy] at cT
  have hset:=ho.set image him (middle : Int)
  have hgr:=setCell_grown (w:=w) (v:=.slice (some ⟨tb,0,none⟩) tn tc) (i:=image) rfl (.int .i64 (middle : Int))
  have hF : fillF K R (2 * (R + d) + 1) T 0 front image middle tab = if 0 ≤ y ∧ y ≠ (middle : Int) then (false,tab) else (true,tab.set image middle):=by unfold fillF; rw [hy]
  obtain ⟨p,hp⟩ : ∃ p,valAt (.slice (some ⟨tb,0,none⟩) tn tc) image = p:=⟨_,rfl⟩
  rw [hp] at iT cT fT hset hgr
  obtain ⟨z0,z1,z2,z3,z4⟩:=id hbox
  have hn1 : (2 : Int) * ((R : Int) + (d : Int)) + 1 = (n : Int):=by omega
  have hnn : ((n : Int) == (n : Int)) = true:=by simp
  replace hr:=Lib.hid hr
  replace hoff:=Lib.hid hoff
  replace hf:=Lib.hid hf
  replace hT:=Lib.hid hT
  replace ho:=Lib.hid ho
  replace hset:=Lib.hid hset
  replace hgr:=Lib.hid hgr
  replace hy:=Lib.hid hy
  replace hp:=Lib.hid hp
  replace hF:=Lib.hid hF
  replace hbox:=Lib.hid hbox
  replace htl:=Lib.hid htl
  by_cases hy0 : 0 ≤ y
  ·have d0 : decide ((0 : Int) ≤ y) = true:=decide_eq_true hy0
   by_cases hym : y = (middle : Int)
   ·have d1 : (y != (middle : Int)) = false:=by rw [hym]; simp
    rw [hF.out,if_neg (fun h => h.2 hym)]
    go_enter Tryz.func67,Tryz.ntmps67
    go_upto_region 1 with fail
    go_quiet (fail)
    go_wp2
    go_ret
    exact ⟨rfl,hset.out,hgr.out.trans (drewN_grown _ nq _)⟩
   ·have d1 : (y != (middle : Int)) = true:=by rw [bne_iff_ne]; exact hym
    rw [hF.out,if_pos ⟨hy0,hym⟩]
    go_enter Tryz.func67,Tryz.ntmps67
    go_upto_region 1 with fail
    go_quiet (fail)
    go_wp2
    go_ret
    exact ⟨rfl,ho.out,drewN_grown w nq _⟩
  ·have d0 : decide ((0 : Int) ≤ y) = false:=decide_eq_false hy0
   rw [hF.out,if_neg (fun h => hy0 h.1)]
   go_enter Tryz.func67,Tryz.ntmps67
   go_upto_region 1 with fail
   go_quiet (fail)
   go_wp2
   go_ret
   exact ⟨rfl,hset.out,hgr.out.trans (drewN_grown _ nq _)⟩
 | succ f ih =>
  intro n front image middle w tab hn hf hm hbox hT ho htl
  have lT:=hT.len
  obtain ⟨wd,hwd⟩ : ∃ wd,2 * (R + d) + 1 = wd:=⟨_,rfl⟩
  have hw1 : (2 : Int) * ((R : Int) + (d : Int)) + 1 = (wd : Int):=by omega
  have hnw : ((n : Int) == (wd : Int)) = false:=by rw [beq_eq_false_iff_ne]; omega
  have hh1 : (wd : Int).tdiv 2 = ((R + d : Nat) : Int):=by rw [Int.tdiv_eq_ediv_of_nonneg (by omega)]; omega
  have hh2 : (wd : Int) / 2 = ((R + d : Nat) : Int):=by omega
  have hnb : n ≤ 12:=by omega
  have hnsub : 2 * (R + d) + 1 - (f + 1) = n:=by omega
  have hhalf : (2 * (R + d) + 1) / 2 = R + d:=by omega
  obtain ⟨g,hg⟩ : ∃ g : Nat → List Int → Bool × List Int,g = fun s t => fillF K R (2 * (R + d) + 1) T f ((front * K + s) % (T.length / K)) (if 2 * R ≤ n then image * K + (T.getD (front * K + s) 0).toNat else image) (if n = R + d then s else middle) t:=⟨_,rfl⟩
  have hF : fillF K R (2 * (R + d) + 1) T (f + 1) front image middle tab = fillL g (List.range K) tab:=by
   rw [hg]
   conv => lhs; unfold fillF
   rw [hnsub,hhalf]
  rw [hF]
  have him : image < 16384:=Nat.lt_of_lt_of_le hf.2 (pw_le hk1 hk4 (by omega))
  have hTl : T.length / K ≤ 256:=Nat.le_trans (Nat.div_le_self _ _) hl
  have hf1:=hf.1
  have hfr : front < 256:=by omega
  obtain ⟨z0,z1,z2,z3,z4⟩:=id hbox
  obtain ⟨tl,htl2⟩ : ∃ tl,T.length = tl:=⟨_,rfl⟩
  rw [htl2] at lT hl
  obtain ⟨Lq,hLq⟩ : ∃ q,tl / K = q:=⟨_,rfl⟩
  rw [htl2,hLq] at hTl hf1
  have hLz : ¬ Lq = 0:=by omega
  have hLz2 : ((Lq : Int) == 0) = false:=by rw [beq_eq_false_iff_ne]; omega
  have hKz : ¬ K = 0:=by omega
  have hKz2 : ((K : Int) == 0) = false:=by rw [beq_eq_false_iff_ne]; omega
  have e1 : (tl : Int).tdiv (K : Int) = (Lq : Int):=by rw [Int.tdiv_eq_ediv_of_nonneg (by omega),← Int.natCast_ediv,hLq]
  have e2 : (tl : Int) / (K : Int) = (Lq : Int):=by rw [← Int.natCast_ediv,hLq]
  replace hr:=Lib.hid hr
  replace hoff:=Lib.hid hoff
  replace hf:=Lib.hid hf
  replace hT:=Lib.hid hT
  replace ho:=Lib.hid ho
  replace hF:=Lib.hid hF
  replace hg:=Lib.hid hg
  replace hbox:=Lib.hid hbox
  replace htl:=Lib.hid htl
  replace hwd:=Lib.hid hwd
  replace htl2:=Lib.hid htl2
  replace hLq:=Lib.hid hLq
  replace ih:=Lib.hid ih
  replace hhalf:=Lib.hid hhalf
  replace hnsub:=Lib.hid hnsub
  go_enter Tryz.func67,Tryz.ntmps67
  go_upto_region 1 with fail
  go_quiet (fail)
  go_wp2_with fail
  go_loopw [62] (fun iv wr => ∃ (s : Nat) (t : List Int),s ≤ K ∧ iv = .int .i64 s ∧ fillL g (List.range s) tab = (true,t) ∧ OwnI B wr (.slice (some ⟨tb,0,none⟩) tn tc) t ∧ w.grownBy wr (some tb)) (fun iv _ => K - (intOf iv).toNat)
  case atStart => exact ⟨0,tab,Nat.zero_le _,rfl,rfl,ho.out,drewN_grown w nq _⟩
  case round =>
   clear z0 z1 z2 z3 z4
   obtain ⟨s,t,hs,rfl,hft,hO,hG⟩:=hrel
   obtain ⟨wo,rfl⟩ : ∃ wo : World,wo = wr:=⟨_,rfl⟩
   by_cases hsK : s < K
   ·have ds : decide ((s : Int) < (K : Int)) = true:=decide_eq_true (by omega)
    obtain ⟨z0,z1,z2,z3,z4⟩:=hbox.out.kept hG hne
    have hTo:=hT.out.grown hG hoff.out
    have hwin:=hf.out.window hr.out hsK
    have hstep:=hf.out.step hr.out hsK
    have hgs : g s t = fillF K R (2 * (R + d) + 1) T f ((front * K + s) % (T.length / K)) (if 2 * R ≤ n then image * K + (T.getD (front * K + s) 0).toNat else image) (if n = R + d then s else middle) t:=by rw [hg.out]
    have htlen : t.length = pw K (2 * d + 1):=by
     have:=fillL_len (g:=g) (fun s t => by rw [hg.out]; exact fillF_len _ _ _ _ _ _ _ _ _) (List.range s) tab
     rw [hft] at this
     rw [← htl.out]; exact this
    have hxs:=getD_syms hr.out.syms hwin
    have iT:=fun w' => hTo.idx (front * K + s) hwin w'
    have cT:=hTo.cellD (front * K + s) hwin
    obtain ⟨x,hx⟩ : ∃ x,T.getD (front * K + s) 0 = x:=⟨_,rfl⟩
    rw [hx] at hxs cT hstep hgs
    obtain ⟨xn,rfl⟩ : ∃ m : Nat,x = (m : Int):=⟨x.toNat,by omega⟩
    rw [Int.toNat_natCast] at hstep hgs
    rw [htl2.out,hLq.out] at hstep hgs
    rw [htl2.out] at hwin
    obtain ⟨fk,hfk⟩ : ∃ q,front * K = q:=⟨_,rfl⟩
    have hfk1 : (front : Int) * (K : Int) = (fk : Int):=by rw [← hfk]; simp
    rw [hfk] at iT cT hwin hstep hgs hx
    obtain ⟨win,hwn⟩ : ∃ q,fk + s = q:=⟨_,rfl⟩
    have hwn1 : (fk : Int) + (s : Int) = (win : Int):=by omega
    rw [hwn] at iT cT hwin hstep hgs hx
    obtain ⟨wm,hwm⟩ : ∃ q,win % Lq = q:=⟨_,rfl⟩
    have hwml : wm < Lq:=by rw [← hwm]; exact Nat.mod_lt _ (by omega)
    have e3 : (win : Int).tmod (Lq : Int) = (wm : Int):=by rw [Int.tmod_eq_emod_of_nonneg (by omega),← Int.natCast_emod,hwm]
    have e4 : (win : Int) % (Lq : Int) = (wm : Int):=by rw [← Int.natCast_emod,hwm]
    rw [hwm] at hstep hgs
    have hik : image * K ≤ 16384 * 4:=Nat.mul_le_mul (by omega) hk4
    obtain ⟨ik,hikn⟩ : ∃ q,image * K = q:=⟨_,rfl⟩
    have hik1 : (image : Int) * (K : Int) = (ik : Int):=by rw [← hikn]; simp
    rw [hikn] at hstep hgs hik
    obtain ⟨px,hpx⟩ : ∃ p,valAt (.slice va vn vc) win = p:=⟨_,rfl⟩
    rw [hpx] at iT cT
    have hfkb : fk ≤ 1024:=by rw [← hfk]; exact Nat.le_trans (Nat.mul_le_mul (show front ≤ 256 by omega) hk4) (by decide)
    have hwinb : win ≤ 1028:=by omega
    have wL:=wrapK (x:=(Lq : Int)) (by omega) (by omega)
    have wn1:=wrapK (x:=(n : Int) + 1) (by omega) (by omega)
    replace hfk:=Lib.hid hfk
    replace hwn:=Lib.hid hwn
    replace hwm:=Lib.hid hwm
    replace hikn:=Lib.hid hikn
    replace hpx:=Lib.hid hpx
    replace hx:=Lib.hid hx
    replace hft:=Lib.hid hft
    replace hO:=Lib.hid hO
    replace hTo:=Lib.hid hTo
    replace htlen:=Lib.hid htlen
    by_cases hge : 2 * R ≤ n <;> by_cases hmid : n = R + d
    ·have hgs2 : g s t = fillF K R (2 * (R + d) + 1) T f wm (ik + xn) s t:=by rw [hgs,if_pos hge,if_pos hmid]
     have hst2 : FillOk K R T (n + 1) wm (ik + xn):=by rw [if_pos hge] at hstep; exact hstep
     have dg : decide ((2 : Int) * (R : Int) ≤ (n : Int)) = true:=decide_eq_true (by omega)
     have dm : ((n : Int) == ((R + d : Nat) : Int)) = true:=by rw [beq_iff_eq]; omega
     have e5 : ((n + 1 : Nat) : Int) = (n : Int) + 1:=rfl
     have e6 : (((ik + xn) : Nat) : Int) = (ik : Int) + (xn : Int):=Int.natCast_add _ _
     have hih : ∀ (W : World) (t : List Int),GBox W G K R (.slice va vn vc) d (.slice (some ⟨tb,0,none⟩) tn tc) → IntsAt W (.slice va vn vc) T → OwnI B W (.slice (some ⟨tb,0,none⟩) tn tc) t → t.length = pw K (2 * d + 1) →
      Calls Tryz.prog 67 #[.pointer (some ⟨G,0,none⟩),.int .i64 (wm : Int),.int .i64 ((ik : Int) + (xn : Int)),.int .i64 (s : Int),.int .i64 ((n : Int) + 1)] W fun e w' =>
       e = .returned (.bool (fillF K R (2 * (R + d) + 1) T f wm (ik + xn) s t).1) ∧ OwnI B w' (.slice (some ⟨tb,0,none⟩) tn tc) (fillF K R (2 * (R + d) + 1) T f wm (ik + xn) s t).2 ∧ W.grownBy w' (some tb):=fun W t a1 a2 a3 a4 => by
      have:=ih.out (n + 1) wm (ik + xn) s W t (by omega) hst2 (by omega) a1 a2 a3 a4
      rw [e5,e6] at this
      exact this
     clear e5 e6
     replace hmid:=Lib.hid hmid
     replace hgs:=Lib.hid hgs
     replace hgs2:=Lib.hid hgs2
     replace hst2:=Lib.hid hst2
     replace hstep:=Lib.hid hstep
     replace hih:=Lib.hid hih
     go_upto_region 13 with fail
     go_quiet (fail)
     go_upto_region 17 with fail
     refine wp_region_plan (fun w' => w'.cell? ⟨G,0,none⟩ = some (.int .i64 K) ∧ w'.cell? ⟨G,2,none⟩ = some (.slice va vn vc)) 20 [(0,true),(1,true),(2,true),(3,true),(4,true),(5,true),(6,true),(7,true),(8,true),(9,true),(10,true),(11,true),(12,true),(13,true),(14,true),(15,true),(16,true),(17,true),(18,true),(19,false)] (by kernel_rfl) (by kernel_rfl) ?_
     obtain ⟨W1,hW1⟩ : ∃ W' : World,(wo.drewN nq).drew = W':=⟨_,rfl⟩
     have hS1 : W1.cell? ⟨G,0,none⟩ = some (.int .i64 K) ∧ W1.cell? ⟨G,2,none⟩ = some (.slice va vn vc):=by rw [← hW1]; exact ⟨z0,z2⟩
     have hg1 : wo.grownBy W1 (some tb):=by rw [← hW1]; exact (drewN_grown wo nq _).trans (drewN_grown _ 1 _)
     have hO1 : OwnI B W1 (.slice (some ⟨tb,0,none⟩) tn tc) t:=by rw [← hW1]; exact hO.out
     rw [hW1]
     replace hW1:=Lib.hid hW1
     replace hO1:=Lib.hid hO1
     refine pqY 105 hS1 ?_
     refine pqY 106 hS1 ?_
     refine pqY 107 hS1 ?_
     refine pqY 108 hS1 ?_
     refine pqY 109 hS1 ?_
     refine pqY 110 hS1 ?_
     refine pqY 111 hS1 ?_
     refine pqY 112 hS1 ?_
     refine pqY 113 hS1 ?_
     refine pqY 114 hS1 ?_
     refine pqY 115 hS1 ?_
     refine pqY 116 hS1 ?_
     refine pqY 117 hS1 ?_
     refine pqY 118 hS1 ?_
     refine pqY 119 hS1 ?_
     refine pqY 120 hS1 ?_
     refine pqY 121 hS1 ?_
     refine pqY 122 hS1 ?_
     refine pqY 123 hS1 ?_
     refine headC rfl (fun KK hK => ?_)
     go_simp
     have hcall:=hih.out W1 t (hbox.out.kept (hG.trans hg1) hne) (hT.out.grown (hG.trans hg1) hoff.out) hO1.out htlen.out
     rw [← hgs2.out] at hcall
     refine hcall.mono ?_
     rintro e W2 ⟨rfl,hO2,hg2⟩
     have hG2:=(hG.trans hg1).trans hg2
     have hb2:=hbox.out.kept hG2 hne
     refine hK _ _ ⟨hb2.c0,hb2.c2⟩ ?_
     clear hK KK hS1
     refine head0 ?_
     simp only [List.drop_succ_cons,List.drop_zero]
     replace hO2:=Lib.hid hO2
     replace hb2:=Lib.hid hb2
     cases hb : (g s t).1 with
     | true =>
      have hsu:=fillL_succ hft.out
      have hpr : g s t = (true,(g s t).2):=Prod.ext hb rfl
      replace hsu:=Lib.hid hsu
      replace hpr:=Lib.hid hpr
      replace hb:=Lib.hid hb
      go_wp2
      refine NoPanic.normal ?_
      go_wp2
      go_roundw
      case measure => simp [intOf]; omega
      case rel => exact ⟨s + 1,(g s t).2,by omega,by go_num,by rw [hsu.out]; exact hpr.out,hO2.out,hG2⟩
     | false =>
      have hso:=fillL_stop hsK hft.out hb
      replace hb:=Lib.hid hb
      replace hso:=Lib.hid hso
      go_wp2
      refine NoPanic.normal ?_
      go_wp2
      go_ret
      exact ⟨by rw [hso.out,hb.out]; rfl,by rw [hso.out]; exact hO2.out,hG2⟩
    ·have hgs2 : g s t = fillF K R (2 * (R + d) + 1) T f wm (ik + xn) middle t:=by rw [hgs,if_pos hge,if_neg hmid]
     have hst2 : FillOk K R T (n + 1) wm (ik + xn):=by rw [if_pos hge] at hstep; exact hstep
     have dg : decide ((2 : Int) * (R : Int) ≤ (n : Int)) = true:=decide_eq_true (by omega)
     have dm : ((n : Int) == ((R + d : Nat) : Int)) = false:=by rw [beq_eq_false_iff_ne]; omega
     have e5 : ((n + 1 : Nat) : Int) = (n : Int) + 1:=rfl
     have e6 : (((ik + xn) : Nat) : Int) = (ik : Int) + (xn : Int):=Int.natCast_add _ _
     have hih : ∀ (W : World) (t : List Int),GBox W G K R (.slice va vn vc) d (.slice (some ⟨tb,0,none⟩) tn tc) → IntsAt W (.slice va vn vc) T → OwnI B W (.slice (some ⟨tb,0,none⟩) tn tc) t → t.length = pw K (2 * d + 1) →
      Calls Tryz.prog 67 #[.pointer (some ⟨G,0,none⟩),.int .i64 (wm : Int),.int .i64 ((ik : Int) + (xn : Int)),.int .i64 (middle : Int),.int .i64 ((n : Int) + 1)] W fun e w' =>
       e = .returned (.bool (fillF K R (2 * (R + d) + 1) T f wm (ik + xn) middle t).1) ∧ OwnI B w' (.slice (some ⟨tb,0,none⟩) tn tc) (fillF K R (2 * (R + d) + 1) T f wm (ik + xn) middle t).2 ∧ W.grownBy w' (some tb):=fun W t a1 a2 a3 a4 => by
      have:=ih.out (n + 1) wm (ik + xn) middle W t (by omega) hst2 (by omega) a1 a2 a3 a4
      rw [e5,e6] at this
      exact this
     clear e5 e6
     replace hmid:=Lib.hid hmid
     replace hgs:=Lib.hid hgs
     replace hgs2:=Lib.hid hgs2
     replace hst2:=Lib.hid hst2
     replace hstep:=Lib.hid hstep
     replace hih:=Lib.hid hih
     go_upto_region 13 with fail
     go_quiet (fail)
     go_upto_region 17 with fail
     refine wp_region_plan (fun w' => w'.cell? ⟨G,0,none⟩ = some (.int .i64 K) ∧ w'.cell? ⟨G,2,none⟩ = some (.slice va vn vc)) 20 [(0,true),(1,true),(2,true),(3,true),(4,true),(5,true),(6,true),(7,true),(8,true),(9,true),(10,true),(11,true),(12,true),(13,true),(14,true),(15,true),(16,true),(17,true),(18,true),(19,false)] (by kernel_rfl) (by kernel_rfl) ?_
     obtain ⟨W1,hW1⟩ : ∃ W' : World,(wo.drewN nq).drew = W':=⟨_,rfl⟩
     have hS1 : W1.cell? ⟨G,0,none⟩ = some (.int .i64 K) ∧ W1.cell? ⟨G,2,none⟩ = some (.slice va vn vc):=by rw [← hW1]; exact ⟨z0,z2⟩
     have hg1 : wo.grownBy W1 (some tb):=by rw [← hW1]; exact (drewN_grown wo nq _).trans (drewN_grown _ 1 _)
     have hO1 : OwnI B W1 (.slice (some ⟨tb,0,none⟩) tn tc) t:=by rw [← hW1]; exact hO.out
     rw [hW1]
     replace hW1:=Lib.hid hW1
     replace hO1:=Lib.hid hO1
     refine pqY 105 hS1 ?_
     refine pqY 106 hS1 ?_
     refine pqY 107 hS1 ?_
     refine pqY 108 hS1 ?_
     refine pqY 109 hS1 ?_
     refine pqY 110 hS1 ?_
     refine pqY 111 hS1 ?_
     refine pqY 112 hS1 ?_
     refine pqY 113 hS1 ?_
     refine pqY 114 hS1 ?_
     refine pqY 115 hS1 ?_
     refine pqY 116 hS1 ?_
     refine pqY 117 hS1 ?_
     refine pqY 118 hS1 ?_
     refine pqY 119 hS1 ?_
     refine pqY 120 hS1 ?_
     refine pqY 121 hS1 ?_
     refine pqY 122 hS1 ?_
     refine pqY 123 hS1 ?_
     refine headC rfl (fun KK hK => ?_)
     go_simp
     have hcall:=hih.out W1 t (hbox.out.kept (hG.trans hg1) hne) (hT.out.grown (hG.trans hg1) hoff.out) hO1.out htlen.out
     rw [← hgs2.out] at hcall
     refine hcall.mono ?_
     rintro e W2 ⟨rfl,hO2,hg2⟩
     have hG2:=(hG.trans hg1).trans hg2
     have hb2:=hbox.out.kept hG2 hne
     refine hK _ _ ⟨hb2.c0,hb2.c2⟩ ?_
     clear hK KK hS1
     refine head0 ?_
     simp only [List.drop_succ_cons,List.drop_zero]
     replace hO2:=Lib.hid hO2
     replace hb2:=Lib.hid hb2
     cases hb : (g s t).1 with
     | true =>
      have hsu:=fillL_succ hft.out
      have hpr : g s t = (true,(g s t).2):=Prod.ext hb rfl
      replace hsu:=Lib.hid hsu
      replace hpr:=Lib.hid hpr
      replace hb:=Lib.hid hb
      go_wp2
      refine NoPanic.normal ?_
      go_wp2
      go_roundw
      case measure => simp [intOf]; omega
      case rel => exact ⟨s + 1,(g s t).2,by omega,by go_num,by rw [hsu.out]; exact hpr.out,hO2.out,hG2⟩
     | false =>
      have hso:=fillL_stop hsK hft.out hb
      replace hb:=Lib.hid hb
      replace hso:=Lib.hid hso
      go_wp2
      refine NoPanic.normal ?_
      go_wp2
      go_ret
      exact ⟨by rw [hso.out,hb.out]; rfl,by rw [hso.out]; exact hO2.out,hG2⟩
    ·have hgs2 : g s t = fillF K R (2 * (R + d) + 1) T f wm image s t:=by rw [hgs,if_neg hge,if_pos hmid]
     have hst2 : FillOk K R T (n + 1) wm image:=by rw [if_neg hge] at hstep; exact hstep
     have dg : decide ((2 : Int) * (R : Int) ≤ (n : Int)) = false:=decide_eq_false (by omega)
     have dm : ((n : Int) == ((R + d : Nat) : Int)) = true:=by rw [beq_iff_eq]; omega
     have e5 : ((n + 1 : Nat) : Int) = (n : Int) + 1:=rfl
     have e6 : ((image : Nat) : Int) = (image : Int):=rfl
     have hih : ∀ (W : World) (t : List Int),GBox W G K R (.slice va vn vc) d (.slice (some ⟨tb,0,none⟩) tn tc) → IntsAt W (.slice va vn vc) T → OwnI B W (.slice (some ⟨tb,0,none⟩) tn tc) t → t.length = pw K (2 * d + 1) →
      Calls Tryz.prog 67 #[.pointer (some ⟨G,0,none⟩),.int .i64 (wm : Int),.int .i64 ((image : Int)),.int .i64 (s : Int),.int .i64 ((n : Int) + 1)] W fun e w' =>
       e = .returned (.bool (fillF K R (2 * (R + d) + 1) T f wm image s t).1) ∧ OwnI B w' (.slice (some ⟨tb,0,none⟩) tn tc) (fillF K R (2 * (R + d) + 1) T f wm image s t).2 ∧ W.grownBy w' (some tb):=fun W t a1 a2 a3 a4 => by
      have:=ih.out (n + 1) wm image s W t (by omega) hst2 (by omega) a1 a2 a3 a4
      rw [e5,e6] at this
      exact this
     clear e5 e6
     replace hmid:=Lib.hid hmid
     replace hgs:=Lib.hid hgs
     replace hgs2:=Lib.hid hgs2
     replace hst2:=Lib.hid hst2
     replace hstep:=Lib.hid hstep
     replace hih:=Lib.hid hih
     go_upto_region 17 with fail
     refine wp_region_plan (fun w' => w'.cell? ⟨G,0,none⟩ = some (.int .i64 K) ∧ w'.cell? ⟨G,2,none⟩ = some (.slice va vn vc)) 20 [(0,true),(1,true),(2,true),(3,true),(4,true),(5,true),(6,true),(7,true),(8,true),(9,true),(10,true),(11,true),(12,true),(13,true),(14,true),(15,true),(16,true),(17,true),(18,true),(19,false)] (by kernel_rfl) (by kernel_rfl) ?_
     obtain ⟨W1,hW1⟩ : ∃ W' : World,wo.drew = W':=⟨_,rfl⟩
     have hS1 : W1.cell? ⟨G,0,none⟩ = some (.int .i64 K) ∧ W1.cell? ⟨G,2,none⟩ = some (.slice va vn vc):=by rw [← hW1]; exact ⟨z0,z2⟩
     have hg1 : wo.grownBy W1 (some tb):=by rw [← hW1]; exact drewN_grown wo 1 _
     have hO1 : OwnI B W1 (.slice (some ⟨tb,0,none⟩) tn tc) t:=by rw [← hW1]; exact hO.out
     rw [hW1]
     replace hW1:=Lib.hid hW1
     replace hO1:=Lib.hid hO1
     refine pqY 105 hS1 ?_
     refine pqY 106 hS1 ?_
     refine pqY 107 hS1 ?_
     refine pqY 108 hS1 ?_
     refine pqY 109 hS1 ?_
     refine pqY 110 hS1 ?_
     refine pqY 111 hS1 ?_
     refine pqY 112 hS1 ?_
     refine pqY 113 hS1 ?_
     refine pqY 114 hS1 ?_
     refine pqY 115 hS1 ?_
     refine pqY 116 hS1 ?_
     refine pqY 117 hS1 ?_
     refine pqY 118 hS1 ?_
     refine pqY 119 hS1 ?_
     refine pqY 120 hS1 ?_
     refine pqY 121 hS1 ?_
     refine pqY 122 hS1 ?_
     refine pqY 123 hS1 ?_
     refine headC rfl (fun KK hK => ?_)
     go_simp
     have hcall:=hih.out W1 t (hbox.out.kept (hG.trans hg1) hne) (hT.out.grown (hG.trans hg1) hoff.out) hO1.out htlen.out
     rw [← hgs2.out] at hcall
     refine hcall.mono ?_
     rintro e W2 ⟨rfl,hO2,hg2⟩
     have hG2:=(hG.trans hg1).trans hg2
     have hb2:=hbox.out.kept hG2 hne
     refine hK _ _ ⟨hb2.c0,hb2.c2⟩ ?_
     clear hK KK hS1
     refine head0 ?_
     simp only [List.drop_succ_cons,List.drop_zero]
     replace hO2:=Lib.hid hO2
     replace hb2:=Lib.hid hb2
     cases hb : (g s t).1 with
     | true =>
      have hsu:=fillL_succ hft.out
      have hpr : g s t = (true,(g s t).2):=Prod.ext hb rfl
      replace hsu:=Lib.hid hsu
      replace hpr:=Lib.hid hpr
      replace hb:=Lib.hid hb
      go_wp2
      refine NoPanic.normal ?_
      go_wp2
      go_roundw
      case measure => simp [intOf]; omega
      case rel => exact ⟨s + 1,(g s t).2,by omega,by go_num,by rw [hsu.out]; exact hpr.out,hO2.out,hG2⟩
     | false =>
      have hso:=fillL_stop hsK hft.out hb
      replace hb:=Lib.hid hb
      replace hso:=Lib.hid hso
      go_wp2
      refine NoPanic.normal ?_
      go_wp2
      go_ret
      exact ⟨by rw [hso.out,hb.out]; rfl,by rw [hso.out]; exact hO2.out,hG2⟩
    ·have hgs2 : g s t = fillF K R (2 * (R + d) + 1) T f wm image middle t:=by rw [hgs,if_neg hge,if_neg hmid]
     have hst2 : FillOk K R T (n + 1) wm image:=by rw [if_neg hge] at hstep; exact hstep
     have dg : decide ((2 : Int) * (R : Int) ≤ (n : Int)) = false:=decide_eq_false (by omega)
     have dm : ((n : Int) == ((R + d : Nat) : Int)) = false:=by rw [beq_eq_false_iff_ne]; omega
     have e5 : ((n + 1 : Nat) : Int) = (n : Int) + 1:=rfl
     have e6 : ((image : Nat) : Int) = (image : Int):=rfl
     have hih : ∀ (W : World) (t : List Int),GBox W G K R (.slice va vn vc) d (.slice (some ⟨tb,0,none⟩) tn tc) → IntsAt W (.slice va vn vc) T → OwnI B W (.slice (some ⟨tb,0,none⟩) tn tc) t → t.length = pw K (2 * d + 1) →
      Calls Tryz.prog 67 #[.pointer (some ⟨G,0,none⟩),.int .i64 (wm : Int),.int .i64 ((image : Int)),.int .i64 (middle : Int),.int .i64 ((n : Int) + 1)] W fun e w' =>
       e = .returned (.bool (fillF K R (2 * (R + d) + 1) T f wm image middle t).1) ∧ OwnI B w' (.slice (some ⟨tb,0,none⟩) tn tc) (fillF K R (2 * (R + d) + 1) T f wm image middle t).2 ∧ W.grownBy w' (some tb):=fun W t a1 a2 a3 a4 => by
      have:=ih.out (n + 1) wm image middle W t (by omega) hst2 (by omega) a1 a2 a3 a4
      rw [e5,e6] at this
      exact this
     clear e5 e6
     replace hmid:=Lib.hid hmid
     replace hgs:=Lib.hid hgs
     replace hgs2:=Lib.hid hgs2
     replace hst2:=Lib.hid hst2
     replace hstep:=Lib.hid hstep
     replace hih:=Lib.hid hih
     go_upto_region 17 with fail
     refine wp_region_plan (fun w' => w'.cell? ⟨G,0,none⟩ = some (.int .i64 K) ∧ w'.cell? ⟨G,2,none⟩ = some (.slice va vn vc)) 20 [(0,true),(1,true),(2,true),(3,true),(4,true),(5,true),(6,true),(7,true),(8,true),(9,true),(10,true),(11,true),(12,true),(13,true),(14,true),(15,true),(16,true),(17,true),(18,true),(19,false)] (by kernel_rfl) (by kernel_rfl) ?_
     obtain ⟨W1,hW1⟩ : ∃ W' : World,wo.drew = W':=⟨_,rfl⟩
     have hS1 : W1.cell? ⟨G,0,none⟩ = some (.int .i64 K) ∧ W1.cell? ⟨G,2,none⟩ = some (.slice va vn vc):=by rw [← hW1]; exact ⟨z0,z2⟩
     have hg1 : wo.grownBy W1 (some tb):=by rw [← hW1]; exact drewN_grown wo 1 _
     have hO1 : OwnI B W1 (.slice (some ⟨tb,0,none⟩) tn tc) t:=by rw [← hW1]; exact hO.out
     rw [hW1]
     replace hW1:=Lib.hid hW1
     replace hO1:=Lib.hid hO1
     refine pqY 105 hS1 ?_
     refine pqY 106 hS1 ?_
     refine pqY 107 hS1 ?_
     refine pqY 108 hS1 ?_
     refine pqY 109 hS1 ?_
     refine pqY 110 hS1 ?_
     refine pqY 111 hS1 ?_
     refine pqY 112 hS1 ?_
     refine pqY 113 hS1 ?_
     refine pqY 114 hS1 ?_
     refine pqY 115 hS1 ?_
     refine pqY 116 hS1 ?_
     refine pqY 117 hS1 ?_
     refine pqY 118 hS1 ?_
     refine pqY 119 hS1 ?_
     refine pqY 120 hS1 ?_
     refine pqY 121 hS1 ?_
     refine pqY 122 hS1 ?_
     refine pqY 123 hS1 ?_
     refine headC rfl (fun KK hK => ?_)
     go_simp
     have hcall:=hih.out W1 t (hbox.out.kept (hG.trans hg1) hne) (hT.out.grown (hG.trans hg1) hoff.out) hO1.out htlen.out
     rw [← hgs2.out] at hcall
     refine hcall.mono ?_
     rintro e W2 ⟨rfl,hO2,hg2⟩
     have hG2:=(hG.trans hg1).trans hg2
     have hb2:=hbox.out.kept hG2 hne
     refine hK _ _ ⟨hb2.c0,hb2.c2⟩ ?_
     clear hK KK hS1
     refine head0 ?_
     simp only [List.drop_succ_cons,List.drop_zero]
     replace hO2:=Lib.hid hO2
     replace hb2:=Lib.hid hb2
     cases hb : (g s t).1 with
     | true =>
      have hsu:=fillL_succ hft.out
      have hpr : g s t = (true,(g s t).2):=Prod.ext hb rfl
      replace hsu:=Lib.hid hsu
      replace hpr:=Lib.hid hpr
      replace hb:=Lib.hid hb
      go_wp2
      refine NoPanic.normal ?_
      go_wp2
      go_roundw
      case measure => simp [intOf]; omega
      case rel => exact ⟨s + 1,(g s t).2,by omega,by go_num,by rw [hsu.out]; exact hpr.out,hO2.out,hG2⟩
     | false =>
      have hso:=fillL_stop hsK hft.out hb
      replace hb:=Lib.hid hb
      replace hso:=Lib.hid hso
      go_wp2
      refine NoPanic.normal ?_
      go_wp2
      go_ret
      exact ⟨by rw [hso.out,hb.out]; rfl,by rw [hso.out]; exact hO2.out,hG2⟩
   ·obtain rfl : s = K:=by omega
    have ds : decide ((s : Int) < (s : Int)) = false:=decide_eq_false (by omega)
    replace hft:=Lib.hid hft
    replace hO:=Lib.hid hO
    go_wp2
    go_ret
    exact ⟨by rw [hft.out]; rfl,by rw [hft.out]; exact hO.out,hG⟩
end Go.Proofs.YtjiadfblphdchaaGreatDoor
namespace Go.Proofs.YtjiadfblphdchaaGreatDoor
open Go.RowKit
/-- A row: its elements' type, how many cells each has, the slice value, how many elements, the cells. -/
structure Row where
 E : TypeId
 size : Nat
 v : Value
 n : Nat
 xs : List Value
def Row.own (B : Nat) (w : World) (r : Row) : Prop:=w.ownsRow B r.E r.size r.v r.n r.xs
abbrev Names:=Nat × Nat → Option Row
/-- The rows lie where they lie, no two in one block. -/
def Rows (B : Nat) (w : World) (f : Names) : Prop :=
 (∀ i r,f i = some r → r.own B w) ∧ (∀ i j r s,f i = some r → f j = some s → i ≠ j → r.v.ownBlock = none ∨ r.v.ownBlock ≠ s.v.ownBlock)
def upd (f : Names) (i : Nat × Nat) (r : Option Row) : Names:=fun j => if j = i then r else f j
theorem upd_same (f : Names) (i : Nat × Nat) (r : Option Row) : upd f i r i = r:=by simp [upd]
theorem upd_ne (f : Names) {i j : Nat × Nat} (r : Option Row) (h : j ≠ i) : upd f i r j = f j:=by simp [upd,h]
theorem Rows.below {B : Nat} {w w' : World} {f : Names} (h : Rows B w f) (hb : Below w.heap.size w w') : Rows B w' f :=
 ⟨fun i r hi => by
   have ho:=h.1 i r hi
   refine ⟨ho.1,?_⟩
   rcases ho.2 with h2 | ⟨g,cap,cur,e,hB,hg,rest⟩
   ·exact .inl h2
   ·exact .inr ⟨g,cap,cur,e,hB,by rw [hb.block g (Array.getElem?_eq_some_iff.1 hg).1]; exact hg,rest⟩,h.2⟩
theorem Rows.drop {B : Nat} {w : World} {f : Names} (h : Rows B w f) (i : Nat × Nat) : Rows B w (upd f i none) :=
 ⟨fun j r hj => by
   by_cases e : j = i
   ·subst e; rw [upd_same] at hj; cases hj
   ·rw [upd_ne _ _ e] at hj; exact h.1 j r hj,fun j k r s hj hk hne => by
   by_cases e : j = i
   ·subst e; rw [upd_same] at hj; cases hj
   by_cases e' : k = i
   ·subst e'; rw [upd_same] at hk; cases hk
   rw [upd_ne _ _ e] at hj
   rw [upd_ne _ _ e'] at hk
   exact h.2 j k r s hj hk hne⟩
theorem Rows.lt {B : Nat} {w : World} {f : Names} (h : Rows B w f) {i : Nat × Nat} {r : Row} (hi : f i = some r) : ∀ k,r.v.ownBlock = some k → B ≤ k ∧ k < w.heap.size:=World.ownsRow.lt (h.1 i r hi)
/-- What was done in row i alone: the row is now r'; it lies where it lay, or in a new block. -/
theorem Rows.grown {B : Nat} {w w' : World} {f : Names} {i : Nat × Nat} {r r' : Row} (h : Rows B w f) (hi : f i = some r) (hg : w.grownBy w' r.v.ownBlock) (ho : r'.own B w') (hb : r'.v.ownBlock = r.v.ownBlock ∨ ∃ k,r'.v.ownBlock = some k ∧ w.heap.size ≤ k) :
 Rows B w' (upd f i (some r')):=by
 have far : ∀ j s,f j = some s → j ≠ i → s.v.ownBlock = none ∨ s.v.ownBlock ≠ r'.v.ownBlock:=fun j s hj hne => by
  rcases hb with e | ⟨k,e,hk⟩
  ·rw [e]; exact h.2 j i s r hj hi hne
  ·cases hs : s.v.ownBlock with
   | none => exact .inl rfl
   | some m =>
    have:=(h.lt hj m hs).2
    right; rw [e]; intro e2; injection e2 with e2; omega
 refine ⟨fun j s hj => ?_,fun j k s t hj hk hne => ?_⟩
 ·by_cases e : j = i
  ·subst e; rw [upd_same] at hj; cases hj; exact ho
  ·rw [upd_ne _ _ e] at hj
   exact World.ownsRow.kept (h.1 j s hj) hg (h.2 j i s r hj hi e)
 ·by_cases e : j = i
  ·subst e
   rw [upd_same] at hj; cases hj
   rw [upd_ne _ _ (Ne.symm hne)] at hk
   rcases far k t hk (Ne.symm hne) with e2 | e2
   ·cases hr : r'.v.ownBlock with
    | none => exact .inl rfl
    | some m => right; rw [e2]; simp
   ·exact .inr (Ne.symm e2)
  ·rw [upd_ne _ _ e] at hj
   by_cases e' : k = i
   ·subst e'; rw [upd_same] at hk; cases hk
    exact far j s hj e
   ·rw [upd_ne _ _ e'] at hk
    exact h.2 j k s t hj hk hne
/-- A new row, in a new block (or nil). -/
theorem Rows.fresh {B : Nat} {w w' : World} {f : Names} {i : Nat × Nat} {r' : Row} (h : Rows B w f) (hg : w.grownBy w' none) (ho : r'.own B w') (hb : ∀ k,r'.v.ownBlock = some k → w.heap.size ≤ k) :
 Rows B w' (upd f i (some r')):=by
 refine ⟨fun j s hj => ?_,fun j k s t hj hk hne => ?_⟩
 ·by_cases e : j = i
  ·subst e; rw [upd_same] at hj; cases hj; exact ho
  ·rw [upd_ne _ _ e] at hj
   exact World.ownsRow.kept (h.1 j s hj) hg (by cases s.v.ownBlock <;> simp)
 ·by_cases e : j = i
  ·subst e
   rw [upd_same] at hj; cases hj
   rw [upd_ne _ _ (Ne.symm hne)] at hk
   cases hr : r'.v.ownBlock with
   | none => exact .inl rfl
   | some m =>
    right; intro e2
    have h1:=hb m hr
    have h2:=(h.lt hk m e2.symm).2
    omega
  ·rw [upd_ne _ _ e] at hj
   by_cases e' : k = i
   ·subst e'; rw [upd_same] at hk; cases hk
    cases hs : s.v.ownBlock with
    | none => exact .inl rfl
    | some m =>
     right; intro e2
     have h1:=hb m e2.symm
     have h2:=(h.lt hj m hs).2
     omega
   ·rw [upd_ne _ _ e'] at hk
    exact h.2 j k s t hj hk hne
theorem below_grows {w w' : World} (h : Below w.heap.size w w') (row : Option Nat) : w.grownBy w' row:=⟨h.os,h.tape,h.output,h.size,fun k hk _ => h.block k hk⟩
/-- A new row, made by a call that keeps what was. -/
theorem Rows.add {B : Nat} {w w' : World} {f : Names} {i : Nat × Nat} {r' : Row} (h : Rows B w f) (hb : Below w.heap.size w w') (ho : r'.own B w') (hn : ∀ k,r'.v.ownBlock = some k → w.heap.size ≤ k) : Rows B w' (upd f i (some r')) :=
 h.fresh (below_grows hb none) ho hn
/-- The block of a row that is not nil. -/
theorem Row.own.shape {B : Nat} {w : World} {r : Row} (h : r.own B w) (hn : 0 < r.n) : ∃ g cap,r.v = .slice (some ⟨g,0,none⟩) r.n cap ∧ B ≤ g:=by
 rcases h.2 with ⟨_,h0⟩ | ⟨g,cap,cur,e,hB,_⟩
 ·omega
 ·exact ⟨g,cap,e,hB⟩
/-- A store into cell k of row i. -/
theorem Rows.set {B : Nat} {w : World} {f : Names} {i : Nat × Nat} {r : Row} (h : Rows B w f) (hi : f i = some r) {g cap : Nat} (hv : r.v = .slice (some ⟨g,0,none⟩) r.n cap) (k : Nat) (y : Value) :
 Rows B (w.setCell ⟨g,k,none⟩ y) (upd f i (some { r with xs:=r.xs.set k y })):=by
 have ho:=h.1 i r hi
 unfold Row.own at ho
 rw [hv] at ho
 have hs:=World.ownsRow.stored ho k y
 refine h.grown hi (by rw [hv]; exact hs.2) ?_ (.inl rfl)
 unfold Row.own
 rw [hv]
 exact hs.1
theorem Rows.cell {B : Nat} {w : World} {f : Names} {i : Nat × Nat} {r : Row} (h : Rows B w f) (hi : f i = some r) {g cap : Nat} (hv : r.v = .slice (some ⟨g,0,none⟩) r.n cap) (k : Nat) (hk : k < r.n * r.size) : w.cell? ⟨g,k,none⟩ = r.xs[k]?:=by
 have ho:=h.1 i r hi
 unfold Row.own at ho
 rw [hv] at ho
 exact ho.cellAt k hk
theorem Rows.frozen {B : Nat} {w : World} {f : Names} {i : Nat × Nat} {r : Row} (h : Rows B w f) (hi : f i = some r) {g cap : Nat} (hv : r.v = .slice (some ⟨g,0,none⟩) r.n cap) (k : Nat) : w.frozen? ⟨g,k,none⟩ = false:=by
 have ho:=h.1 i r hi
 unfold Row.own at ho
 rw [hv] at ho
 exact ho.frozenAt k
theorem Rows.congr {B : Nat} {w : World} {f f' : Names} (h : Rows B w f) (e : ∀ i,f' i = f i) : Rows B w f':=by
 rw [show f' = f from funext e]; exact h
theorem Rows.drew {B : Nat} {w : World} {f : Names} (h : Rows B w f) : Rows B w.drew f:=h
theorem Rows.drewN {B : Nat} {w : World} {f : Names} (h : Rows B w f) (n : Nat) : Rows B (w.drewN n) f:=h
/-- A row of ints, of whatever one-cell values. -/
abbrev rowI (v : Value) (xs : List Int) : Row:=⟨3,1,v,xs.length,xs.map (Value.int .i64)⟩
abbrev rowV (E : TypeId) (v : Value) (vs : List Value) : Row:=⟨E,1,v,vs.length,vs⟩
theorem Rows.ownI {B : Nat} {w : World} {f : Names} {i : Nat × Nat} {v : Value} {xs : List Int} (h : Rows B w f) (hi : f i = some (rowI v xs)) : OwnI B w v xs:=h.1 i _ hi
theorem Rows.ownV {B : Nat} {w : World} {f : Names} {i : Nat × Nat} {E : TypeId} {v : Value} {vs : List Value} (h : Rows B w f) (hi : f i = some (rowV E v vs)) : OwnV E B w v vs:=h.1 i _ hi
/-- A store into element k of a row of ints. -/
theorem Rows.setI {B : Nat} {w : World} {f : Names} {i : Nat × Nat} {v : Value} {xs : List Int} (h : Rows B w f) (hi : f i = some (rowI v xs)) (k : Nat) (hk : k < xs.length) (y : Int) :
 Rows B (w.setCell (valAt v k) (.int .i64 y)) (upd f i (some (rowI v (xs.set k y)))):=by
 have ho:=h.ownI hi
 have hs:=ho.set k hk y
 refine h.grown hi ?_ hs (.inl rfl)
 have:=ho.toV.setGrown k (by simpa using hk) (.int .i64 y)
 exact this
theorem Rows.setV {B : Nat} {w : World} {f : Names} {i : Nat × Nat} {E : TypeId} {v : Value} {vs : List Value} (h : Rows B w f) (hi : f i = some (rowV E v vs)) (k : Nat) (hk : k < vs.length) (y : Value) :
 Rows B (w.setCell (valAt v k) y) (upd f i (some (rowV E v (vs.set k y)))):=by
 have ho:=h.ownV hi
 refine h.grown hi (ho.setGrown k hk y) ?_ (.inl rfl)
 have:=ho.set k hk y
 unfold Row.own
 exact this
end Go.Proofs.YtjiadfblphdchaaGreatDoor
namespace Go.Proofs.YtjiadfblphdchaaGreatDoor
open Go.RowKit
set_option maxRecDepth 100000
/-- The first n values of a function. -/
def tab (n : Nat) (f : Nat → Nat) : List Int:=(List.range n).map fun (v : Nat) => (f v : Int)
def tabI (n : Nat) (f : Nat → Int) : List Int:=(List.range n).map f
theorem tab_len (n : Nat) (f : Nat → Nat) : (tab n f).length = n:=by simp [tab]
theorem tabI_len (n : Nat) (f : Nat → Int) : (tabI n f).length = n:=by simp [tabI]
theorem tabI_get (n : Nat) (f : Nat → Int) (v : Nat) (hv : v < n) : (tabI n f).getD v 0 = f v:=by simp [tabI,List.getD,hv]
theorem tab_get (n : Nat) (f : Nat → Nat) (v : Nat) (hv : v < n) : (tab n f).getD v 0 = (f v : Int):=by simp [tab,List.getD,hv]
theorem tabI_upd (n : Nat) (f : Nat → Int) (v : Nat) (a : Int) : (tabI n f).set v a = tabI n (updN f v a):=by
 apply List.ext_getElem
 ·simp [tabI]
 ·intro i h1 h2
  simp only [tabI,List.getElem_set,List.getElem_map,List.getElem_range,updN]
  by_cases e : v = i
  ·rw [if_pos e,if_pos e.symm]
  ·rw [if_neg e,if_neg (fun q => e q.symm)]
theorem tab_upd (n : Nat) (f : Nat → Nat) (v a : Nat) : (tab n f).set v (a : Int) = tab n (updN f v a):=by
 have h:=tabI_upd n (fun x => (f x : Int)) v a
 show (tabI n fun x => (f x : Int)).set v (a : Int) = _
 rw [h]
 unfold tab tabI
 apply List.map_congr_left
 intro x _
 by_cases e : x = v
 ·subst e; rw [updN_same,updN_same]
 ·rw [updN_other _ _ _ e,updN_other _ _ _ e]
/-- The stacks' cells. -/
def flatF (calls : List Nat) (idx : Nat → Nat) : List Value:=calls.reverse.flatMap fun (v : Nat) => [.int .i64 (v : Int),.int .i64 (idx v : Int)]
def upI (l : List Nat) : List Int:=l.reverse.map fun (v : Nat) => (v : Int)
theorem upI_len (l : List Nat) : (upI l).length = l.length:=by simp [upI]
theorem upI_cons (v : Nat) (l : List Nat) : upI (v :: l) = upI l ++ [(v : Int)]:=by simp [upI]
theorem flatF_cons (v : Nat) (l : List Nat) (idx : Nat → Nat) : flatF (v :: l) idx = flatF l idx ++ [.int .i64 (v : Int),.int .i64 (idx v : Int)]:=by simp [flatF]
theorem flatF_len (l : List Nat) (idx : Nat → Nat) : (flatF l idx).length = l.length * 2:=by
 induction l with
 | nil => rfl
 | cons v l ih => rw [flatF_cons,List.length_append,ih]; simp; omega
theorem flatF_congr {l : List Nat} {f g : Nat → Nat} (h : ∀ v ∈ l,f v = g v) : flatF l f = flatF l g:=by
 induction l with
 | nil => rfl
 | cons v l ih => rw [flatF_cons,flatF_cons,ih fun x hx => h x (List.mem_cons_of_mem _ hx),h v List.mem_cons_self]
/-- A row one element shorter. -/
theorem Rows.shrink {B : Nat} {w : World} {f : Names} {i : Nat × Nat} {E : TypeId} {size m g cap : Nat} {xs : List Value} (h : Rows B w f) (hi : f i = some ⟨E,size,.slice (some ⟨g,0,none⟩) (m + 1) cap,m + 1,xs⟩) :
 Rows B w (upd f i (some ⟨E,size,.slice (some ⟨g,0,none⟩) m cap,m,xs.take (m * size)⟩)):=by
 refine h.grown hi ⟨rfl,rfl,rfl,Nat.le_refl _,fun _ _ _ => rfl⟩ ?_ (.inl rfl)
 have ho : w.ownsRow B E size (.slice (some ⟨g,0,none⟩) (m + 1) cap) (m + 1) xs:=h.1 i _ hi
 have hl:=ho.1
 have hms : m * size ≤ (m + 1) * size:=Nat.mul_le_mul_right _ (by omega)
 rcases ho.2 with ⟨e,_⟩ | ⟨g',cap',cur,e,hB,hg,hn,hm,hs,ht⟩
 ·cases e
 ·injection e with e1 e2 e3
  injection e1 with e1
  injection e1 with e1
  subst e1; subst e3
  refine ⟨by show (xs.take (m * size)).length = m * size; rw [List.length_take,hl]; omega,.inr ⟨g,cap,cur,rfl,hB,hg,by show m ≤ cap; omega,hm,hs,?_⟩⟩
  show cur.toList.take (m * size) = xs.take (m * size)
  rw [← ht,List.take_take,Nat.min_eq_left hms]
/-- append of one frame. -/
theorem run_appF (w : World) (B : Nat) (ty : TypeId) (v : Value) (m : Nat) (xs : List Value) (hown : w.ownsRow B 238 2 v m xs)
 (b : Nat) (y0 y1 : Int) (hys : ∀ (j : Nat) (u : Value),([Value.int .i64 y0,.int .i64 y1] : List Value)[j]? = some u → w.cell? ((⟨b,0,none⟩ : Addr).add j) = some u) (hlen : m < 1000000) (hB : B ≤ w.heap.size) :
 ∃ g n' c' w',(Builtin.append_ #[212,212] ty #[v,.slice (some ⟨b,0,none⟩) 1 1]).run Tryz.prog w = .ok (.slice (some ⟨g,0,none⟩) n' c') w' ∧ n' = m + 1 ∧ w'.ownsRow B 238 2 (.slice (some ⟨g,0,none⟩) (m + 1) c') (m + 1) (xs ++ [.int .i64 y0,.int .i64 y1]) ∧
  ((v.ownBlock = some g ∧ w.grownBy w' v.ownBlock) ∨ (g = w.heap.size ∧ w.grownBy w' none)):=by
 have ht : Tryz.prog.underlying 212 = some (.slice 238):=by kernel_rfl
 obtain ⟨i,hi,hz0,hz1,hz2⟩ : ∃ i,Tryz.prog.info? 238 = some i ∧ i.zero = some (.agg #[.int .i64 0,.int .i64 0]) ∧ i.size = 2 ∧ i.bytes = 16:=by
  have : (Tryz.prog.info? 238).map (fun i => (i.zero,i.size,i.bytes)) = some (some (.agg #[.int .i64 0,.int .i64 0]),2,16):=by kernel_rfl
  cases h : Tryz.prog.info? 238 with
  | none => rw [h] at this; cases this
  | some i => rw [h] at this; simp at this; exact ⟨i,rfl,this.1,this.2.1,this.2.2⟩
 have hzc : (Value.agg #[.int .i64 0,.int .i64 0]).cells = #[.int .i64 0,.int .i64 0]:=by rfl
 have hxl:=hown.1
 have big : ∀ (old : Nat),old < m + 1 →
  (w.drew.alloc (.cells (xs.toArray ++ [Value.int .i64 y0,.int .i64 y1].toArray ++ Builtin.zeroCells (Value.agg #[.int .i64 0,.int .i64 0]).cells (grownCap w (m + 1) old 238 - (m + 1))) 238)).ownsRow B 238 2 (.slice (some ⟨w.heap.size,0,none⟩) (m + 1) (grownCap w (m + 1) old 238)) (m + 1) (xs ++ [.int .i64 y0,.int .i64 y1]):=by
  intro old ho
  have hge:=grownCap_ge w (m + 1) old 238
  have hcm : grownCap w (m + 1) old 238 ≤ maxLen:=grownCap_le_maxLen w _ old 238 (by unfold maxLen; omega)
  refine ⟨by simp [hxl]; omega,.inr ⟨w.heap.size,_,_,rfl,hB,heap_alloc_new w.drew _,hge,hcm,?_,?_⟩⟩
  ·simp only [Array.size_append,List.size_toArray,size_zeroCells,hzc,hxl]
   simp
   omega
  ·simp only [Array.toList_append]
   exact List.take_left' (by simp [hxl]; omega)
 have grw : ∀ (oo : Obj),w.grownBy (w.drew.alloc oo) none:=fun oo => ⟨rfl,rfl,rfl,by simp,fun k hk _ => Below.heap_alloc w.drew oo k hk⟩
 rcases hown.2 with ⟨rfl,hn⟩ | ⟨g,cap,cur,rfl,hbg,hg,hnc,hcm,hcs,htake⟩
 ·subst hn
  obtain rfl:=List.length_eq_zero_iff.1 (show xs.length = 0 by omega)
  have hr:=run_append_nil (P:=Tryz.prog) w 212 ty 238 i _ ht hi hz0 ⟨b,0,none⟩ 1 1 [.int .i64 y0,.int .i64 y1] (by rw [hz1]; rfl) hys (by omega) (by omega) (by rw [hz2]; decide)
  have hbg:=big 0 (by omega)
  simp only [List.nil_append,Array.empty_append,Nat.zero_add] at hbg hr
  exact ⟨_,_,_,_,hr,rfl,by simpa using hbg,.inr ⟨rfl,grw _⟩⟩
 ·by_cases hroom : m + 1 ≤ cap
  ·have hr:=run_append_room (P:=Tryz.prog) w 212 ty 238 i ht hi g m cap cur hg ⟨b,0,none⟩ 1 1 [.int .i64 y0,.int .i64 y1] (by rw [hz1]; rfl) hys (by simp [Value.oneCell']) hroom (by rw [hz1,hcs]; simp; omega)
   refine ⟨_,_,_,_,hr,rfl,⟨by simp [hxl]; omega,.inr ⟨g,cap,_,rfl,hbg,setRow_heap w g cur _ 238 _ hg,hroom,hcm,?_,?_⟩⟩,.inl ⟨rfl,⟨rfl,rfl,rfl,by simp,fun k _ hk => setRow_other w g k _ (fun e => hk (by simp [Value.ownBlock,e]))⟩⟩⟩
   ·simp only [List.size_toArray,List.length_append,List.length_take,List.length_drop,Array.length_toList,hz1,hcs]
    simp
    omega
   ·rw [hz1,htake]
    exact List.take_left' (by simp [hxl]; omega)
  ·have holds : ∀ j u,xs[j]? = some u → w.cell? ((⟨g,0,none⟩ : Addr).add j) = some u:=World.ownsRow.cells hown (g:=g) rfl
   have hr:=run_append_grow (P:=Tryz.prog) w 212 ty 238 i _ ht hi hz0 ⟨g,0,none⟩ m cap xs (by rw [hz1]; exact hxl) holds ⟨b,0,none⟩ 1 1 [.int .i64 y0,.int .i64 y1] (by rw [hz1]; rfl) hys (by omega) (by omega) (by
    rw [hz2]
    exact growslice_fits (by omega) (by
     calc (m + 1) * 16 ≤ 1000000 * 16:=Nat.mul_le_mul_right _ hlen
      _ ≤ _:=by decide))
   exact ⟨_,_,_,_,hr,rfl,big cap (by omega),.inr ⟨rfl,grw _⟩⟩
/-- append(s, frame) in the text's order. -/
theorem wpl_appF {w : World} {ops : Array Oper} {rest : List Oper} {o : Oper} {a : Act} {Q : Exit → Act → World → Prop} (hgd : o.guard = none) (s x : Operand)
 (ho : o.op = .call { callee:=.builtin .append,args:=#[s,x],argTypes:=#[212,212] })
 (B : Nat) (v : Value) (m : Nat) (xs : List Value) (y0 y1 : Int) (b : Nat) (hown : w.ownsRow B 238 2 v m xs) (hs : a.eval s = v) (hx : a.eval x = .slice (some ⟨b,0,none⟩) 1 1) (hb : b = w.heap.size)
 (hlen : m < 1000000) (hB : B ≤ w.heap.size)
 (h : ∀ g c w',w'.ownsRow B 238 2 (.slice (some ⟨g,0,none⟩) (m + 1) c) (m + 1) (xs ++ [.int .i64 y0,.int .i64 y1]) → ((v.ownBlock = some g ∧ w.grownBy w' v.ownBlock) ∨ (w.heap.size ≤ g ∧ w.grownBy w' none)) → wpList Tryz.prog ops Q rest (a.put o.dst (.slice (some ⟨g,0,none⟩) (m + 1) c)) w') :
 wpList Tryz.prog ops Q (o :: rest) a (w.alloc (.cells #[.int .i64 y0,.int .i64 y1] 238)):=by
 subst hb
 refine wpList_plain hgd fun K hK => ?_
 have hcells : ∀ (j : Nat) (u : Value),([Value.int .i64 y0,.int .i64 y1] : List Value)[j]? = some u → (w.alloc (.cells #[.int .i64 y0,.int .i64 y1] 238)).cell? ((⟨w.heap.size,0,none⟩ : Addr).add j) = some u:=by
  intro j u hj
  have hn:=heap_alloc_new w (.cells #[.int .i64 y0,.int .i64 y1] 238)
  match j,hj with
  | 0,hj => simp at hj; subst hj; simp only [World.cell?,Addr.add,if_true]; rw [hn]; rfl
  | 1,hj => simp at hj; subst hj; simp only [World.cell?,Addr.add,show ¬ (1 = 0) by decide,if_false]; rw [hn]; rfl
  | j + 2,hj => simp at hj
 obtain ⟨g,n',c',w',hr,rfl,h2,h3⟩:=run_appF (w.alloc (.cells #[.int .i64 y0,.int .i64 y1] 238)) B o.type v m xs (World.ownsRow.alloc hown _) w.heap.size y0 y1 hcells hlen (by simp; omega)
 unfold Oper.wp execOp
 simp only [ho,resolve,invoke,builtin,Sem.run_bind,Sem.run_pure,Result.andThen_ok,List.map_toArray,List.map_cons,List.map_nil,hs,hx]
 rw [hr]
 have hal : ∀ row,w.grownBy (w.alloc (.cells #[.int .i64 y0,.int .i64 y1] 238)) row:=fun row => World.grownBy_alloc w _ row
 rcases h3 with ⟨hv,hg⟩ | ⟨hk,hg⟩
 ·exact hK _ _ (h g c' w' h2 (.inl ⟨hv,(hal v.ownBlock).trans hg⟩))
 ·exact hK _ _ (h g c' w' h2 (.inr ⟨by rw [hk]; simp,(hal none).trans hg⟩))
/-- What the names name. -/
structure SN (f : Names) (d : Nat) (nv lv fv pv ov cv : Value) (n : Nat) (S : TS) : Prop where
 box : f (0,0) = some ⟨214,7,.slice (some ⟨d,0,none⟩) 1 1,1,[nv,lv,fv,ov,pv,cv,.int .i64 S.time]⟩
 low : f (1,0) = some (rowI lv (tab n S.low))
 fnd : f (2,0) = some (rowI fv (tab n S.found))
 opn : f (3,0) = some (rowI ov (upI S.opn))
 part : f (4,0) = some (rowI pv (tabI n S.part))
 calls : f (5,0) = some ⟨238,2,cv,S.calls.length,flatF S.calls S.idx⟩
section
variable {B : Nat} {w : World} {f : Names} {d : Nat} {nv lv fv pv ov cv : Value} {n : Nat} {S : TS}
theorem SN.cell (h : SN f d nv lv fv pv ov cv n S) (hr : Rows B w f) (k : Nat) (hk : k < 7) : w.cell? ⟨d,k,none⟩ = [nv,lv,fv,ov,pv,cv,.int .i64 S.time][k]? :=
 hr.cell h.box (g:=d) (cap:=1) rfl k (by simp; omega)
theorem SN.frz (h : SN f d nv lv fv pv ov cv n S) (hr : Rows B w f) (k : Nat) : w.frozen? ⟨d,k,none⟩ = false:=hr.frozen h.box (g:=d) (cap:=1) rfl k
theorem SN.base (h : SN f d nv lv fv pv ov cv n S) (hr : Rows B w f) : B ≤ d:=(hr.lt h.box d rfl).1
/-- s.time = t. -/
theorem SN.setTime (h : SN f d nv lv fv pv ov cv n S) (hr : Rows B w f) (t : Nat) : ∃ f',Rows B (w.setCell ⟨d,6,none⟩ (.int .i64 t)) f' ∧ SN f' d nv lv fv pv ov cv n { S with time:=t }:=by
 refine ⟨_,hr.set h.box (g:=d) (cap:=1) rfl 6 (.int .i64 t),⟨upd_same _ _ _,?_,?_,?_,?_,?_⟩⟩
 ·rw [upd_ne _ _ (by simp)]; exact h.low
 ·rw [upd_ne _ _ (by simp)]; exact h.fnd
 ·rw [upd_ne _ _ (by simp)]; exact h.opn
 ·rw [upd_ne _ _ (by simp)]; exact h.part
 ·rw [upd_ne _ _ (by simp)]; exact h.calls
/-- s.low[v] = t. -/
theorem SN.setLow (h : SN f d nv lv fv pv ov cv n S) (hr : Rows B w f) (v : Nat) (hv : v < n) (t : Nat) : ∃ f',Rows B (w.setCell (valAt lv v) (.int .i64 t)) f' ∧ SN f' d nv lv fv pv ov cv n { S with low:=updN S.low v t }:=by
 have hs:=hr.setI h.low v (by rw [tab_len]; exact hv) (t : Int)
 rw [tab_upd] at hs
 refine ⟨_,hs,⟨?_,upd_same _ _ _,?_,?_,?_,?_⟩⟩
 ·rw [upd_ne _ _ (by simp)]; exact h.box
 ·rw [upd_ne _ _ (by simp)]; exact h.fnd
 ·rw [upd_ne _ _ (by simp)]; exact h.opn
 ·rw [upd_ne _ _ (by simp)]; exact h.part
 ·rw [upd_ne _ _ (by simp)]; exact h.calls
/-- s.found[v] = t. -/
theorem SN.setFound (h : SN f d nv lv fv pv ov cv n S) (hr : Rows B w f) (v : Nat) (hv : v < n) (t : Nat) : ∃ f',Rows B (w.setCell (valAt fv v) (.int .i64 t)) f' ∧ SN f' d nv lv fv pv ov cv n { S with found:=updN S.found v t }:=by
 have hs:=hr.setI h.fnd v (by rw [tab_len]; exact hv) (t : Int)
 rw [tab_upd] at hs
 refine ⟨_,hs,⟨?_,?_,upd_same _ _ _,?_,?_,?_⟩⟩
 ·rw [upd_ne _ _ (by simp)]; exact h.box
 ·rw [upd_ne _ _ (by simp)]; exact h.low
 ·rw [upd_ne _ _ (by simp)]; exact h.opn
 ·rw [upd_ne _ _ (by simp)]; exact h.part
 ·rw [upd_ne _ _ (by simp)]; exact h.calls
/-- s.part[v] = t. -/
theorem SN.setPart (h : SN f d nv lv fv pv ov cv n S) (hr : Rows B w f) (v : Nat) (hv : v < n) (t : Int) : ∃ f',Rows B (w.setCell (valAt pv v) (.int .i64 t)) f' ∧ SN f' d nv lv fv pv ov cv n { S with part:=updN S.part v t }:=by
 have hs:=hr.setI h.part v (by rw [tabI_len]; exact hv) t
 rw [tabI_upd] at hs
 refine ⟨_,hs,⟨?_,?_,?_,?_,upd_same _ _ _,?_⟩⟩
 ·rw [upd_ne _ _ (by simp)]; exact h.box
 ·rw [upd_ne _ _ (by simp)]; exact h.low
 ·rw [upd_ne _ _ (by simp)]; exact h.fnd
 ·rw [upd_ne _ _ (by simp)]; exact h.opn
 ·rw [upd_ne _ _ (by simp)]; exact h.calls
theorem grown_via {w' : World} {row : Option Nat} (hg : w.grownBy w' row ∨ w.grownBy w' none) : w.grownBy w' row:=by
 rcases hg with h | h
 ·exact h
 ·exact ⟨h.os,h.tape,h.output,h.size,fun k hk _ => h.block k hk (by simp)⟩
/-- s.open = append(s.open, v). -/
theorem SN.pushOpen (h : SN f d nv lv fv pv ov cv n S) (hr : Rows B w f) (hBw : B ≤ w.heap.size) {w1 : World} {ov' : Value} (v : Nat) (ho : OwnI B w1 ov' (upI S.opn ++ [(v : Int)]))
 (hal : (roomOf ov' = roomOf ov ∧ w.grownBy w1 ov.ownBlock) ∨ (∃ k,ov'.ownBlock = some k ∧ w.heap.size ≤ k ∧ w.grownBy w1 none)) :
 (∀ k,k < 7 → w1.cell? ⟨d,k,none⟩ = [nv,lv,fv,ov,pv,cv,.int .i64 S.time][k]?) ∧ (∀ k,w1.frozen? ⟨d,k,none⟩ = false) ∧ Below B w (w1.setCell ⟨d,3,none⟩ ov') ∧ ∃ f',Rows B (w1.setCell ⟨d,3,none⟩ ov') f' ∧ SN f' d nv lv fv pv ov' cv n { S with opn:=v :: S.opn }:=by
 have hO:=hr.ownI h.opn
 have hg : w.grownBy w1 ov.ownBlock:=grown_via (hal.imp (·.2) (fun ⟨_,_,_,q⟩ => q))
 have hob : ov'.ownBlock = ov.ownBlock ∨ ∃ k,ov'.ownBlock = some k ∧ w.heap.size ≤ k:=by
  rcases hal with ⟨q,_⟩ | ⟨k,h1,h2,_⟩
  ·obtain ⟨a1,n1,c1,e1⟩:=hO.at.shape
   obtain ⟨a2,n2,c2,e2⟩:=ho.at.shape
   exact .inl (ownBlock_of_room e1 e2 q)
  ·exact .inr ⟨k,h1,h2⟩
 have h1:=hr.grown (r':=rowI ov' (upI S.opn ++ [(v : Int)])) h.opn hg ho hob
 have hb : upd f (3,0) (some (rowI ov' (upI S.opn ++ [(v : Int)]))) (0,0) = some ⟨214,7,.slice (some ⟨d,0,none⟩) 1 1,1,[nv,lv,fv,ov,pv,cv,.int .i64 S.time]⟩:=by rw [upd_ne _ _ (by simp)]; exact h.box
 refine ⟨fun k hk => h1.cell hb (g:=d) (cap:=1) rfl k (by simpa using hk),fun k => h1.frozen hb (g:=d) (cap:=1) rfl k,((Below.refl _ _).grown hg hBw (fun k hk => (hO.lt k hk).1)).setCell (h.base hr) _,_,h1.set hb (g:=d) (cap:=1) rfl 3 ov',⟨upd_same _ _ _,?_,?_,?_,?_,?_⟩⟩
 ·rw [upd_ne _ _ (by simp),upd_ne _ _ (by simp)]; exact h.low
 ·rw [upd_ne _ _ (by simp),upd_ne _ _ (by simp)]; exact h.fnd
 ·rw [upd_ne _ _ (by simp),upd_same,upI_cons]
 ·rw [upd_ne _ _ (by simp),upd_ne _ _ (by simp)]; exact h.part
 ·rw [upd_ne _ _ (by simp),upd_ne _ _ (by simp)]; exact h.calls
/-- s.calls = append(s.calls, frame{v, 0}). -/
theorem SN.pushCalls (h : SN f d nv lv fv pv ov cv n S) (hr : Rows B w f) (hBw : B ≤ w.heap.size) {w1 : World} {g c : Nat} (v : Nat) (hv : v ∉ S.calls)
 (ho : w1.ownsRow B 238 2 (.slice (some ⟨g,0,none⟩) (S.calls.length + 1) c) (S.calls.length + 1) (flatF S.calls S.idx ++ [.int .i64 (v : Int),.int .i64 0]))
 (hal : (cv.ownBlock = some g ∧ w.grownBy w1 cv.ownBlock) ∨ (w.heap.size ≤ g ∧ w.grownBy w1 none)) :
 (∀ k,k < 7 → w1.cell? ⟨d,k,none⟩ = [nv,lv,fv,ov,pv,cv,.int .i64 S.time][k]?) ∧ (∀ k,w1.frozen? ⟨d,k,none⟩ = false) ∧ Below B w (w1.setCell ⟨d,5,none⟩ (.slice (some ⟨g,0,none⟩) (S.calls.length + 1) c)) ∧
   ∃ f',Rows B (w1.setCell ⟨d,5,none⟩ (.slice (some ⟨g,0,none⟩) (S.calls.length + 1) c)) f' ∧ SN f' d nv lv fv pv ov (.slice (some ⟨g,0,none⟩) (S.calls.length + 1) c) n { S with calls:=v :: S.calls,idx:=updN S.idx v 0 }:=by
 have hg : w.grownBy w1 cv.ownBlock:=grown_via (hal.imp (·.2) (·.2))
 have hob : (Value.slice (some ⟨g,0,none⟩) (S.calls.length + 1) c).ownBlock = cv.ownBlock ∨ ∃ k,(Value.slice (some ⟨g,0,none⟩) (S.calls.length + 1) c).ownBlock = some k ∧ w.heap.size ≤ k:=by
  rcases hal with ⟨q,_⟩ | ⟨q,_⟩
  ·exact .inl q.symm
  ·exact .inr ⟨g,rfl,q⟩
 have h1:=hr.grown (r':=⟨238,2,.slice (some ⟨g,0,none⟩) (S.calls.length + 1) c,S.calls.length + 1,flatF S.calls S.idx ++ [Value.int .i64 (v : Int),Value.int .i64 0]⟩) h.calls hg (show Row.own B w1 ⟨_,_,_,_,_⟩ from ho) hob
 have hb : upd f (5,0) (some ⟨238,2,.slice (some ⟨g,0,none⟩) (S.calls.length + 1) c,S.calls.length + 1,flatF S.calls S.idx ++ [Value.int .i64 (v : Int),Value.int .i64 0]⟩) (0,0) = some ⟨214,7,.slice (some ⟨d,0,none⟩) 1 1,1,[nv,lv,fv,ov,pv,cv,.int .i64 S.time]⟩:=by rw [upd_ne _ _ (by simp)]; exact h.box
 refine ⟨fun k hk => h1.cell hb (g:=d) (cap:=1) rfl k (by simpa using hk),fun k => h1.frozen hb (g:=d) (cap:=1) rfl k,((Below.refl _ _).grown hg hBw (fun k hk => (hr.lt h.calls k hk).1)).setCell (h.base hr) _,_,h1.set hb (g:=d) (cap:=1) rfl 5 (.slice (some ⟨g,0,none⟩) (S.calls.length + 1) c),⟨upd_same _ _ _,?_,?_,?_,?_,?_⟩⟩
 ·rw [upd_ne _ _ (by simp),upd_ne _ _ (by simp)]; exact h.low
 ·rw [upd_ne _ _ (by simp),upd_ne _ _ (by simp)]; exact h.fnd
 ·rw [upd_ne _ _ (by simp),upd_ne _ _ (by simp)]; exact h.opn
 ·rw [upd_ne _ _ (by simp),upd_ne _ _ (by simp)]; exact h.part
 ·rw [upd_ne _ _ (by simp),upd_same]
  simp only [flatF_cons,updN_same,List.length_cons]
  rw [flatF_congr (f:=updN S.idx v 0) (g:=S.idx) (fun x hx => updN_other _ _ _ (fun e => hv (by rw [← e]; exact hx)))]
  rfl
/-- s.open = s.open[:len(s.open)-1]. -/
theorem SN.popOpen {v : Nat} {r : List Nat} {g c : Nat} (h : SN f d nv lv fv pv (.slice (some ⟨g,0,none⟩) (r.length + 1) c) cv n S) (he : S.opn = v :: r) (hr : Rows B w f) :
 ∃ f',Rows B (w.setCell ⟨d,3,none⟩ (.slice (some ⟨g,0,none⟩) r.length c)) f' ∧ SN f' d nv lv fv pv (.slice (some ⟨g,0,none⟩) r.length c) cv n { S with opn:=r }:=by
 have ho:=h.opn
 rw [he] at ho
 have ho' : f (3,0) = some ⟨3,1,.slice (some ⟨g,0,none⟩) (r.length + 1) c,r.length + 1,(upI (v :: r)).map (Value.int .i64)⟩:=by
  rw [ho]; simp [rowI,upI_len]
 have h1:=hr.shrink ho'
 have hx : ((upI (v :: r)).map (Value.int .i64)).take (r.length * 1) = (upI r).map (Value.int .i64):=by
  rw [upI_cons,List.map_append,Nat.mul_one]; exact List.take_left' (by simp [upI_len])
 rw [hx] at h1
 refine ⟨_,h1.set (i:=(0,0)) (by rw [upd_ne _ _ (by simp)]; exact h.box) (g:=d) (cap:=1) rfl 3 (.slice (some ⟨g,0,none⟩) r.length c),⟨upd_same _ _ _,?_,?_,?_,?_,?_⟩⟩
 ·rw [upd_ne _ _ (by simp),upd_ne _ _ (by simp)]; exact h.low
 ·rw [upd_ne _ _ (by simp),upd_ne _ _ (by simp)]; exact h.fnd
 ·rw [upd_ne _ _ (by simp),upd_same]; simp [upI_len]
 ·rw [upd_ne _ _ (by simp),upd_ne _ _ (by simp)]; exact h.part
 ·rw [upd_ne _ _ (by simp),upd_ne _ _ (by simp)]; exact h.calls
/-- s.calls = s.calls[:len(s.calls)-1]. -/
theorem SN.popCalls {v : Nat} {r : List Nat} {g c : Nat} (h : SN f d nv lv fv pv ov (.slice (some ⟨g,0,none⟩) (r.length + 1) c) n S) (he : S.calls = v :: r) (hr : Rows B w f) :
 ∃ f',Rows B (w.setCell ⟨d,5,none⟩ (.slice (some ⟨g,0,none⟩) r.length c)) f' ∧ SN f' d nv lv fv pv ov (.slice (some ⟨g,0,none⟩) r.length c) n { S with calls:=r }:=by
 have ho:=h.calls
 rw [he] at ho
 have h1:=hr.shrink ho
 have hx : (flatF (v :: r) S.idx).take (r.length * 2) = flatF r S.idx:=by
  rw [flatF_cons]; exact List.take_left' (flatF_len _ _)
 rw [hx] at h1
 refine ⟨_,h1.set (i:=(0,0)) (by rw [upd_ne _ _ (by simp)]; exact h.box) (g:=d) (cap:=1) rfl 5 (.slice (some ⟨g,0,none⟩) r.length c),⟨upd_same _ _ _,?_,?_,?_,?_,?_⟩⟩
 ·rw [upd_ne _ _ (by simp),upd_ne _ _ (by simp)]; exact h.low
 ·rw [upd_ne _ _ (by simp),upd_ne _ _ (by simp)]; exact h.fnd
 ·rw [upd_ne _ _ (by simp),upd_ne _ _ (by simp)]; exact h.opn
 ·rw [upd_ne _ _ (by simp),upd_ne _ _ (by simp)]; exact h.part
 ·rw [upd_ne _ _ (by simp),upd_same]
/-- f.i = i at the topmost frame. -/
theorem SN.bump {v : Nat} {r : List Nat} {g c : Nat} (h : SN f d nv lv fv pv ov (.slice (some ⟨g,0,none⟩) (r.length + 1) c) n S) (he : S.calls = v :: r) (hv : v ∉ r) (hr : Rows B w f) (i : Nat) :
 ∃ f',Rows B (w.setCell ⟨g,r.length * 2 + 1,none⟩ (.int .i64 (i : Int))) f' ∧ SN f' d nv lv fv pv ov (.slice (some ⟨g,0,none⟩) (r.length + 1) c) n { S with idx:=updN S.idx v i }:=by
 have ho:=h.calls
 rw [he] at ho
 have hs:=hr.set ho (g:=g) (cap:=c) rfl (r.length * 2 + 1) (.int .i64 (i : Int))
 refine ⟨_,hs,⟨?_,?_,?_,?_,?_,?_⟩⟩
 ·rw [upd_ne _ _ (by simp)]; exact h.box
 ·rw [upd_ne _ _ (by simp)]; exact h.low
 ·rw [upd_ne _ _ (by simp)]; exact h.fnd
 ·rw [upd_ne _ _ (by simp)]; exact h.opn
 ·rw [upd_ne _ _ (by simp)]; exact h.part
 ·rw [upd_same,he]
  simp only [flatF_cons,updN_same,List.length_cons]
  rw [List.set_append_right _ _ (by rw [flatF_len]; omega),flatF_len,show r.length * 2 + 1 - r.length * 2 = 1 by omega,
   flatF_congr (f:=updN S.idx v i) (g:=S.idx) (fun x hx => updN_other _ _ _ (fun e => hv (by rw [← e]; exact hx)))]
  rfl
/-- The topmost frame, and the one below it. -/
theorem SN.callTop {v : Nat} {r : List Nat} {g c : Nat} (h : SN f d nv lv fv pv ov (.slice (some ⟨g,0,none⟩) (r.length + 1) c) n S) (he : S.calls = v :: r) (hr : Rows B w f) :
 w.cell? ⟨g,r.length * 2,none⟩ = some (.int .i64 (v : Int)) ∧ w.cell? ⟨g,r.length * 2 + 1,none⟩ = some (.int .i64 (S.idx v : Int)) ∧ w.frozen? ⟨g,r.length * 2 + 1,none⟩ = false:=by
 have ho:=h.calls
 rw [he] at ho
 refine ⟨?_,?_,hr.frozen ho (g:=g) (cap:=c) rfl _⟩
 ·rw [hr.cell ho (g:=g) (cap:=c) rfl _ (by simp only [List.length_cons]; omega),flatF_cons,List.getElem?_append_right (by rw [flatF_len]; omega),flatF_len,Nat.sub_self]; rfl
 ·rw [hr.cell ho (g:=g) (cap:=c) rfl _ (by simp; omega),flatF_cons,List.getElem?_append_right (by rw [flatF_len]; omega),flatF_len,show r.length * 2 + 1 - r.length * 2 = 1 by omega]; rfl
/-- The value that holds the stack of calls, the open stack. -/
theorem row_shape {E : TypeId} {size m : Nat} {v : Value} {xs : List Value} (h : w.ownsRow B E size v m xs) (hm : 0 < m) : ∃ g c,v = .slice (some ⟨g,0,none⟩) m c ∧ m ≤ c:=by
 rcases h.2 with ⟨_,e⟩ | ⟨g,cap,cur,e,_,_,hn,_⟩
 ·omega
 ·exact ⟨g,cap,e,hn⟩
theorem SN.callsShape (h : SN f d nv lv fv pv ov cv n S) (hr : Rows B w f) (hc : S.calls ≠ []) : ∃ g c,cv = .slice (some ⟨g,0,none⟩) S.calls.length c ∧ S.calls.length ≤ c :=
 row_shape (hr.1 _ _ h.calls) (List.length_pos_iff.2 hc)
theorem SN.opnShape (h : SN f d nv lv fv pv ov cv n S) (hr : Rows B w f) (hc : S.opn ≠ []) : ∃ g c,ov = .slice (some ⟨g,0,none⟩) S.opn.length c ∧ S.opn.length ≤ c:=by
 have:=row_shape (hr.1 _ _ h.opn) (by show 0 < (upI S.opn).length; rw [upI_len]; exact List.length_pos_iff.2 hc)
 obtain ⟨g,c,e,e2⟩:=this
 have e : ov = .slice (some ⟨g,0,none⟩) (upI S.opn).length c:=e
 have e2 : (upI S.opn).length ≤ c:=e2
 rw [upI_len] at e e2
 exact ⟨g,c,e,e2⟩
theorem SN.opnNil {adj : Nat → List Nat} (_h : SN f d nv lv fv pv ov cv n S) (hI : TInv n adj S) (hc : S.calls = []) : S.opn = []:=hI.opn_nil hc
/-- The length of the stack of calls. -/
theorem SN.callsLen (h : SN f d nv lv fv pv ov cv n S) (hr : Rows B w f) : ∃ a c,cv = .slice a S.calls.length c:=by
 rcases (hr.1 _ _ h.calls).2 with ⟨e,e2⟩ | ⟨g,cap,cur,e,_⟩
 ·have e2 : S.calls.length = 0:=e2
  have e : cv = .slice none 0 0:=e
  exact ⟨none,0,by rw [e,e2]⟩
 ·exact ⟨_,_,e⟩
end
end Go.Proofs.YtjiadfblphdchaaGreatDoor
namespace Go.Proofs.YtjiadfblphdchaaGreatDoor
open Go.RowKit
set_option maxRecDepth 100000
/-- What a call of the search's leaves. -/
def SPost (B : Nat) (w : World) (d : Nat) (nv lv fv pv : Value) (n : Nat) (S : TS) (e : Ending) (w' : World) : Prop :=
 e = .returned (.tuple #[]) ∧ Below B w w' ∧ ∃ f' ov' cv',Rows B w' f' ∧ SN f' d nv lv fv pv ov' cv' n S
set_option maxHeartbeats 1000000 in
theorem enter_any (B : Nat) (w : World) (f : Names) (d : Nat) (nv lv fv pv ov cv : Value) (n : Nat) (S : TS) (v : Nat) (hr : Rows B w f) (h : SN f d nv lv fv pv ov cv n S) (hB : B ≤ w.heap.size)
 (hv : v < n) (hnc : v ∉ S.calls) (ho : S.opn.length < 10000) (hcl : S.calls.length < 10000) (ht : S.time < 100000) :
 Calls Tryz.prog 173 #[.pointer (some ⟨d,0,none⟩),.int .i64 v] w (SPost B w d nv lv fv pv n (enterS S v)):=by
 have e1 : ((S.time + 1 : Nat) : Int) = (S.time : Int) + 1:=by omega
 have z6:=h.cell hr 6 (by decide)
 have f6:=h.frz hr 6
 obtain ⟨f1,hr1,h1⟩:=h.setTime hr (S.time + 1)
 have b1 : Below B w (w.setCell ⟨d,6,none⟩ (.int .i64 ((S.time + 1 : Nat) : Int))):=(Below.refl B w).setCell (h.base hr) _
 rw [e1] at hr1 b1
 simp only [List.getElem?_cons_succ,List.getElem?_cons_zero] at z6
 replace hr1:=Lib.hid hr1
 replace hr:=Lib.hid hr
 replace e1:=Lib.hid e1
 go_enter Tryz.func173,Tryz.ntmps173
 go_wp2
 clear z6 f6
 refine wp_region_plan (fun w' => w'.cell? ⟨d,1,none⟩ = some lv ∧ w'.cell? ⟨d,2,none⟩ = some fv ∧ w'.cell? ⟨d,6,none⟩ = some (.int .i64 ((S.time : Int) + 1))) 21 [(0,true),(1,true),(2,true),(3,true),(4,true),(5,true),(6,true),(7,true),(8,true),(9,true),(10,true),(11,true),(12,true),(13,true),(14,true),(15,true),(16,true),(17,true),(18,true),(19,false),(20,true)] (by kernel_rfl) (by kernel_rfl) ?_
 obtain ⟨W,hW⟩ : ∃ W : World,W = (w.setCell ⟨d,6,none⟩ (.int .i64 ((S.time : Int) + 1))).drew:=⟨_,rfl⟩
 rw [← hW]
 have hrW : Rows B W f1:=by rw [hW]; exact hr1.out.drew
 have bW : Below B w W:=by rw [hW]; exact b1.drew
 clear hW
 have hS : W.cell? ⟨d,1,none⟩ = some lv ∧ W.cell? ⟨d,2,none⟩ = some fv ∧ W.cell? ⟨d,6,none⟩ = some (.int .i64 ((S.time : Int) + 1)):=⟨h1.cell hrW 1 (by decide),h1.cell hrW 2 (by decide),by rw [← e1.out]; exact h1.cell hrW 6 (by decide)⟩
 have oL:=hrW.ownI h1.low
 have oF:=hrW.ownI h1.fnd
 have iL:=fun w' => oL.at.idx v (by rw [tab_len]; exact hv) w'
 have iF:=fun w' => oF.at.idx v (by rw [tab_len]; exact hv) w'
 have cL:=oL.at.cellD v (by rw [tab_len]; exact hv)
 have fL:=oL.frz v (by rw [tab_len]; exact hv)
 have kL:=(oL.toV.blkB v (by rw [List.length_map,tab_len]; exact hv)).2
 obtain ⟨f2,hr2,h2⟩:=h1.setLow hrW v hv (S.time + 1)
 rw [e1.out] at hr2
 have oF2:=hr2.ownI h2.fnd
 have cF:=oF2.at.cellD v (by rw [tab_len]; exact hv)
 have fF:=oF2.frz v (by rw [tab_len]; exact hv)
 have kF:=(oF2.toV.blkB v (by rw [List.length_map,tab_len]; exact hv)).2
 have hS2 : (W.setCell (valAt lv v) (.int .i64 ((S.time : Int) + 1))).cell? ⟨d,1,none⟩ = some lv ∧ (W.setCell (valAt lv v) (.int .i64 ((S.time : Int) + 1))).cell? ⟨d,2,none⟩ = some fv ∧ (W.setCell (valAt lv v) (.int .i64 ((S.time : Int) + 1))).cell? ⟨d,6,none⟩ = some (.int .i64 ((S.time : Int) + 1)):=⟨h2.cell hr2 1 (by decide),h2.cell hr2 2 (by decide),by rw [← e1.out]; exact h2.cell hr2 6 (by decide)⟩
 obtain ⟨f3,hr3,h3⟩:=h2.setFound hr2 v hv (S.time + 1)
 rw [e1.out] at hr3
 have b3 : Below B w ((W.setCell (valAt lv v) (.int .i64 ((S.time : Int) + 1))).setCell (valAt fv v) (.int .i64 ((S.time : Int) + 1))):=(bW.setCell kL _).setCell kF _
 replace hr3:=Lib.hid hr3
 replace hr2:=Lib.hid hr2
 replace hrW:=Lib.hid hrW
 clear oL oF oF2
 generalize valAt lv v = la at *
 generalize valAt fv v = fa at *
 refine pqY 11 hS ?_
 refine pqY 12 hS ?_
 refine pqY 13 hS ?_
 refine pqY 14 hS ?_
 refine pqY 15 hS ?_
 refine pqY 16 hS ?_
 refine pqY 17 hS ?_
 refine pqY 18 hS ?_
 refine pqY 19 hS ?_
 refine pqY 20 hS ?_
 refine pqY 21 hS ?_
 refine pqY 22 hS ?_
 refine pqY 23 hS ?_
 refine pqY 24 hS ?_
 refine pqY 25 hS ?_
 refine pqY 26 hS ?_
 refine pqY 27 hS ?_
 refine pqY 28 hS ?_
 refine pqY 29 hS ?_
 refine headC rfl (fun KK hK => ?_)
 -- CALL 19 slot none
 go_simp
 refine hK _ _ hS2 ?_
 clear hK KK
 refine pqY 30 hS2 ?_
 refine head0 ?_
 simp only [List.drop_succ_cons,List.drop_zero]
 clear hS hS2 cL fL
 go_wp2
 refine NoPanic.normal ?_
 obtain ⟨W3,hW3⟩ : ∃ W3 : World,W3 = (W.setCell la (.int .i64 ((S.time : Int) + 1))).setCell fa (.int .i64 ((S.time : Int) + 1)):=⟨_,rfl⟩
 rw [← hW3]
 rw [← hW3] at hr3 b3
 clear hW3 iL iF cF fF
 have z3:=h3.cell hr3.out 3 (by decide)
 simp only [List.getElem?_cons_succ,List.getElem?_cons_zero] at z3
 have oO:=hr3.out.ownI h3.opn
 have hB3 : B ≤ W3.heap.size:=Nat.le_trans hB b3.size
 go_wp2_with (at_builtin; refine wpl_app1 rfl _ _ rfl B ov (upI S.opn) v oO rfl rfl (by rw [upI_len]; omega) hB3 ?_)
 intro ov' w4 ho4 b4 hal
 obtain ⟨y3,g3,b5,f5,hr5,h5⟩:=h3.pushOpen hr3.out hB3 v ho4 hal
 obtain ⟨oa,on,oc,rfl⟩:=ho4.at.shape
 have z5:=y3 5 (by decide)
 simp only [List.getElem?_cons_succ,List.getElem?_cons_zero] at z5
 have z33:=y3 3 (by decide)
 simp only [List.getElem?_cons_succ,List.getElem?_cons_zero] at z33
 have g33:=g3 3
 replace y3:=Lib.hid y3
 replace g3:=Lib.hid g3
 replace hr5:=Lib.hid hr5
 clear ho4 hal z3 oO
 have oC:=hr5.out.1 _ _ h5.calls
 go_wp2_with (at_builtin; go_loud (refine wpl_appF rfl _ _ rfl B cv S.calls.length _ v 0 _ oC rfl rfl (by simp) (by omega) (Nat.le_trans hB3 b5.size) ?_))
 intro g c w6 ho6 hal6
 obtain ⟨y5,g5,b7,f7,hr7,h7⟩:=h5.pushCalls hr5.out (Nat.le_trans hB3 b5.size) v hnc ho6 (hal6.imp id (fun ⟨a,b⟩ => ⟨by simpa using a,b⟩))
 have z5:=y5 5 (by decide)
 simp only [List.getElem?_cons_succ,List.getElem?_cons_zero] at z5
 have g55:=g5 5
 replace y5:=Lib.hid y5
 replace g5:=Lib.hid g5
 replace hr7:=Lib.hid hr7
 clear ho6 hal6 oC
 go_wp2
 go_end0
 exact ⟨rfl,(b3.trans b5).trans b7,f7,_,_,hr7.out,h7⟩
end Go.Proofs.YtjiadfblphdchaaGreatDoor
namespace Go.Proofs.YtjiadfblphdchaaGreatDoor
open Go.RowKit
set_option maxRecDepth 100000
theorem upI_top (t : Nat) (o : List Nat) : (upI (t :: o)).getD o.length 0 = (t : Int):=by
 rw [upI_cons,List.getD_eq_getElem?_getD,List.getElem?_append_right (by rw [upI_len]; exact Nat.le_refl _),upI_len,Nat.sub_self]; rfl
set_option maxHeartbeats 2000000 in
theorem leave_any (B : Nat) (w : World) (f : Names) (d : Nat) (nv lv fv pv ov cv : Value) (n : Nat) (adj : Nat → List Nat) (S : TS) (v : Nat) (r : List Nat) (hr : Rows B w f) (h : SN f d nv lv fv pv ov cv n S)
 (hI : TInv n adj S) (hc : S.calls = v :: r) (hn : n ≤ 8192) :
 Calls Tryz.prog 174 #[.pointer (some ⟨d,0,none⟩),.int .i64 v] w (SPost B w d nv lv fv pv n (leaveS S v r)):=by
 have hvc : v ∈ S.calls:=by rw [hc]; exact List.mem_cons_self
 have hvn:=hI.seenLt v (hI.callsSeen hvc).1
 have hvo:=hI.callsOpen v hvc
 have hol : ∀ x ∈ S.opn,x < n:=fun x hx => hI.seenLt x ((hI.opnIff x).1 hx).1
 have hlq:=hI.low_eq hc
 obtain ⟨g,c,rfl,hcap⟩:=h.callsShape hr (by rw [hc]; simp)
 rw [hc,List.length_cons] at h hcap
 have hrl:=hI.calls_len
 rw [hc,List.length_cons] at hrl
 have hwr : IntKind.i64.wrap (r.length : Int) = r.length:=wrapK (by omega) (by omega)
 obtain ⟨W,hW⟩ : ∃ W : World,W = w.drew:=⟨_,rfl⟩
 have hr0 : Rows B W f:=by rw [hW]; exact hr.drew
 obtain ⟨f1,hr1,h1⟩:=h.popCalls hc hr0
 have z5:=h.cell hr0 5 (by decide)
 have g5:=h.frz hr0 5
 simp only [List.getElem?_cons_succ,List.getElem?_cons_zero] at z5
 have b1 : Below B w (W.setCell ⟨d,5,none⟩ (.slice (some ⟨g,0,none⟩) r.length c)):=by rw [hW]; exact (Below.refl B w).drew.setCell (h.base hr) _
 have hsl : (0 ≤ (r.length : Int) ∧ (r.length : Int) ≤ (c : Int)):=⟨by omega,by omega⟩
 replace hr1:=Lib.hid hr1
 replace hr:=Lib.hid hr
 replace hr0:=Lib.hid hr0
 replace hol:=Lib.hid hol
 replace hI:=Lib.hid hI
 replace hvo:=Lib.hid hvo
 replace hvc:=Lib.hid hvc
 replace hc:=Lib.hid hc
 replace hlq:=Lib.hid hlq
 go_enter Tryz.func174,Tryz.ntmps174
 go_wp2
 refine wp_region_plan (fun w' => w'.cell? ⟨d,5,none⟩ = some (.slice (some ⟨g,0,none⟩) (r.length + 1) c)) 14 [(0,true),(1,true),(2,true),(3,true),(4,true),(5,true),(6,true),(7,true),(8,true),(9,true),(10,true),(11,true),(12,true),(13,true)] (by kernel_rfl) (by kernel_rfl) ?_
 rw [← hW]
 clear hW
 have hS : W.cell? ⟨d,5,none⟩ = some (.slice (some ⟨g,0,none⟩) (r.length + 1) c):=z5
 refine pqY 7 hS ?_
 refine pqY 8 hS ?_
 refine pqY 9 hS ?_
 refine pqY 10 hS ?_
 refine pqY 11 hS ?_
 refine pqY 12 hS ?_
 refine pqY 13 hS ?_
 refine pqY 14 hS ?_
 refine pqY 15 hS ?_
 refine pqY 16 hS ?_
 refine pqY 17 hS ?_
 refine pqY 18 hS ?_
 refine pqY 19 hS ?_
 refine pqY 20 hS ?_
 refine head0 ?_
 simp only [List.drop_succ_cons,List.drop_zero]
 clear hS
 go_wp2
 refine NoPanic.normal ?_
 obtain ⟨W1,hW1⟩ : ∃ W1 : World,W1 = W.setCell ⟨d,5,none⟩ (.slice (some ⟨g,0,none⟩) r.length c):=⟨_,rfl⟩
 rw [← hW1]
 rw [← hW1] at hr1 b1
 clear hW1 z5 g5
 have x5:=h1.cell hr1.out 5 (by decide)
 simp only [List.getElem?_cons_succ,List.getElem?_cons_zero] at x5
 go_upto_if 27 with fail
 go_cut [] from 4 (fun wx => Below B w wx ∧ ∃ f2,Rows B wx f2 ∧ SN f2 d nv lv fv pv ov (.slice (some ⟨g,0,none⟩) r.length c) n { S with low:=lowS S.low v r,calls:=r })
 case first =>
  cases r with
  | nil =>
   go_wp2
   go_meet
   case rel => exact ⟨b1,f1,hr1.out,h1⟩
  | cons u r' =>
   have huc:=hI.out.callsSeen (c:=u) (by rw [hc.out]; simp)
   have hun:=hI.out.seenLt u huc.1
   simp only [List.length_cons] at h1 hrl x5 hcap hwr b1 hr1
   obtain ⟨t0,t1,_⟩:=h1.callTop rfl hr1.out
   have hwr2 : IntKind.i64.wrap (r'.length : Int) = r'.length:=wrapK (by omega) (by omega)
   have hp0 : 0 < (u :: r').length:=by simp
   have hne : u ≠ v:=fun e => by
    have:=hI.out.callsSorted
    rw [hc.out,e] at this
    exact absurd ((List.pairwise_cons.1 this).1 v List.mem_cons_self) (Nat.lt_irrefl _)
   go_upto_region 4 with fail
   refine wp_region_plan (fun w' => w'.cell? ⟨d,1,none⟩ = some lv ∧ w'.cell? (valAt lv u) = some (.int .i64 (S.low u)) ∧ w'.cell? (valAt lv v) = some (.int .i64 (S.low v))) 21 [(0,true),(1,true),(2,true),(3,true),(4,true),(5,true),(6,true),(7,true),(8,true),(9,true),(10,true),(11,true),(12,true),(13,true),(14,true),(15,true),(16,true),(17,true),(18,true),(19,false),(20,true)] (by kernel_rfl) (by kernel_rfl) ?_
   obtain ⟨W2,hW2⟩ : ∃ W2 : World,W2 = W1.drew:=⟨_,rfl⟩
   rw [← hW2]
   have hr2 : Rows B W2 f1:=by rw [hW2]; exact hr1.out.drew
   have b2 : Below B w W2:=by rw [hW2]; exact b1.drew
   clear hW2 t0 t1 x5
   have oL:=hr2.ownI h1.low
   have cU:=oL.at.cellD u (by rw [tab_len]; exact hun)
   have cV:=oL.at.cellD v (by rw [tab_len]; exact hvn)
   rw [tab_get _ _ _ hun] at cU
   rw [tab_get _ _ _ hvn] at cV
   have hS : W2.cell? ⟨d,1,none⟩ = some lv ∧ W2.cell? (valAt lv u) = some (.int .i64 (S.low u)) ∧ W2.cell? (valAt lv v) = some (.int .i64 (S.low v)):=⟨h1.cell hr2 1 (by decide),cU,cV⟩
   have iU:=fun w' => oL.at.idx u (by rw [tab_len]; exact hun) w'
   have iV:=fun w' => oL.at.idx v (by rw [tab_len]; exact hvn) w'
   have fU:=oL.frz u (by rw [tab_len]; exact hun)
   have kU:=(oL.toV.blkB u (by rw [List.length_map,tab_len]; exact hun)).2
   obtain ⟨f3,hr3,h3⟩:=h1.setLow hr2 u hun (min (S.low u) (S.low v))
   have b3 : Below B w (W2.setCell (valAt lv u) (.int .i64 ((min (S.low u) (S.low v) : Nat) : Int))):=b2.setCell kU _
   replace hr3:=Lib.hid hr3
   replace hr2:=Lib.hid hr2
   clear oL
   generalize valAt lv u = ua at *
   generalize valAt lv v = va at *
   refine pqY 37 hS ?_
   refine pqY 38 hS ?_
   refine pqY 39 hS ?_
   refine pqY 40 hS ?_
   refine pqY 41 hS ?_
   refine pqY 42 hS ?_
   refine pqY 43 hS ?_
   refine pqY 44 hS ?_
   refine pqY 45 hS ?_
   refine pqY 46 hS ?_
   refine pqY 47 hS ?_
   refine pqY 48 hS ?_
   refine pqY 49 hS ?_
   refine pqY 50 hS ?_
   refine pqY 51 hS ?_
   refine pqY 52 hS ?_
   refine pqY 53 hS ?_
   refine pqY 54 hS ?_
   refine pqY 55 hS ?_
   refine headC rfl (fun KK hK => ?_)
   -- CALL 19 slot (some 56)
   go_simp
   refine hK _ _ hS ?_
   clear hK KK
   refine pqY 57 hS ?_
   refine head0 ?_
   simp only [List.drop_succ_cons,List.drop_zero]
   clear hS
   go_wp2
   all_goals
    first
    | rw [show min (S.low u) (S.low v) = S.low v by omega] at b3 hr3
    | rw [show min (S.low u) (S.low v) = S.low u by omega] at b3 hr3
    | rw [show ((min (S.low u) (S.low v) : Nat) : Int) = min (S.low u : Int) (S.low v : Int) by omega] at b3 hr3
    refine NoPanic.normal ?_
    go_wp2
    go_meet
    case rel => exact ⟨b3,f3,hr3.out,h3⟩
 case rest =>
  obtain ⟨bc,f4,hr4,h4⟩:=hcut
  have oL:=hr4.ownI h4.low
  have oF:=hr4.ownI h4.fnd
  have cV:=oL.at.cellD v (by rw [tab_len]; exact hvn)
  have dV:=oF.at.cellD v (by rw [tab_len]; exact hvn)
  rw [tab_get _ _ _ hvn] at cV dV
  have hlv : ({ S with low:=lowS S.low v r,calls:=r } : TS).low v = S.low v:=hlq.out
  rw [hlv] at cV
  have iL:=fun w' => oL.at.idx v (by rw [tab_len]; exact hvn) w'
  have iF:=fun w' => oF.at.idx v (by rw [tab_len]; exact hvn) w'
  have x1:=h4.cell hr4 1 (by decide)
  have x2:=h4.cell hr4 2 (by decide)
  simp only [List.getElem?_cons_succ,List.getElem?_cons_zero] at x1 x2
  replace hr4:=Lib.hid hr4
  clear oL oF
  generalize valAt lv v = la at *
  generalize valAt fv v = fa at *
  by_cases hlf : S.low v = S.found v
  ·have hne : ((S.low v : Int) != (S.found v : Int)) = false:=by rw [hlf]; simp
   go_upto_region 5 with fail
   go_quiet (fail)
   go_wp2_with fail
   clear cV dV iL iF x1 x2 hne
   go_loopg [] S.opn.length (fun k wr => ∃ o p f' ov',o.length = k ∧ k ≤ n ∧ v ∈ o ∧ (∀ x ∈ o,x < n) ∧ closeS v o p = closeS v S.opn S.part ∧ Rows B wr f' ∧ Below B w wr ∧ SN f' d nv lv fv pv ov' (.slice (some ⟨g,0,none⟩) r.length c) n { S with low:=lowS S.low v r,calls:=r,opn:=o,part:=p })
   case atStart => exact ⟨S.opn,S.part,f4,ov,rfl,hI.out.opn_len,hvo.out,hol.out,rfl,hr4.out.drewN nq,bc.trans ⟨rfl,rfl,rfl,Nat.le_refl _,fun _ _ => rfl⟩,h4⟩
   case round =>
    obtain ⟨o,p,f5,ov',rfl,hol5,hvo5,hon,hcl,hr5,b5,h5⟩:=hrel
    obtain ⟨t,o',rfl⟩ : ∃ t o',o = t :: o':=by cases o with
     | nil => cases hvo5
     | cons t o' => exact ⟨t,o',rfl⟩
    have htn : t < n:=hon t List.mem_cons_self
    obtain ⟨go,co,rfl,hco⟩:=h5.opnShape hr5 (by simp)
    simp only [List.length_cons] at h5 hco hol5
    obtain ⟨wo,rfl⟩ : ∃ wo : World,wo = wr:=⟨_,rfl⟩
    have x3:=h5.cell hr5 3 (by decide)
    simp only [List.getElem?_cons_succ,List.getElem?_cons_zero] at x3
    have oO:=(hr5.ownI h5.opn).at
    have cT:=oO.cellD o'.length (by rw [upI_len]; simp)
    rw [upI_top] at cT
    have iT:=fun w' => oO.idx o'.length (by rw [upI_len]; simp) w'
    have hwr' : IntKind.i64.wrap (o'.length : Int) = o'.length:=wrapK (by omega) (by omega)
    generalize valAt (.slice (some ⟨go,0,none⟩) (o'.length + 1) co) o'.length = ta at *
    replace hcl:=Lib.hid hcl
    replace hon:=Lib.hid hon
    replace hr5:=Lib.hid hr5
    clear oO
    go_upto_region 6 with fail
    go_quiet (fail)
    go_upto_region 7 with fail
    refine wp_region_plan (fun w' => w'.cell? ⟨d,3,none⟩ = some (.slice (some ⟨go,0,none⟩) (o'.length + 1) co)) 14 [(0,true),(1,true),(2,true),(3,true),(4,true),(5,true),(6,true),(7,true),(8,true),(9,true),(10,true),(11,true),(12,true),(13,true)] (by kernel_rfl) (by kernel_rfl) ?_
    obtain ⟨W6,hW6⟩ : ∃ W6 : World,W6 = (wo.drewN nq).drew:=⟨_,rfl⟩
    rw [← hW6]
    have hr6 : Rows B W6 f5:=by rw [hW6]; exact (hr5.out.drewN nq).drew
    have b6 : Below B w W6:=by rw [hW6]; exact b5.trans ⟨rfl,rfl,rfl,Nat.le_refl _,fun _ _ => rfl⟩
    have hsl' : (0 ≤ (o'.length : Int) ∧ (o'.length : Int) ≤ (co : Int)):=⟨by omega,by omega⟩
    have hS : W6.cell? ⟨d,3,none⟩ = some (.slice (some ⟨go,0,none⟩) (o'.length + 1) co):=by rw [hW6]; exact x3
    have g3:=h5.frz hr6 3
    clear hW6 x3 cT iT
    obtain ⟨f7,hr7,h7⟩:=h5.popOpen rfl hr6
    have b7 : Below B w (W6.setCell ⟨d,3,none⟩ (.slice (some ⟨go,0,none⟩) o'.length co)):=b6.setCell (h5.base hr6) _
    replace hr7:=Lib.hid hr7
    replace hr6:=Lib.hid hr6
    refine pqY 85 hS ?_
    refine pqY 86 hS ?_
    refine pqY 87 hS ?_
    refine pqY 88 hS ?_
    refine pqY 89 hS ?_
    refine pqY 90 hS ?_
    refine pqY 91 hS ?_
    refine pqY 92 hS ?_
    refine pqY 93 hS ?_
    refine pqY 94 hS ?_
    refine pqY 95 hS ?_
    refine pqY 96 hS ?_
    refine pqY 97 hS ?_
    refine pqY 98 hS ?_
    refine head0 ?_
    simp only [List.drop_succ_cons,List.drop_zero]
    go_wp2
    clear hS g3
    refine NoPanic.normal ?_
    obtain ⟨W7,hW7⟩ : ∃ W7 : World,W7 = W6.setCell ⟨d,3,none⟩ (.slice (some ⟨go,0,none⟩) o'.length co):=⟨_,rfl⟩
    rw [← hW7]
    rw [← hW7] at hr7 b7
    clear hW7
    have x4:=h7.cell hr7.out 4 (by decide)
    simp only [List.getElem?_cons_succ,List.getElem?_cons_zero] at x4
    have oP:=hr7.out.ownI h7.part
    have iP:=fun w' => oP.at.idx t (by rw [tabI_len]; exact htn) w'
    have cP:=oP.at.cellD t (by rw [tabI_len]; exact htn)
    have fP:=oP.frz t (by rw [tabI_len]; exact htn)
    have kP:=(oP.toV.blkB t (by rw [List.length_map,tabI_len]; exact htn)).2
    obtain ⟨f8,hr8,h8⟩:=h7.setPart hr7.out t htn (v : Int)
    have b8 : Below B w (W7.setCell (valAt pv t) (.int .i64 (v : Int))):=b7.setCell kP _
    replace hr8:=Lib.hid hr8
    clear oP
    generalize valAt pv t = pa at *
    by_cases htv : t = v
    ·subst htv
     rw [show closeS t (t :: o') p = (o',updN p t t) by simp [closeS]] at hcl
     have hfin : leaveS S t r = { S with low:=lowS S.low t r,calls:=r,opn:=o',part:=updN p t t }:=by
      unfold leaveS
      rw [hlq.out,if_pos hlf,← hcl.out]
     replace hfin:=Lib.hid hfin
     replace hlf:=Lib.hid hlf
     go_wp2
     (try simp only [Exit.inBlock,Exit.then]); refine bodyPost_ret (results_none rfl _ _ _) rfl ?_
     exact ⟨rfl,b8,f8,_,_,hr8.out,by rw [hfin.out]; exact h8⟩
    ·have hne : ((t : Int) == (v : Int)) = false:=by rw [beq_eq_false_iff_ne]; omega
     have hvo6 : v ∈ o':=(List.mem_cons.1 hvo5).resolve_left (fun e => htv e.symm)
     rw [show closeS v (t :: o') p = closeS v o' (updN p t v) by simp [closeS,htv]] at hcl
     replace hlf:=Lib.hid hlf
     go_wp2
     go_roundg o'.length
     case measure => simp
     case rel => exact ⟨o',updN p t v,f8,_,rfl,by omega,hvo6,fun x hx => hon.out x (List.mem_cons_of_mem _ hx),hcl.out,hr8.out,b8,h8⟩
  ·have hne : ((S.low v : Int) != (S.found v : Int)) = true:=by rw [bne_iff_ne]; omega
   have hfin : leaveS S v r = { S with low:=lowS S.low v r,calls:=r }:=by
    unfold leaveS
    rw [hlq.out,if_neg hlf]
   replace hfin:=Lib.hid hfin
   replace hlf:=Lib.hid hlf
   go_upto_region 5 with fail
   go_quiet (fail)
   go_wp2
   (try simp only [Exit.inBlock,Exit.then]); refine bodyPost_ret (results_none rfl _ _ _) rfl ?_
   exact ⟨rfl,bc.trans ⟨rfl,rfl,rfl,Nat.le_refl _,fun _ _ => rfl⟩,f4,_,_,hr4.out.drewN nq,by rw [hfin.out]; exact h4⟩
end Go.Proofs.YtjiadfblphdchaaGreatDoor
namespace Go.Proofs.YtjiadfblphdchaaGreatDoor
/-- w is a way from x to y. -/
inductive Way (adj : Nat → List Nat) : Nat → Nat → List Nat → Prop
 | one (x : Nat) : Way adj x x [x]
 | cons {x t y : Nat} {w : List Nat} (ht : t ∈ adj x) (h : Way adj t y w) : Way adj x y (x :: w)
theorem Way.goes {adj : Nat → List Nat} {x y : Nat} {w : List Nat} (h : Way adj x y w) : Goes adj x y:=by
 induction h with
 | one => exact .refl _
 | cons ht _ ih => exact (Goes.one ht).trans ih
theorem Way.snoc {adj : Nat → List Nat} {x y z : Nat} {w : List Nat} (h : Way adj x y w) (hz : z ∈ adj y) : Way adj x z (w ++ [z]):=by
 induction h with
 | one => exact .cons hz (.one _)
 | cons ht _ ih => exact .cons ht (ih hz)
theorem Goes.way {adj : Nat → List Nat} {x y : Nat} (h : Goes adj x y) : ∃ w,Way adj x y w:=by
 induction h with
 | refl => exact ⟨_,.one _⟩
 | step _ hz ih => obtain ⟨w,hw⟩:=ih; exact ⟨_,hw.snoc hz⟩
theorem Way.ne {adj : Nat → List Nat} {x y : Nat} {w : List Nat} (h : Way adj x y w) : ∃ w',w = x :: w':=by
 cases h with
 | one => exact ⟨_,rfl⟩
 | cons => exact ⟨_,rfl⟩
theorem Way.pos {adj : Nat → List Nat} {x y : Nat} {w : List Nat} (h : Way adj x y w) : 0 < w.length:=by
 obtain ⟨w',rfl⟩:=h.ne; simp
/-- The order of words. -/
def lexLe : List Nat → List Nat → Prop
 | [],_ => True
 | _ :: _,[] => False
 | a :: l,b :: m => a < b ∨ (a = b ∧ lexLe l m)
theorem lexLe_refl : ∀ l,lexLe l l
 | [] => trivial
 | _ :: l => .inr ⟨rfl,lexLe_refl l⟩
/-- w is the first of the shortest ways from x to y. -/
structure IsFirst (adj : Nat → List Nat) (x y : Nat) (w : List Nat) : Prop where
 way : Way adj x y w
 short : ∀ u,Way adj x y u → w.length ≤ u.length
 least : ∀ u,Way adj x y u → u.length = w.length → lexLe w u
theorem IsFirst.tail {adj : Nat → List Nat} {x y t : Nat} {w : List Nat} (h : IsFirst adj x y (x :: t :: w)) : IsFirst adj t y (t :: w):=by
 obtain ⟨ht,hw⟩ : t ∈ adj x ∧ Way adj t y (t :: w):=by
  have h1:=h.way
  cases h1 with
  | cons ht h2 => obtain ⟨w',e⟩:=h2.ne; injection e with e1 e2; subst e1; exact ⟨ht,h2⟩
 refine ⟨hw,fun u hu => ?_,fun u hu hl => ?_⟩
 ·have:=h.short _ (.cons ht hu); simp only [List.length_cons] at this ⊢; omega
 ·have:=h.least _ (.cons ht hu) (by simp only [List.length_cons] at hl ⊢; omega)
  exact (this.resolve_left (Nat.lt_irrefl _)).2
/-- The ends that stand in a way are the same, and each piece behind is a way. -/
theorem Way.mem {adj : Nat → List Nat} {x y : Nat} {w : List Nat} (h : Way adj x y w) : ∀ z ∈ w,∃ u,Way adj z y u ∧ u.length ≤ w.length:=by
 induction h with
 | one => intro z hz; cases List.mem_singleton.1 hz; exact ⟨_,.one _,Nat.le_refl _⟩
 | cons ht h ih =>
  intro z hz
  rcases List.mem_cons.1 hz with rfl | hz
  ·exact ⟨_,.cons ht h,Nat.le_refl _⟩
  ·obtain ⟨u,h1,h2⟩:=ih z hz; exact ⟨u,h1,by simp only [List.length_cons]; omega⟩
/-- No vertex twice. -/
theorem IsFirst.nodup {adj : Nat → List Nat} {x y : Nat} {w : List Nat} (h : IsFirst adj x y w) : w.Nodup:=by
 induction w generalizing x with
 | nil => exact List.nodup_nil
 | cons a w ih =>
  obtain ⟨w',e⟩:=h.way.ne
  injection e with e1 e2
  subst e1; subst e2
  cases w with
  | nil => simp
  | cons t w =>
   refine List.nodup_cons.2 ⟨fun hm => ?_,ih h.tail⟩
   obtain ⟨u,h1,h2⟩:=h.tail.way.mem _ hm
   have:=h.short u h1
   simp only [List.length_cons] at this h2; omega
/-- The queue, where everything came from, and with which place's help (par), how far (dist). -/
structure BBase (adj : Nat → List Nat) (a : Nat) (came : Nat → Int) (q : List Nat) (par dist : Nat → Nat) (b i : Nat) : Prop where
 hd : q[0]? = some a
 nodup : q.Nodup
 cameIff : ∀ x,0 ≤ came x ↔ x ∈ q
 low : ∀ x,-1 ≤ came x
 root : came a = a
 dist0 : dist a = 0
 parLt : ∀ (j x : Nat),0 < j → q[j]? = some x → par j < b ∧ par j < j ∧ ∃ p,q[par j]? = some p ∧ came x = (p : Int) ∧ x ∈ adj p ∧ dist x = dist p + 1
 mono : ∀ (j k x y : Nat),0 < j → j < k → q[j]? = some x → q[k]? = some y → par j ≤ par k ∧ (par j = par k → x < y)
 distMono : ∀ (j k x y : Nat),j ≤ k → q[j]? = some x → q[k]? = some y → dist x ≤ dist y
 closed : ∀ p x,p < i → q[p]? = some x → ∀ t ∈ adj x,∃ j,q[j]? = some t ∧ (0 < j → par j ≤ p)
/-- Between two rounds. -/
abbrev BOut (adj : Nat → List Nat) (a : Nat) (came : Nat → Int) (q : List Nat) (par dist : Nat → Nat) (i : Nat) : Prop:=BBase adj a came q par dist i i
/-- Within a round: l is what is left of v's arrows, from the least on. -/
structure BIn (adj : Nat → List Nat) (a : Nat) (came : Nat → Int) (q : List Nat) (par dist : Nat → Nat) (i v : Nat) (l : List Nat) : Prop where
 base : BBase adj a came q par dist (i + 1) i
 cur : q[i]? = some v
 sub : ∀ t ∈ l,t ∈ adj v
 sorted : l.Pairwise (· ≤ ·)
 seen : ∀ t ∈ adj v,t ∈ l ∨ ∃ j,q[j]? = some t ∧ (0 < j → par j ≤ i)
 new : ∀ j x,0 < j → q[j]? = some x → par j = i → ∀ t ∈ l,x ≤ t
variable {adj : Nat → List Nat} {a : Nat} {came : Nat → Int} {q : List Nat} {par dist : Nat → Nat} {b i v : Nat} {l : List Nat}
theorem get_of {q : List Nat} {j x : Nat} (h : q[j]? = some x) : j < q.length:=by
 by_cases e : j < q.length
 ·exact e
 ·rw [List.getElem?_eq_none (by omega)] at h; cases h
theorem get_inj {q : List Nat} (hn : q.Nodup) {j k x : Nat} (h : q[j]? = some x) (h2 : q[k]? = some x) : j = k:=by
 have h1:=get_of h
 exact (List.getElem?_inj h1 hn).1 (h.trans h2.symm)
theorem BBase.enter (h : BOut adj a came q par dist i) (hv : q[i]? = some v) (hl : ∀ t,t ∈ l ↔ t ∈ adj v) (hs : l.Pairwise (· ≤ ·)) : BIn adj a came q par dist i v l:=by
 refine ⟨⟨h.hd,h.nodup,h.cameIff,h.low,h.root,h.dist0,fun j x hj hx => ?_,h.mono,h.distMono,h.closed⟩,hv,fun t ht => (hl t).1 ht,hs,fun t ht => .inl ((hl t).2 ht),fun j x hj hx hp => ?_⟩
 ·obtain ⟨h1,h2,h3⟩:=h.parLt j x hj hx
  exact ⟨by omega,h2,h3⟩
 ·have:=(h.parLt j x hj hx).1; omega
theorem BIn.leave (h : BIn adj a came q par dist i v []) : BOut adj a came q par dist (i + 1):=by
 refine ⟨h.base.hd,h.base.nodup,h.base.cameIff,h.base.low,h.base.root,h.base.dist0,h.base.parLt,h.base.mono,h.base.distMono,fun p x hp hx t ht => ?_⟩
 by_cases e : p = i
 ·subst e
  rw [h.cur] at hx; cases hx
  exact (h.seen t ht).resolve_left (by simp)
 ·exact h.base.closed p x (by omega) hx t ht
/-- An arrow to a vertex that is there. -/
theorem BIn.old {t : Nat} (h : BIn adj a came q par dist i v (t :: l)) (ht : 0 ≤ came t) : BIn adj a came q par dist i v l:=by
 refine ⟨h.base,h.cur,fun x hx => h.sub x (List.mem_cons_of_mem _ hx),(List.pairwise_cons.1 h.sorted).2,fun x hx => ?_,fun j x hj hx hp y hy => h.new j x hj hx hp y (List.mem_cons_of_mem _ hy)⟩
 rcases h.seen x hx with q1 | q1
 ·rcases List.mem_cons.1 q1 with e | e
  ·subst e
   obtain ⟨j,hj⟩:=List.mem_iff_getElem?.1 ((h.base.cameIff x).1 ht)
   refine .inr ⟨j,hj,fun hj0 => ?_⟩
   have:=(h.base.parLt j x hj0 hj).1; omega
  ·exact .inl e
 ·exact .inr q1
/-- An arrow to a new one. -/
theorem BIn.add {t : Nat} (h : BIn adj a came q par dist i v (t :: l)) (ht : came t < 0) :
 BIn adj a (updN came t (v : Int)) (q ++ [t]) (updN par q.length i) (updN dist t (dist v + 1)) i v l:=by
 have hB:=h.base
 have htq : t ∉ q:=fun hm => by have:=(hB.cameIff t).2 hm; omega
 have hil:=get_of h.cur
 have hga : ∀ j x,(q ++ [t])[j]? = some x → q[j]? = some x ∧ j < q.length ∧ x ≠ t ∨ j = q.length ∧ x = t:=fun j x hx => by
  by_cases e : j < q.length
  ·rw [List.getElem?_append_left e] at hx
   exact .inl ⟨hx,e,fun e2 => htq (by rw [← e2]; exact List.mem_of_getElem? hx)⟩
  ·rw [List.getElem?_append_right (by omega)] at hx
   by_cases e2 : j = q.length
   ·rw [e2] at hx; simp at hx; exact .inr ⟨e2,hx.symm⟩
   ·rw [List.getElem?_eq_none (by simp; omega)] at hx; cases hx
 have hgo : ∀ {j x},q[j]? = some x → (q ++ [t])[j]? = some x:=fun {j x} hx => by rw [List.getElem?_append_left (get_of hx)]; exact hx
 have hne : ∀ x,x ∈ q → x ≠ t:=fun x hx e => htq (by rw [← e]; exact hx)
 have hvt : v ≠ t:=hne v (List.mem_of_getElem? h.cur)
 have po : ∀ j,j < q.length → updN par q.length i j = par j:=fun j hj => updN_other _ _ _ (by omega)
 have dq : ∀ x,x ∈ q → updN dist t (dist v + 1) x = dist x:=fun x hx => updN_other _ _ _ (hne x hx)
 have haq : a ∈ q:=List.mem_of_getElem? hB.hd
 have hdle : ∀ x,x ∈ q → dist x ≤ dist v + 1:=fun x hx => by
  obtain ⟨j,hj⟩:=List.mem_iff_getElem?.1 hx
  by_cases e : 0 < j
  ·obtain ⟨h1,h2,p,h3,h4,h5,h6⟩:=hB.parLt j x e hj
   have:=hB.distMono (par j) i p v (by omega) h3 h.cur
   omega
  ·have : j = 0:=by omega
   subst this; rw [hB.hd] at hj; cases hj; have:=hB.dist0; omega
 refine ⟨⟨hgo hB.hd,?_,fun x => ?_,fun x => ?_,?_,?_,fun j x hj hx => ?_,fun j k x y hj hjk hx hy => ?_,fun j k x y hjk hx hy => ?_,fun p x hp hx t' ht' => ?_⟩,hgo h.cur,fun x hx => h.sub x (List.mem_cons_of_mem _ hx),(List.pairwise_cons.1 h.sorted).2,fun x hx => ?_,fun j x hj hx hp y hy => ?_⟩
 ·exact List.nodup_append.2 ⟨hB.nodup,by simp,fun x hx y hy => by cases List.mem_singleton.1 hy; exact hne x hx⟩
 ·by_cases e : x = t
  ·subst e; rw [updN_same]; simp
  ·rw [updN_other _ _ _ e,hB.cameIff]; simp [e]
 ·by_cases e : x = t
  ·subst e; rw [updN_same]; omega
  ·rw [updN_other _ _ _ e]; exact hB.low x
 ·rw [updN_other _ _ _ (hne a haq)]; exact hB.root
 ·rw [dq a haq]; exact hB.dist0
 ·rcases hga j x hx with ⟨h1,h2,h3⟩ | ⟨rfl,rfl⟩
  ·obtain ⟨p1,p2,p,p3,p4,p5,p6⟩:=hB.parLt j x hj h1
   rw [po j h2,updN_other _ _ _ h3,dq x (List.mem_of_getElem? h1)]
   exact ⟨p1,p2,p,hgo p3,p4,p5,by rw [dq p (List.mem_of_getElem? p3)]; exact p6⟩
  ·rw [updN_same,updN_same,updN_same]
   exact ⟨by omega,hil,v,hgo h.cur,rfl,h.sub _ List.mem_cons_self,by rw [dq v (List.mem_of_getElem? h.cur)]⟩
 ·rcases hga j x hx with ⟨h1,h2,h3⟩ | ⟨rfl,rfl⟩
  ·rcases hga k y hy with ⟨k1,k2,k3⟩ | ⟨rfl,rfl⟩
   ·rw [po j h2,po k k2]; exact hB.mono j k x y hj hjk h1 k1
   ·rw [po j h2,updN_same]
    have:=(hB.parLt j x hj h1).1
    exact ⟨by omega,fun e => by have:=h.new j x hj h1 e y List.mem_cons_self; omega⟩
  ·rcases hga k y hy with ⟨k1,k2,k3⟩ | ⟨rfl,rfl⟩ <;> omega
 ·rcases hga k y hy with ⟨k1,k2,k3⟩ | ⟨rfl,rfl⟩
  ·rcases hga j x hx with ⟨h1,h2,h3⟩ | ⟨rfl,rfl⟩
   ·rw [dq x (List.mem_of_getElem? h1),dq y (List.mem_of_getElem? k1)]; exact hB.distMono j k x y hjk h1 k1
   ·omega
  ·rcases hga j x hx with ⟨h1,h2,h3⟩ | ⟨h1,rfl⟩
   ·rw [dq x (List.mem_of_getElem? h1),updN_same]; exact hdle x (List.mem_of_getElem? h1)
   ·exact Nat.le_refl _
 ·rcases hga p x hx with ⟨h1,h2,h3⟩ | ⟨h1,rfl⟩
  ·obtain ⟨j,j1,j2⟩:=hB.closed p x hp h1 t' ht'
   exact ⟨j,hgo j1,fun hj => by rw [po j (get_of j1)]; exact j2 hj⟩
  ·omega
 ·by_cases e : x = t
  ·subst e; exact .inr ⟨q.length,by simp,fun _ => by rw [updN_same]; exact Nat.le_refl _⟩
  ·rcases h.seen x hx with q1 | ⟨j,j1,j2⟩
   ·exact .inl ((List.mem_cons.1 q1).resolve_left e)
   ·exact .inr ⟨j,hgo j1,fun hj => by rw [po j (get_of j1)]; exact j2 hj⟩
 ·rcases hga j x hx with ⟨h1,h2,h3⟩ | ⟨rfl,rfl⟩
  ·rw [po j h2] at hp; exact h.new j x hj h1 hp y (List.mem_cons_of_mem _ hy)
  ·exact (List.pairwise_cons.1 h.sorted).1 y hy
theorem BBase.init (adj : Nat → List Nat) (a : Nat) : BOut adj a (updN (fun _ => (-1 : Int)) a (a : Int)) [a] (fun _ => 0) (fun _ => 0) 0:=by
 have hg : ∀ j x,[a][j]? = some x → j = 0 ∧ x = a:=fun j x hx => by
  cases j with
  | zero => simp at hx; exact ⟨rfl,hx.symm⟩
  | succ j => simp at hx
 refine ⟨rfl,by simp,fun x => ?_,fun x => ?_,updN_same _ _ _,rfl,fun j x hj hx => ?_,fun j k x y hj hjk hx hy => ?_,fun j k x y hjk hx hy => Nat.le_refl _,fun p x hp => by omega⟩
 ·by_cases e : x = a
  ·subst e; rw [updN_same]; simp
  ·rw [updN_other _ _ _ e]; simp [e]
 ·by_cases e : x = a
  ·subst e; rw [updN_same]; omega
  ·rw [updN_other _ _ _ e]; omega
 ·have:=(hg j x hx).1; omega
 ·have:=(hg j x hx).1; have:=(hg k y hy).1; omega
/-- A way along which each vertex came from the one ahead of it. -/
inductive Tree (came : Nat → Int) (q : List Nat) (adj : Nat → List Nat) : Nat → Nat → List Nat → Prop
 | one (x : Nat) (hx : x ∈ q) : Tree came q adj x x [x]
 | cons {x t y : Nat} {w : List Nat} (jx jt : Nat) (hx : q[jx]? = some x) (ht : q[jt]? = some t) (h0 : 0 < jt) (hp : came t = (x : Int)) (h : Tree came q adj t y w) : Tree came q adj x y (x :: w)
theorem BBase.parent (h : BOut adj a came q par dist i) {jx jt x t : Nat} (hx : q[jx]? = some x) (ht : q[jt]? = some t) (h0 : 0 < jt) (hp : came t = (x : Int)) : par jt = jx ∧ jx < i ∧ jx < jt ∧ t ∈ adj x ∧ dist t = dist x + 1:=by
 obtain ⟨h1,h2,p,h3,h4,h5,h6⟩:=h.parLt jt t h0 ht
 have e : p = x:=by rw [hp] at h4; omega
 subst e
 have:=get_inj h.nodup h3 hx
 exact ⟨this,by omega,by omega,h5,h6⟩
theorem Tree.way (h : BOut adj a came q par dist i) {x y : Nat} {w : List Nat} (ht : Tree came q adj x y w) : Way adj x y w:=by
 induction ht with
 | one => exact .one _
 | cons jx jt hx ht h0 hp _ ih => exact .cons (h.parent hx ht h0 hp).2.2.2.1 ih
theorem Tree.distEq (h : BOut adj a came q par dist i) {x y : Nat} {w : List Nat} (ht : Tree came q adj x y w) : dist y + 1 = dist x + w.length:=by
 induction ht with
 | one => rfl
 | cons jx jt hx ht h0 hp _ ih => have:=(h.parent hx ht h0 hp).2.2.2.2; simp only [List.length_cons]; omega
theorem Tree.last {x y : Nat} {w : List Nat} (ht : Tree came q adj x y w) : y ∈ q:=by
 induction ht with
 | one _ hx => exact hx
 | cons _ _ _ _ _ _ _ ih => exact ih
theorem Tree.le (h : BOut adj a came q par dist i) {x y : Nat} {w : List Nat} (ht : Tree came q adj x y w) : ∀ {j k : Nat},q[j]? = some x → q[k]? = some y → j ≤ k:=by
 induction ht with
 | one => intro j k hj hk; exact Nat.le_of_eq (get_inj h.nodup hj hk)
 | cons jx jt hx ht h0 hp _ ih =>
  intro j k hj hk
  have h1:=(h.parent hx ht h0 hp).2.2.1
  have h2:=ih ht hk
  have:=get_inj h.nodup hj hx
  omega
/-- No way to a vertex of the queue is shorter than how far it is. -/
theorem BBase.far (h : BOut adj a came q par dist i) {x y : Nat} {u : List Nat} (hu : Way adj x y u) (hx : x ∈ q) (hy : y ∈ q) : dist y + 1 ≤ dist x + u.length:=by
 induction hu with
 | one => simp
 | @cons x t y w ht hu ih =>
  obtain ⟨jx,hjx⟩:=List.mem_iff_getElem?.1 hx
  have hl:=hu.pos
  simp only [List.length_cons]
  by_cases hi : jx < i
  ·obtain ⟨jt,h1,h2⟩:=h.closed jx x hi hjx t ht
   have:=ih (List.mem_of_getElem? h1) hy
   have hd : dist t ≤ dist x + 1:=by
    by_cases h0 : 0 < jt
    ·obtain ⟨_,_,p,p1,_,_,p2⟩:=h.parLt jt t h0 h1
     have:=h.distMono _ _ _ _ (h2 h0) p1 hjx
     omega
    ·have : jt = 0:=by omega
     subst this; rw [h.hd] at h1; cases h1; have:=h.dist0; omega
   omega
  ·obtain ⟨jy,hjy⟩:=List.mem_iff_getElem?.1 hy
   by_cases h0 : 0 < jy
   ·obtain ⟨p0,_,p,p1,_,_,p2⟩:=h.parLt jy y h0 hjy
    have:=h.distMono _ _ _ _ (show par jy ≤ jx by omega) p1 hjx
    omega
   ·have : jy = 0:=by omega
    subst this; rw [h.hd] at hjy; cases hjy; have:=h.dist0; omega
/-- From an earlier place a way is longer. -/
theorem BBase.longer (h : BOut adj a came q par dist i) {x y b : Nat} {u w : List Nat} (hu : Way adj x b u) (ht : Tree came q adj y b w) {jx jy : Nat} (hjx : q[jx]? = some x) (hjy : q[jy]? = some y) (hlt : jx < jy) : w.length < u.length:=by
 induction hu generalizing y w jx jy with
 | one => have:=ht.le h hjy hjx; omega
 | @cons x x' b u' hx' hu ih =>
  cases ht with
  | one => have:=hu.pos; simp only [List.length_cons,List.length_nil]; omega
  | cons jy2 jt hy2 hjt h0 hp ht =>
   obtain ⟨e1,e2,e3,_,_⟩:=h.parent hy2 hjt h0 hp
   have e4:=get_inj h.nodup hjy hy2
   obtain ⟨jx',k1,k2⟩:=h.closed jx x (by omega) hjx x' hx'
   have : jx' < jt:=by
    by_cases q1 : jx' < jt
    ·exact q1
    ·exfalso
     by_cases q2 : jx' = jt
     ·rw [q2] at k2; have:=k2 h0; omega
     ·have:=(h.mono jt jx' _ _ h0 (by omega) hjt k1).1
      have:=k2 (by omega); omega
   have:=ih ht k1 hjt this
   simp only [List.length_cons]; omega
/-- Of all ways of its length the tree's is the first. -/
theorem BBase.lex (h : BOut adj a came q par dist i) {x b : Nat} {u w : List Nat} (hu : Way adj x b u) (ht : Tree came q adj x b w) (hl : u.length = w.length) : lexLe w u:=by
 induction hu generalizing w with
 | one =>
  cases ht with
  | one => exact lexLe_refl _
  | cons _ _ _ _ _ _ ht => cases ht <;> simp at hl
 | @cons x x' b u' hx' hu ih =>
  cases ht with
  | one => have:=hu.pos; simp only [List.length_cons,List.length_nil] at hl; omega
  | @cons _ t _ w' jx jt hjx hjt h0 hp ht =>
   obtain ⟨e1,e2,e3,_,_⟩:=h.parent hjx hjt h0 hp
   have hl' : u'.length = w'.length:=by simpa using hl
   by_cases e : x' = t
   ·subst e; exact .inr ⟨rfl,ih ht hl'⟩
   ·refine .inr ⟨rfl,?_⟩
    obtain ⟨jx',k1,k2⟩:=h.closed jx x e2 hjx x' hx'
    have hne : jx' ≠ jt:=fun q1 => by subst q1; rw [k1] at hjt; injection hjt with q2; exact e q2
    have hge : jt < jx':=by
     by_cases q1 : jx' < jt
     ·have:=h.longer hu ht k1 hjt q1; omega
     ·omega
    have hm:=h.mono jt jx' t x' h0 hge hjt k1
    have:=k2 (by omega)
    have hlt:=hm.2 (by omega)
    obtain ⟨_,rfl⟩:=hu.ne
    obtain ⟨_,rfl⟩:=(ht.way h).ne
    exact .inl hlt
theorem BBase.first (h : BOut adj a came q par dist i) {b : Nat} {w : List Nat} (ht : Tree came q adj a b w) : IsFirst adj a b w :=
 ⟨ht.way h,fun u hu => by
   have h1:=h.far hu (List.mem_of_getElem? h.hd) ht.last
   have h2:=ht.distEq h
   omega,fun u hu hl => h.lex hu ht hl⟩
/-- What isn't in the queue at the end can't be reached. -/
theorem BBase.none (h : BOut adj a came q par dist i) (hi : q.length ≤ i) {b : Nat} (hb : came b < 0) : ¬ Goes adj a b:=fun hg => by
 have:=Goes.closed (P:=fun x => x ∈ q) (fun x hx t ht => by
  obtain ⟨j,hj⟩:=List.mem_iff_getElem?.1 hx
  obtain ⟨k,hk,_⟩:=h.closed j x (by have:=get_of hj; omega) hj t ht
  exact List.mem_of_getElem? hk) hg (List.mem_of_getElem? h.hd)
 have:=(h.cameIff b).2 this
 omega
end Go.Proofs.YtjiadfblphdchaaGreatDoor
namespace Go.Proofs.YtjiadfblphdchaaGreatDoor
open Go.RowKit
/-- v is a slice of slices that reads the lists G. -/
def ListsAt (w : World) (v : Value) (G : List (List Int)) : Prop :=
 ∃ vs : List Value,ValsAt w v vs ∧ vs.length = G.length ∧ ∀ i,i < G.length → IntsAt w (vAt vs i) (G.getD i [])
theorem ListsAt.below {w w' : World} {v : Value} {G : List (List Int)} (h : ListsAt w v G) (hb : Below w.heap.size w w') : ListsAt w' v G:=by
 obtain ⟨vs,h1,h2,h3⟩:=h
 exact ⟨vs,h1.below hb,h2,fun i hi => (h3 i hi).below hb⟩
theorem ListsAt.drewN {w : World} {v : Value} {G : List (List Int)} (h : ListsAt w v G) (n : Nat) : ListsAt (w.drewN n) v G:=h
theorem ListsAt.len {w : World} {v : Value} {G : List (List Int)} (h : ListsAt w v G) (ty : TypeId) (w' : World) :
 (Builtin.len_ #[74] ty #[v]).run Tryz.prog w' = .ok (.int .i64 G.length) w':=by
 obtain ⟨vs,h1,h2,h3⟩:=h
 rw [h1.len oneLists,h2]
theorem ListsAt.shape {w : World} {v : Value} {G : List (List Int)} (h : ListsAt w v G) : ∃ a c,v = .slice a G.length c:=by
 obtain ⟨vs,⟨a,c,e,_⟩,h2,_⟩:=h
 exact ⟨a,c,by rw [e,h2]⟩
theorem ListsAt.row {w : World} {v : Value} {G : List (List Int)} (h : ListsAt w v G) (x : Nat) (hx : x < G.length) :
 ∃ mv,(∀ w',(Instr.indexAt 74 v (.int .i64 x)).run Tryz.prog w' = .ok (.pointer (some (valAt v x))) w') ∧ w.cell? (valAt v x) = some mv ∧ IntsAt w mv (G.getD x []):=by
 obtain ⟨vs,h1,h2,h3⟩:=h
 exact ⟨vAt vs x,fun w' => h1.idx oneLists x (by omega) w',h1.cellV x (by omega),h3 x hx⟩
/-- Where an arrow leads. -/
def adjOf (G : List (List Int)) (v : Nat) : List Nat:=(G.getD v []).map Int.toNat
/-- All arrows lead to vertices. -/
def GraphOk (G : List (List Int)) : Prop:=∀ v,v < G.length → ∀ t ∈ G.getD v [],0 ≤ t ∧ t < G.length
theorem adjOf_len (G : List (List Int)) (v : Nat) : (adjOf G v).length = (G.getD v []).length:=by simp [adjOf]
theorem GraphOk.lt {G : List (List Int)} (h : GraphOk G) : ∀ v,v < G.length → ∀ t ∈ adjOf G v,t < G.length:=by
 intro v hv t ht
 obtain ⟨i,hi,rfl⟩:=List.mem_map.1 ht
 have:=h v hv i hi
 omega
theorem GraphOk.get {G : List (List Int)} (h : GraphOk G) {v : Nat} (hv : v < G.length) {i : Nat} (hi : i < (G.getD v []).length) : (G.getD v []).getD i 0 = ((adjOf G v).getD i 0 : Int):=by
 have hm : (G.getD v [])[i] ∈ G.getD v []:=List.getElem_mem hi
 have:=h v hv _ hm
 simp only [adjOf,List.getD_eq_getElem?_getD (l:=List.map _ _),List.getElem?_map,List.getElem?_eq_getElem hi,Option.map_some,Option.getD_some]
 rw [List.getD_eq_getElem?_getD,List.getElem?_eq_getElem hi,Option.getD_some]
 omega
end Go.Proofs.YtjiadfblphdchaaGreatDoor
