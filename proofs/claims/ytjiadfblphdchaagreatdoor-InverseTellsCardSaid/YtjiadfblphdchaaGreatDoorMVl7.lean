/-
  Walk: pairs.Graph.
  Walk: pairs.Words.
  Walk: inject.loops: which vertices stand on a loop.
  Plain mathematics: the breadth first queue as a function, the first vertex of it that is wanted.
  Walk: inject.near: the nearest vertex on a loop.
  Walk: inject.turned: the arrows the other way round.
  Walk: pairs.Words along a list of vertices.
  append(s, t...) as a run and as a step of a drawn region; walk: edenraw.Copy.
  Walk: inject.sides.
  Lists of their own in any order: what Apart asks, also behind an append to the list that holds them.
  append(s[1:], x), s an own slice of ints.
  Walk: graph.Path.
  Walk: graph.Loop.
  Walk: edenref18.Make.
  Walks: edenraw.LentRule, KeptRule.
  A store of a whole edenraw.Err into its box: what stays as it was.
  Boxes of structs of four cells among the rows of a call's own memory.
  The chapter's graph: its parts, its live vertices, its way from 0 to 4, as plain mathematics; the walk that makes it.
-/
import Derived.Test.YtjiadfblphdchaaGreatDoorMVl6
import Derived.ArgAppend
import Derived.Deep.RegionHeld3
namespace Go.Proofs.YtjiadfblphdchaaGreatDoor
open Go.RowKit
set_option maxRecDepth 100000
theorem lenArr (g K c : Nat) (w : World) : (Builtin.len_ #[124] 3 #[.slice (some ⟨g,0,none⟩) K c]).run Tryz.prog w = .ok (.int .i64 K) w:=by
 rw [run_len_slice _ _ _ _ _ _ (by kernel_rfl)]; rfl
theorem idxArr (g K c s : Nat) (hs : s < K) (w : World) : (Instr.indexAt 124 (.slice (some ⟨g,0,none⟩) K c) (.int .i64 s)).run Tryz.prog w = .ok (.pointer (some ⟨g,s * 2,none⟩)) w:=by
 have e : Tryz.prog.elem 124 = 126:=by kernel_rfl
 have hz : ∀ w : World,(sizeOf 126).run Tryz.prog w = .ok 2 w:=fun w => by kernel_rfl
 rw [run_indexAt_slice _ _ _ _ _ _ _ (by rw [e]; kernel_rfl),if_pos (by omega),e,hz]
 simp only [Result.andThen,Addr.add,Int.toNat_natCast]
 by_cases e : s * 2 = 0
 ·rw [if_pos e]
  simp only [e]
 ·rw [if_neg e]
  simp
/-- While the lists are written. -/
def pairTo (K N : Nat) (T : List Int) (k p : Nat) : List Int:=if p < k then castI (pairL K N T p) else []
theorem pairTo_zero (K N : Nat) (T : List Int) : pairTo K N T 0 = fun _ => []:=by funext p; unfold pairTo; rw [if_neg (by omega)]
theorem pairTo_step (K N : Nat) (T : List Int) (k : Nat) : updN (pairTo K N T k) k (castI (pairL K N T k)) = pairTo K N T (k + 1):=by
 funext p
 unfold pairTo
 by_cases e : p = k
 ·subst e; rw [updN_same,if_pos (by omega)]
 ·rw [updN_other _ _ _ e]
  by_cases h : p < k
  ·rw [if_pos h,if_pos (by omega)]
  ·rw [if_neg h,if_neg (by omega)]
/-- The graph of pairs. -/
def pairG (K N : Nat) (T : List Int) : List (List Int):=rowsOf (N * N) fun p => castI (pairL K N T p)
theorem cell_grown {w w' : World} {row : Option Nat} {p : Addr} {v : Value} (hg : w.grownBy w' row) (h : w.cell? p = some v) (hne : row ≠ some p.block) : w'.cell? p = some v :=
 (World.cell?_of_block (hg.block _ (World.block_lt_of_cell? _ _ h) (fun e => hne e.symm))).trans h
theorem Rows.monoB {B B' : Nat} {w : World} {f : Names} (h : Rows B w f) (hB : B' ≤ B) : Rows B' w f :=
 ⟨fun i r hi => by
   have ho:=h.1 i r hi
   refine ⟨ho.1,?_⟩
   rcases ho.2 with h2 | ⟨g,cap,cur,e,hb,r⟩
   ·exact .inl h2
   ·exact .inr ⟨g,cap,cur,e,Nat.le_trans hB hb,r⟩,h.2⟩
set_option maxHeartbeats 1000000 in
theorem pgraph_ok (r : Nat → Addr) (K R : Nat) (va : Option Addr) (vn vc : Nat) (T : List Int) (w : World) (hg : Glob r w) (h : IntsAt w (.slice va vn vc) T) (hr : RuleOk K R T) (hl : T.length ≤ 256) :
 Calls Tryz.prog 42 #[.agg #[.int .i64 K,.int .i64 R,.slice va vn vc]] w (Ret2 (fun x y w' => y = .nilIface ∧ ∃ f vals,Rows w.heap.size w' f ∧ WN f x vals (pw K (2 * wkR R) * pw K (2 * wkR R)) (fun p => castI (pairL K (pw K (2 * wkR R)) (wkT K R T) p))) w):=by
 have b0:=belowAlloc w (.cells #[.int .i64 K,.int .i64 R,.slice va vn vc] 24)
 have q : Box3 (w.alloc (.cells #[.int .i64 K,.int .i64 R,.slice va vn vc] 24)) w.heap.size (.int .i64 K) (.int .i64 R) (.slice va vn vc):=by simp [Box3,go_sem]
 have hk1:=hr.k1
 have hk4:=hr.k4
 have hokW:=wk_ok hr
 have hlW:=wk_small hr hl
 have hRW:=wk_pos R
 have hN81:=nodes_le hokW hRW hlW
 obtain ⟨hdiv,hlen⟩:=hokW.half
 have hN1:=pw_pos (K:=K) (2 * wkR R) hk1
 have hwork:=fun (w' : World) (hgl : Glob r w') (hT : IntsAt w' (.slice va vn vc) T) => working_ok r K R va vn vc T w' hgl hT hr hl
 have harr:=fun (a : Option Addr) (n c : Nat) (w' : World) (hgl : Glob r w') (hT : IntsAt w' (.slice a n c) (wkT K R T)) => arrows_any r K (wkR R) a n c (wkT K R T) w' hgl hT hokW hlW
 rw [hdiv] at harr
 generalize pw K (2 * wkR R) = N at *
 generalize wkT K R T = T' at *
 generalize wkR R = R' at *
 replace hwork:=Lib.hid hwork
 replace harr:=Lib.hid harr
 replace hg:=Lib.hid (hg.below b0)
 replace h:=Lib.hid (h.below b0)
 replace hokW:=Lib.hid hokW
 replace hr:=Lib.hid hr
 replace hdiv:=Lib.hid hdiv
 replace hlen:=Lib.hid hlen
 go_enter Tryz.func42,Tryz.ntmps42
 go_wp2_with fail
 refine (hwork.out _ hg.out h.out).mono ?_
 rintro e w1 ⟨x,y,rfl,b1,rfl,a,n,c,rfl,hT1⟩
 have b01:=Below.step b0 b1
 have ba:=belowAlloc w1 (.cells #[.int .i64 K,.int .i64 R',.slice a n c] 24)
 have q1 : Box3 (w1.alloc (.cells #[.int .i64 K,.int .i64 R',.slice a n c] 24)) w1.heap.size (.int .i64 K) (.int .i64 R') (.slice a n c):=by simp [Box3,go_sem]
 have b02:=Below.step b01 ba
 have b12:=Below.step b1 ba
 have hT2:=hT1.below ba
 clear q
 replace hT1:=Lib.hid hT1
 replace hT2:=Lib.hid hT2
 go_wp2_with fail
 refine (harr.out a n c _ (hg.out.below b12) hT2.out).mono ?_
 rintro e w3 ⟨lv,rfl,b3,hA⟩
 have b03:=Below.step b02 b3
 clear q1
 obtain ⟨vs,hvs,hvl,hrows⟩:=hA
 obtain ⟨la,ln,lc,rfl⟩:=hvs.shape
 have ll:=fun w' => hvs.len oneArrows 3 w'
 rw [hvl] at ll
 have hNN : (N : Int) * (N : Int) = ((N * N : Nat) : Int):=by simp
 have hM6 : N * N ≤ 6561:=Nat.mul_le_mul hN81 hN81
 have hNz1 : ¬ (N : Int) = 0:=by omega
 have hNz2 : ((N : Int) == 0) = false:=by rw [beq_eq_false_iff_ne]; omega
 have hNz3 : (0 : Int) < N:=by omega
 have hNz4 : ¬ N = 0:=by omega
 obtain ⟨M,hM⟩ : ∃ M,N * N = M:=⟨_,rfl⟩
 rw [hM] at hNN hM6
 have hwM : IntKind.i64.wrap (M : Int) = M:=wrapK (by omega) (by omega)
 obtain ⟨ov,w4,mk,ho,hb4⟩:=run_makeW oneLists (M : Int) M w3 rfl (by omega)
 obtain ⟨f1,hr1,h1⟩:=WN.made M hb4 (Nat.le_refl _) ho
 obtain ⟨oa,on,oc,rfl⟩:=ho.shape
 have lo:=fun w' => (ho.at).len oneLists 3 w'
 rw [List.length_replicate] at lo
 rw [← pairTo_zero K N T'] at h1
 replace hvs:=Lib.hid hvs
 replace hrows:=Lib.hid hrows
 replace hr1:=Lib.hid hr1
 replace ho:=Lib.hid ho
 replace hM:=Lib.hid hM
 go_wp2_with fail
 clear mk lo ll
 go_loopw [33] (fun kv wr => ∃ (k : Nat) (f : Names) (vals : List Value),k ≤ M ∧ kv = .int .i64 k ∧ Rows w3.heap.size wr f ∧ Below w3.heap.size w3 wr ∧ WN f (.slice oa on oc) vals M (pairTo K N T' k)) (fun kv _ => M - (intOf kv).toNat)
 case atStart => exact ⟨0,f1,_,by omega,rfl,hr1.out,hb4,h1⟩
 case round =>
  clear h1 ho hr1 hb4
  obtain ⟨k,f2,vals,hk,rfl,hr2,b2,h2⟩:=hrel
  obtain ⟨wo,rfl⟩ : ∃ wo : World,wo = wr:=⟨_,rfl⟩
  by_cases hlt : k < M
  ·obtain ⟨u,hu⟩ : ∃ u,k / N = u:=⟨_,rfl⟩
   obtain ⟨v,hv⟩ : ∃ v,k % N = v:=⟨_,rfl⟩
   have hun : u < N:=by rw [← hu]; exact div_lt_of (by rw [hM.out]; exact hlt)
   have hvn : v < N:=by rw [← hv]; exact Nat.mod_lt _ (by omega)
   have hqu : (k : Int) / (N : Int) = (u : Int):=by rw [← hu]; simp
   have hqv : (k : Int) % (N : Int) = (v : Int):=by rw [← hv]; simp
   have hqu2 : (k : Int).tdiv (N : Int) = (u : Int):=by rw [Int.tdiv_eq_ediv_of_nonneg (by omega)]; exact hqu
   have hqv2 : (k : Int).tmod (N : Int) = (v : Int):=by rw [Int.tmod_eq_emod_of_nonneg (by omega)]; exact hqv
   have hwu : IntKind.i64.wrap (u : Int) = u:=wrapK (by omega) (by omega)
   have hwv : IntKind.i64.wrap (v : Int) = v:=wrapK (by omega) (by omega)
   obtain ⟨gu,cu,eu,hcu,hcellU⟩:=hrows.out u hun
   obtain ⟨gv,cv,ev,hcv,hcellV⟩:=hrows.out v hvn
   have iU:=fun w' => hvs.out.idx oneArrows u (by omega) w'
   have iV:=fun w' => hvs.out.idx oneArrows v (by omega) w'
   have cU3:=hvs.out.cellV u (by omega)
   have cV3:=hvs.out.cellV v (by omega)
   rw [eu] at cU3
   rw [ev] at cV3
   have cU:=(b2.cell (World.block_lt_of_cell? _ _ cU3)).trans cU3
   generalize valAt (.slice la ln lc) u = ua at *
   have lenU:=lenArr gu K cu
   have lenV:=lenArr gv K cv
   have idxU:=fun s (hs : s < K) w' => idxArr gu K cu s hs w'
   have idxV:=fun s (hs : s < K) w' => idxArr gv K cv s hs w'
   have hcU:=fun (w' : World) (hb : Below w3.heap.size w3 w') s (hs : s < K) => (⟨cell_keep hb (hcellU s hs).1,cell_keep hb (hcellU s hs).2⟩ : w'.cell? ⟨gu,s * 2,none⟩ = some (.int .i64 (toN K N u s)) ∧ w'.cell? ⟨gu,s * 2 + 1,none⟩ = some (.int .i64 (labN K T' u s)))
   have hcV:=fun (w' : World) (hb : Below w3.heap.size w3 w') s (hs : s < K) => (⟨cell_keep hb (hcellV s hs).1,cell_keep hb (hcellV s hs).2⟩ : w'.cell? ⟨gv,s * 2,none⟩ = some (.int .i64 (toN K N v s)) ∧ w'.cell? ⟨gv,s * 2 + 1,none⟩ = some (.int .i64 (labN K T' v s)))
   have cVk:=fun (w' : World) (hb : Below w3.heap.size w3 w') => (hb.cell (World.block_lt_of_cell? _ _ cV3)).trans cV3
   generalize valAt (.slice la ln lc) v = va' at *
   replace hcU:=Lib.hid hcU
   replace hcV:=Lib.hid hcV
   replace cVk:=Lib.hid cVk
   replace idxU:=Lib.hid idxU
   replace idxV:=Lib.hid idxV
   replace hcellU:=Lib.hid hcellU
   replace hcellV:=Lib.hid hcellV
   replace hr2:=Lib.hid hr2
   replace hu:=Lib.hid hu
   replace hv:=Lib.hid hv
   replace eu:=Lib.hid eu
   replace ev:=Lib.hid ev
   clear cU3 cV3
   go_wp2_with fail
   clear cU iU
   go_loopw [10,43] (fun tv sv wr => ∃ (s : Nat) (tw : Value),s ≤ K ∧ sv = .int .i64 s ∧ tw = tv ∧ OwnI wo.heap.size wr tw (castI (rawP K N T' u v s)) ∧ Below wo.heap.size wo wr) (fun _ sv _ => K - (intOf sv).toNat)
   case atStart => exact ⟨0,_,by omega,rfl,rfl,OwnI.nil _ _,Below.refl _ _⟩
   case round =>
    obtain ⟨s,tv,hs,rfl,rfl,hoT,bT⟩:=hrel
    obtain ⟨wt,rfl⟩ : ∃ wt : World,wt = wr:=⟨_,rfl⟩
    by_cases hsl : s < K
    ·have b3t:=b2.trans (bT.mono b2.size)
     have iS:=fun w' => idxU.out s hsl w'
     obtain ⟨cS0,cS1⟩:=hcU.out wt b3t s hsl
     obtain ⟨X,hX⟩ : ∃ X,toN K N u s = X:=⟨_,rfl⟩
     obtain ⟨Y,hY⟩ : ∃ Y,labN K T' u s = Y:=⟨_,rfl⟩
     rw [hX] at cS0
     rw [hY] at cS1
     have hXN : X < N:=by rw [← hX]; exact toN_lt (by omega)
     have bA:=belowAlloc wt (.cells #[.int .i64 X,.int .i64 Y] 126)
     have bTA:=bT.trans (bA.mono bT.size)
     have b3A:=b3t.trans (bA.mono b3t.size)
     have cA0 : (wt.alloc (.cells #[.int .i64 X,.int .i64 Y] 126)).cell? ⟨wt.heap.size,0,none⟩ = some (.int .i64 X):=by simp [go_sem]
     have cA1 : (wt.alloc (.cells #[.int .i64 X,.int .i64 Y] 126)).cell? ⟨wt.heap.size,1,none⟩ = some (.int .i64 Y):=by simp [go_sem]
     have cV:=cVk.out _ b3A
     have hoA:=hoT.below bA
     have hneT : tv.ownBlock ≠ some wt.heap.size:=fun e => by have:=(hoT.lt _ e).2; omega
     replace hoT:=Lib.hid hoT
     replace hoA:=Lib.hid hoA
     replace hX:=Lib.hid hX
     replace hY:=Lib.hid hY
     replace cA0:=Lib.hid cA0
     replace cA1:=Lib.hid cA1
     go_wp2_with fail
     obtain ⟨wa,hwa⟩ : ∃ wa : World,wa = wt.alloc (.cells #[.int .i64 X,.int .i64 Y] 126):=⟨_,rfl⟩
     rw [← hwa] at bA bTA b3A cA0 cA1 cV hoA ⊢
     replace hwa:=Lib.hid hwa
     go_loopw [10,54] (fun tv' jv wr => ∃ (j : Nat) (tw : Value),j ≤ K ∧ jv = .int .i64 j ∧ tw = tv' ∧ OwnI wo.heap.size wr tw (castI (rawP K N T' u v s ++ rawS K N T' u v s j)) ∧ Below wo.heap.size wo wr ∧ tw.ownBlock ≠ some wt.heap.size ∧ wr.cell? ⟨wt.heap.size,0,none⟩ = some (.int .i64 X) ∧ wr.cell? ⟨wt.heap.size,1,none⟩ = some (.int .i64 Y)) (fun _ jv _ => K - (intOf jv).toNat)
     case atStart => exact ⟨0,_,by omega,rfl,rfl,by simpa [rawS] using hoA.out,bTA,hneT,cA0.out,cA1.out⟩
     case round =>
      obtain ⟨j,tj,hj,rfl,rfl,hoJ,bJ,hne,y0,y1⟩:=hrel
      obtain ⟨wj,rfl⟩ : ∃ wj : World,wj = wr:=⟨_,rfl⟩
      by_cases hjl : j < K
      ·have b3j:=b2.trans (bJ.mono b2.size)
       have iJ:=fun w' => idxV.out j hjl w'
       obtain ⟨cJ0,cJ1⟩:=hcV.out wj b3j j hjl
       obtain ⟨X2,hX2⟩ : ∃ X,toN K N v j = X:=⟨_,rfl⟩
       obtain ⟨Y2,hY2⟩ : ∃ Y,labN K T' v j = Y:=⟨_,rfl⟩
       rw [hX2] at cJ0
       rw [hY2] at cJ1
       have hXN2 : X2 < N:=by rw [← hX2]; exact toN_lt (by omega)
       have bA2:=belowAlloc wj (.cells #[.int .i64 X2,.int .i64 Y2] 126)
       have y0':=cell_keep bA2 y0
       have y1':=cell_keep bA2 y1
       have bJA:=bJ.trans (bA2.mono bJ.size)
       have hoJA:=hoJ.below bA2
       have hsz:=bJA.size
       have hwt : wt.heap.size < wj.heap.size:=World.block_lt_of_cell? _ _ y0
       have hlenJ : (castI (rawP K N T' u v s ++ rawS K N T' u v s j)).length ≤ 100:=by
        rw [castI_len,List.length_append]
        have e1:=rawP_len K N T' u v s
        have e2:=rawS_len K N T' u v s j
        have e3:=Nat.mul_le_mul hs hk4
        omega
       replace hoJ:=Lib.hid hoJ
       replace hX2:=Lib.hid hX2
       replace hY2:=Lib.hid hY2
       have cB0 : (wj.alloc (.cells #[.int .i64 X2,.int .i64 Y2] 126)).cell? ⟨wj.heap.size,0,none⟩ = some (.int .i64 X2):=by simp [go_sem]
       have cB1 : (wj.alloc (.cells #[.int .i64 X2,.int .i64 Y2] 126)).cell? ⟨wj.heap.size,1,none⟩ = some (.int .i64 Y2):=by simp [go_sem]
       go_upto_region 17 with fail
       obtain ⟨wb,hwb⟩ : ∃ wb : World,wb = wj.alloc (.cells #[.int .i64 X2,.int .i64 Y2] 126):=⟨_,rfl⟩
       rw [← hwb] at bA2 y0' y1' bJA hoJA hsz cB0 cB1 ⊢
       have hszb : wj.heap.size < wb.heap.size:=World.block_lt_of_cell? _ _ cB0
       replace hszb:=Lib.hid hszb
       replace hwb:=Lib.hid hwb
       by_cases hYY : Y = Y2
       ·have hYq : (Y == Y2) = true:=by rw [beq_iff_eq]; exact hYY
        have hraw : rawS K N T' u v s (j + 1) = rawS K N T' u v s j ++ [X * N + X2]:=by
         rw [rawS_succ]; unfold rawT
         rw [hY.out,hY2.out,hX.out,hX2.out,if_pos hYY]
        obtain ⟨m,hm⟩ : ∃ m,X * N = m:=⟨_,rfl⟩
        have hm1 : (X : Int) * (N : Int) = (m : Int):=by rw [← hm]; simp
        have hml : m ≤ 6561:=by rw [← hm]; exact Nat.le_trans (Nat.mul_le_mul (show X ≤ 81 by omega) hN81) (by decide)
        have hwm : IntKind.i64.wrap (m : Int) = m:=wrapK (by omega) (by omega)
        have hsum : (m : Int) + (X2 : Int) = ((m + X2 : Nat) : Int):=by simp
        rw [hm] at hraw
        obtain ⟨z,hz⟩ : ∃ z,m + X2 = z:=⟨_,rfl⟩
        rw [hz] at hsum hraw
        have hzl : z ≤ 7000:=by omega
        have hwz : IntKind.i64.wrap (z : Int) = z:=wrapK (by omega) (by omega)
        replace hraw:=Lib.hid hraw
        replace hm:=Lib.hid hm
        replace hz:=Lib.hid hz
        replace hYY:=Lib.hid hYY
        go_wp2_with (at_builtin; go_loud (refine wpl_app1 rfl _ _ rfl wo.heap.size tj _ z hoJA rfl rfl (by omega) hsz ?_))
        intro v' w7 ho7 b7 hal
        have hne' : v'.ownBlock ≠ some wt.heap.size:=by
         rcases hal with ⟨q1,_⟩ | ⟨m,q1,q2,_⟩
         ·rw [ownBlock_eq hoJA ho7 q1]; exact hne
         ·rw [q1]; intro e; injection e with e; have:=hszb.out; omega
        have y07 : w7.cell? ⟨wt.heap.size,0,none⟩ = some (.int .i64 X) ∧ w7.cell? ⟨wt.heap.size,1,none⟩ = some (.int .i64 Y):=by
         rcases hal with ⟨_,q2⟩ | ⟨_,_,_,q2⟩
         ·exact ⟨cell_grown q2 y0' hne,cell_grown q2 y1' hne⟩
         ·exact ⟨cell_grown q2 y0' (by simp),cell_grown q2 y1' (by simp)⟩
        obtain ⟨ta,tn,tc,rfl⟩:=ho7.at.shape
        replace ho7:=Lib.hid ho7
        replace y07:=Lib.hid y07
        clear hal
        go_wp2
        go_roundw
        case measure => simp [intOf]; omega
        case rel => exact ⟨j + 1,_,by omega,by go_num,rfl,by rw [hraw.out,← List.append_assoc,castI_snoc]; exact ho7.out,bJA.trans b7,hne',y07.out.1,y07.out.2⟩
       ·have hYq : (Y == Y2) = false:=by rw [beq_eq_false_iff_ne]; exact hYY
        have hraw : rawS K N T' u v s (j + 1) = rawS K N T' u v s j:=by
         rw [rawS_succ]; unfold rawT
         rw [hY.out,hY2.out,if_neg hYY,List.append_nil]
        replace hraw:=Lib.hid hraw
        replace hoJA:=Lib.hid hoJA
        replace hYY:=Lib.hid hYY
        go_wp2
        go_roundw
        case measure => simp [intOf]; omega
        case rel => exact ⟨j + 1,_,by omega,by go_num,rfl,by rw [hraw.out]; exact hoJA.out,bJA,hne,y0',y1'⟩
      ·obtain rfl : j = K:=by omega
       rw [← rawP_succ] at hoJ
       replace hoJ:=Lib.hid hoJ
       go_wp2
       go_roundw
       case measure => simp [intOf]; omega
       case rel => exact ⟨s + 1,_,by omega,by go_num,rfl,hoJ.out,bJ⟩
    ·obtain rfl : s = K:=by omega
     have hlT : (castI (rawP s N T' u v s)).length ≤ 17592186044416:=by
      rw [castI_len]
      have e1:=rawP_len s N T' u v s
      have e3:=Nat.mul_le_mul hk4 hk4
      omega
     have hsz:=bT.size
     replace hoT:=Lib.hid hoT
     go_wp2_with fail
     refine (sort_own wo.heap.size tv _ wt hoT.out hlT hsz).mono ?_
     rintro e w8 ⟨rfl,ho8,b8⟩
     have bT8:=bT.trans b8
     replace ho8:=Lib.hid ho8
     go_wp2_with fail
     refine (compact_own wo.heap.size tv _ w8 ho8.out (by rw [srt_length]; omega)).mono ?_
     rintro e w9 ⟨x,rfl,_,ho9,b9⟩
     have bT9:=bT8.trans b9
     have hded : ded (srt (castI (rawP s N T' u v s))) (srt (castI (rawP s N T' u v s))).length = castI (pairL s N T' k):=by
      refine ded_pair (by omega) (srt_sorted _) (fun x => ?_)
      rw [srt_mem,hu.out,hv.out]; rfl
     rw [hded] at ho9
     have hnew:=h2.new hr2.out k bT9 b2.size ho9
     obtain ⟨y1,y2,y3,f8,hr8,h8,_⟩:=h2.put hlt hnew
     rw [pairTo_step] at h8
     have iO:=fun w' => ((hr2.out.ownV h2.outer).at).idx oneLists k (by rw [h2.len]; exact hlt) w'
     generalize valAt (.slice oa on oc) k = ka at *
     obtain ⟨xa,xn,xc,rfl⟩:=ho9.at.shape
     have b39:=b2.trans (bT9.mono b2.size)
     replace hr8:=Lib.hid hr8
     replace ho9:=Lib.hid ho9
     replace hded:=Lib.hid hded
     replace hnew:=Lib.hid hnew
     go_wp2
     go_roundw
     case measure => simp [intOf]; omega
     case rel => exact ⟨k + 1,f8,_,by omega,by go_num,hr8.out,b39.setCell y3 _,h8⟩
  ·obtain rfl : k = M:=by omega
   have hR:=hr2.monoB (Nat.le_trans b03.size (Nat.le_refl _))
   have hW : WN f2 (.slice oa on oc) vals (N * N) (fun p => castI (pairL K N T' p)):=by
    rw [hM.out]
    exact ⟨h2.outer,h2.len,fun u hu => by rw [h2.rows u hu]; unfold pairTo; rw [if_pos hu]⟩
   have bE:=Below.step b03 b2
   replace hR:=Lib.hid hR
   replace hr2:=Lib.hid hr2
   go_wp2
   go_ret2
   exact ⟨_,_,rfl,bE,rfl,_,_,hR.out,hW⟩
end Go.Proofs.YtjiadfblphdchaaGreatDoor
namespace Go.Proofs.YtjiadfblphdchaaGreatDoor
open Go.RowKit
set_option maxRecDepth 100000
theorem Rows.void (B : Nat) (w : World) : Rows B w (fun _ => Option.none):=by
 refine ⟨?_,?_⟩
 ·intro i r h; cases h
 ·intro i j r s h; cases h
theorem Rows.push {B : Nat} {w w1 : World} {f : Names} {i : Nat × Nat} {v v' : Value} {xs : List Int} (h : Rows B w f) (hi : f i = some (rowI v xs)) (x : Int) (ho : OwnI B w1 v' (xs ++ [x]))
 (hg : w.grownBy w1 v.ownBlock) (hal : v'.ownBlock = v.ownBlock ∨ ∃ k,v'.ownBlock = some k ∧ w.heap.size ≤ k) : Rows B w1 (upd f i (some (rowI v' (xs ++ [x])))) :=
 h.grown (r':=rowI v' (xs ++ [x])) hi hg ho hal
end Go.Proofs.YtjiadfblphdchaaGreatDoor
namespace Go.Proofs.YtjiadfblphdchaaGreatDoor
open Go.RowKit
set_option maxRecDepth 100000
/-- slices.IndexFunc at a function value that only looks, with two captured variables. -/
theorem indexFunc2_any (v b c : Value) (F : Nat) (xs : List Int) (p : Int → Bool) (w : World) (h : IntsAt w v xs)
 (eg : ∀ args w,(callFunc F args).run Tryz.prog w = .ok (.enter F args) w)
 (hF : ∀ x : Int,x ∈ xs → ∀ n,Calls Tryz.prog F #[.int .i64 x,b,c] (w.drewN n) (RetB (p x) (w.drewN n))) :
 Calls Tryz.prog 94 #[v,.func (.func F) #[] #[b,c]] w fun e w' => ∃ n,e = .returned (.int .i64 (idxOf p xs)) ∧ w' = w.drewN n:=by
 have hlen:=h.len
 have hm:=h.len_le
 replace hF:=Lib.hid hF
 go_enter Tryz.func94,Tryz.ntmps94
 go_wp2
 go_loopw [8] (fun i wr => (∃ k : Nat,k ≤ xs.length ∧ i = .int .i64 k ∧ ∀ j (hj : j < xs.length),j < k → p xs[j] = false) ∧ ∃ n,wr = w.drewN n) (fun i _ => xs.length - (intOf i).toNat)
 case atStart => exact ⟨⟨0,by omega,rfl,by intro t _ h; omega⟩,0,rfl⟩
 case round =>
  obtain ⟨⟨k,hk,rfl,hp⟩,n,rfl⟩:=hrel
  replace hp:=Lib.hid hp
  by_cases hlt : k < xs.length
  ·have hi:=h.idx k hlt
   have hc : (w.drewN n).cell? (valAt v k) = some (.int .i64 xs[k]):=h.cell k hlt
   have hf:=Lib.hid (hF.out xs[k] (by simp) n)
   go_wp2_with fail
   refine hf.out.mono ?_
   rintro e w' ⟨n2,rfl,rfl⟩
   cases hpk : p xs[k]
   ·have HP:=Lib.hid hpk
    go_wp2
    go_roundw
    case rel =>
     refine ⟨⟨k+1,by omega,by go_num,?_⟩,_,rfl⟩
     intro j hj hjk
     by_cases e : j = k
     ·subst e; exact HP.out
     ·exact hp.out j hj (by omega)
    case measure => simp [intOf]; omega
   ·have HP:=Lib.hid hpk
    go_wp2
    go_ret
    exact ⟨_,ret_int (idxOf_at k hlt HP.out fun j hj h => hp.out j hj h).symm,rfl⟩
  ·go_wp2
   go_ret
   refine ⟨n,ret_int (idxOf_neg fun x hx => ?_).symm,rfl⟩
   obtain ⟨j,hj,rfl⟩:=List.mem_iff_getElem.1 hx
   exact hp.out j hj (by omega)
theorem idxOf_any (p : Int → Bool) (xs : List Int) : (0 ≤ idxOf p xs) ↔ ∃ x ∈ xs,p x = true:=by
 rcases idxOf_cases p xs with ⟨h1,h2⟩ | ⟨k,h1,h2,h3,_⟩
 ·rw [h1]
  exact ⟨fun h => by omega,fun ⟨x,hx,hp⟩ => by rw [h2 x hx] at hp; cases hp⟩
 ·rw [h1]
  exact ⟨fun _ => ⟨_,List.getElem_mem h2,h3⟩,fun _ => by omega⟩
theorem containsFunc2_any (v b c : Value) (F : Nat) (xs : List Int) (p : Int → Bool) (w : World) (h : IntsAt w v xs)
 (eg : ∀ args w,(callFunc F args).run Tryz.prog w = .ok (.enter F args) w)
 (hF : ∀ x : Int,x ∈ xs → ∀ n,Calls Tryz.prog F #[.int .i64 x,b,c] (w.drewN n) (RetB (p x) (w.drewN n))) :
 Calls Tryz.prog 121 #[v,.func (.func F) #[] #[b,c]] w (RetB (decide (0 ≤ idxOf p xs)) w):=by
 have hI:=indexFunc2_any v b c F xs p w h eg hF
 clear hF eg
 go_enter Tryz.func121,Tryz.ntmps121
 go_wp2_with fail
 refine hI.mono ?_
 rintro e w' ⟨n,rfl,rfl⟩
 go_wp2
 go_ret
 exact ⟨n,ret_bool (by simp),rfl⟩
set_option maxHeartbeats 1000000 in
theorem loops1_any (t v bp bv : Nat) (pv : Value) (ps : List Int) (w : World) (hp : IntsAt w pv ps) (c1 : w.cell? ⟨bp,0,none⟩ = some pv) (c2 : w.cell? ⟨bv,0,none⟩ = some (.int .i64 v)) (ht : t < ps.length) (hv : v < ps.length) :
 Calls Tryz.prog 122 #[.int .i64 t,.pointer (some ⟨bp,0,none⟩),.pointer (some ⟨bv,0,none⟩)] w (RetB (decide (ps.getD t 0 = ps.getD v 0)) w):=by
 have iT:=fun w' => hp.idx t ht w'
 have cT:=hp.cellD t ht
 have iV:=fun w' => hp.idx v hv w'
 have cV:=hp.cellD v hv
 generalize ps.getD t 0 = a at *
 generalize ps.getD v 0 = b at *
 have heq : (a == b) = decide (a = b):=by by_cases e : a = b <;> simp [e]
 generalize valAt pv t = ta at *
 generalize valAt pv v = va at *
 replace hp:=Lib.hid hp
 replace heq:=Lib.hid heq
 generalize hd : decide (a = b) = d at *
 go_enter Tryz.func122,Tryz.ntmps122
 go_upto_region 1 with fail
 refine wp_region_plan (fun w' => w'.cell? ⟨bp,0,none⟩ = some pv ∧ w'.cell? ⟨bv,0,none⟩ = some (.int .i64 v) ∧ w'.cell? ta = some (.int .i64 a) ∧ w'.cell? va = some (.int .i64 b)) 9 [(0,true),(1,true),(2,true),(3,true),(4,true),(5,true),(6,true),(7,true),(8,true)] (by kernel_rfl) (by kernel_rfl) ?_
 have hS : w.drew.cell? ⟨bp,0,none⟩ = some pv ∧ w.drew.cell? ⟨bv,0,none⟩ = some (.int .i64 v) ∧ w.drew.cell? ta = some (.int .i64 a) ∧ w.drew.cell? va = some (.int .i64 b):=⟨c1,c2,cT,cV⟩
 refine pqY 5 hS ?_
 refine pqY 6 hS ?_
 refine pqY 7 hS ?_
 refine pqY 8 hS ?_
 refine pqY 9 hS ?_
 refine pqY 10 hS ?_
 refine pqY 11 hS ?_
 refine pqY 12 hS ?_
 refine pqY 13 hS ?_
 refine head0 ?_
 simp only [List.drop_succ_cons,List.drop_zero]
 clear hS
 go_wp2
 refine NoPanic.normal ?_
 go_wp2
 go_ret
 exact ⟨1,ret_bool heq.out,rfl⟩
theorem eg_loops1 (args : Array Value) (w : World) : (callFunc 122 args).run Tryz.prog w = .ok (.enter 122 args) w:=by kernel_rfl
set_option maxHeartbeats 4000000 in
theorem loops14_any (r : Nat → Addr) (na : Option Addr) (nc : Nat) (G : List (List Int)) (w : World) (hg : Glob r w) (h : ListsAt w (.slice na G.length nc) G) (hsz : ∀ k,k < G.length → (G.getD k []).length ≤ 17592186044416) (hck : checkG G = none) (hok : GraphOk G) (hn : G.length ≤ 8200) :
 Calls Tryz.prog 83 #[.slice na G.length nc] w (Ret2 (fun x y w' => y = .nilIface ∧ ∃ on : Nat → Bool,OwnV 4 w.heap.size w' x (tabB G.length on) ∧ ∀ v,v < G.length → (on v = true ↔ OnLoop (adjOf G) v)) w):=by
 have hP:=parts_any r na nc G w hg h hsz
 have hlg:=h.len 3 w
 replace h:=Lib.hid h
 replace hok:=Lib.hid hok
 replace hck:=Lib.hid hck
 go_enter Tryz.func83,Tryz.ntmps83
 go_wp2_with fail
 refine hP.mono ?_
 rintro e w1 ⟨pv,y,rfl,b1,hE,hps,-⟩
 rw [hck.out] at hE
 obtain rfl:=hE.none_eq
 obtain ⟨ps,hpo,ho⟩:=hps hck.out
 have hpl:=hpo.len
 obtain ⟨pa,pn,pc,rfl⟩:=ho.at.shape
 have b1a:=belowAlloc w1 (.cells #[.slice pa pn pc] 22)
 obtain ⟨W1,hW1⟩ : ∃ W1 : World,W1 = w1.alloc (.cells #[.slice pa pn pc] 22):=⟨_,rfl⟩
 have R1:=(Rows.void w.heap.size w).add (i:=(2,0)) (r':=rowI (.slice pa pn pc) ps) b1 ho (fun k hk => (ho.lt k hk).1)
 have hbx : OwnV 22 w1.heap.size (w1.alloc (.cells #[.slice pa pn pc] 22)) (.slice (some ⟨w1.heap.size,0,none⟩) 1 1) [.slice pa pn pc] :=
  World.ownsRow_lit (base:=w1.heap.size) (e:=22) (size:=1) w1 #[.slice pa pn pc] 1 (Nat.le_refl _) (by decide) rfl
 have R2:=R1.add (i:=(3,0)) (r':=rowV 22 (.slice (some ⟨w1.heap.size,0,none⟩) 1 1) [.slice pa pn pc]) b1a (hbx.mono b1.size) (fun k hk => by cases hk; exact Nat.le_refl _)
 rw [← hW1] at R2 b1a
 have bW1:=Below.step b1 b1a
 obtain ⟨ov,w2,mk,hin,hb2⟩:=run_makeW oneBoolG (G.length : Int) G.length W1 rfl (by omega)
 obtain ⟨oa,on',oc,rfl⟩:=hin.shape
 rw [← tabB_none] at hin
 have R3:=R2.add (i:=(1,0)) (r':=rowV 4 (.slice oa on' oc) (tabB G.length fun _ => false)) hb2 (hin.mono bW1.size) (fun k hk => (hin.lt k hk).1)
 have bW2:=Below.step bW1 hb2
 have hf1 : upd (upd (upd (fun _ => Option.none) (2,0) (some (rowI (.slice pa pn pc) ps))) (3,0) (some (rowV 22 (.slice (some ⟨w1.heap.size,0,none⟩) 1 1) [.slice pa pn pc]))) (1,0) (some (rowV 4 (.slice oa on' oc) (tabB G.length fun _ => false))) (2,0) = some (rowI (.slice pa pn pc) ps):=by rw [upd_ne _ _ (by simp),upd_ne _ _ (by simp),upd_same]
 have hf2 : upd (upd (upd (fun _ => Option.none) (2,0) (some (rowI (.slice pa pn pc) ps))) (3,0) (some (rowV 22 (.slice (some ⟨w1.heap.size,0,none⟩) 1 1) [.slice pa pn pc]))) (1,0) (some (rowV 4 (.slice oa on' oc) (tabB G.length fun _ => false))) (3,0) = some (rowV 22 (.slice (some ⟨w1.heap.size,0,none⟩) 1 1) [.slice pa pn pc]):=by rw [upd_ne _ _ (by simp),upd_same]
 have hf3 : upd (upd (upd (fun _ => Option.none) (2,0) (some (rowI (.slice pa pn pc) ps))) (3,0) (some (rowV 22 (.slice (some ⟨w1.heap.size,0,none⟩) 1 1) [.slice pa pn pc]))) (1,0) (some (rowV 4 (.slice oa on' oc) (tabB G.length fun _ => false))) (1,0) = some (rowV 4 (.slice oa on' oc) (tabB G.length fun _ => false)):=by rw [upd_same]
 generalize upd (upd (upd (fun _ => Option.none) (2,0) (some (rowI (.slice pa pn pc) ps))) (3,0) (some (rowV 22 (.slice (some ⟨w1.heap.size,0,none⟩) 1 1) [.slice pa pn pc]))) (1,0) (some (rowV 4 (.slice oa on' oc) (tabB G.length fun _ => false))) = f1 at *
 replace hf1:=Lib.hid hf1
 replace hf2:=Lib.hid hf2
 replace hf3:=Lib.hid hf3
 replace R3:=Lib.hid R3
 replace hpo:=Lib.hid hpo
 replace hpl:=Lib.hid hpl
 clear hE hps ho R1 R2 hbx hin hP
 go_upto_region 4 with fail
 rw [← hW1]
 replace hW1:=Lib.hid hW1
 go_wp2_with fail
 clear mk
 go_loopw [22] (fun kv wr => ∃ (k : Nat) (F : Nat → Bool) (f : Names),k ≤ G.length ∧ kv = .int .i64 k ∧ Rows w.heap.size wr f ∧ Below w.heap.size w wr ∧ f (2,0) = some (rowI (.slice pa pn pc) ps) ∧ f (3,0) = some (rowV 22 (.slice (some ⟨w1.heap.size,0,none⟩) 1 1) [.slice pa pn pc]) ∧ f (1,0) = some (rowV 4 (.slice oa on' oc) (tabB G.length F)) ∧ ∀ x,x < k → (F x = true ↔ OnLoop (adjOf G) x)) (fun kv _ => G.length - (intOf kv).toNat)
 case atStart => exact ⟨0,_,f1,Nat.zero_le _,rfl,R3.out,bW2,hf1.out,hf2.out,hf3.out,fun x hx => by omega⟩
 case round =>
  clear R3 hf1 hf2 hf3
  obtain ⟨k,F,f2,hk,rfl,hR,hB,g2,g3,g1,hF⟩:=hrel
  obtain ⟨wo,rfl⟩ : ∃ wo : World,wo = wr:=⟨_,rfl⟩
  by_cases hlt : k < G.length
  ·obtain ⟨mv,iR,cR0,hM0⟩:=h.out.row k hlt
   have cR:=(hB.cell (World.block_lt_of_cell? _ _ cR0)).trans cR0
   have hM:=hM0.below hB
   have hgp:=hok.out k hlt
   have hon:=onLoop_parts hok.out hpo.out hlt
   have hadj : adjOf G k = (G.getD k []).map Int.toNat:=rfl
   rw [hadj] at hon
   generalize G.getD k [] = gx at *
   generalize valAt (.slice na G.length nc) k = ra at *
   obtain ⟨ma,mn,mc,rfl⟩:=hM.shape
   have ba:=belowAlloc wo (.cells #[.int .i64 (k : Int)] 3)
   have cV : (wo.alloc (.cells #[.int .i64 (k : Int)] 3)).cell? ⟨wo.heap.size,0,none⟩ = some (.int .i64 k):=by simp [go_sem]
   obtain ⟨W,hW⟩ : ∃ W : World,W = (wo.alloc (.cells #[.int .i64 (k : Int)] 3)).drew:=⟨_,rfl⟩
   have bW : Below wo.heap.size wo W:=by rw [hW]; exact ba.drew
   have cVW : W.cell? ⟨wo.heap.size,0,none⟩ = some (.int .i64 k):=by rw [hW]; exact cV
   have hRW:=hR.below bW
   have hpW:=(hRW.ownI g2).at
   have hMW:=hM.below bW
   have cP : W.cell? ⟨w1.heap.size,0,none⟩ = some (.slice pa pn pc):=by
    have:=hRW.cell g3 (g:=w1.heap.size) (cap:=1) rfl 0 (by simp)
    simpa using this
   have hcl : ∀ x : Int,x ∈ gx → ∀ n,Calls Tryz.prog 122 #[.int .i64 x,.pointer (some ⟨w1.heap.size,0,none⟩),.pointer (some ⟨wo.heap.size,0,none⟩)] (W.drewN n) (RetB (decide (ps.getD x.toNat 0 = ps.getD k 0)) (W.drewN n)):=fun x hx n => by
    obtain ⟨p1,p2⟩:=hgp x hx
    obtain ⟨t,rfl⟩ : ∃ t : Nat,x = t:=Int.eq_ofNat_of_zero_le p1
    rw [Int.toNat_natCast]
    exact loops1_any t k w1.heap.size wo.heap.size (.slice pa pn pc) ps (W.drewN n) (hpW.drewN n) cP cVW (by rw [hpl.out]; omega) (by rw [hpl.out]; exact hlt)
   have hcf:=containsFunc2_any (.slice ma mn mc) (.pointer (some ⟨w1.heap.size,0,none⟩)) (.pointer (some ⟨wo.heap.size,0,none⟩)) 122 gx (fun x => decide (ps.getD x.toNat 0 = ps.getD k 0)) W hMW eg_loops1 hcl
   obtain ⟨bb,hbb⟩ : ∃ bb,decide (0 ≤ idxOf (fun x => decide (ps.getD x.toNat 0 = ps.getD k 0)) gx) = bb:=⟨_,rfl⟩
   rw [hbb] at hcf
   have hF2 : ∀ x,x < k + 1 → (updN F k bb x = true ↔ OnLoop (adjOf G) x):=fun x hx => by
    by_cases e : x = k
    ·subst e
     rw [updN_same,hon,← hbb,decide_eq_true_iff,idxOf_any]
     constructor
     ·rintro ⟨z,hz,hzp⟩
      exact ⟨z.toNat,List.mem_map.2 ⟨z,hz,rfl⟩,of_decide_eq_true hzp⟩
     ·rintro ⟨t,ht,htp⟩
      obtain ⟨z,hz,rfl⟩:=List.mem_map.1 ht
      exact ⟨z,hz,decide_eq_true htp⟩
    ·rw [updN_other _ _ _ e]; exact hF x (by omega)
   have hOV0:=hRW.ownV g1
   have iO:=fun w' => hOV0.at.idx oneBoolG k (by rw [tabB_len]; exact hlt) w'
   replace hbb:=Lib.hid hbb
   replace hF2:=Lib.hid hF2
   replace hF:=Lib.hid hF
   replace hcf:=Lib.hid hcf
   replace hcl:=Lib.hid hcl
   replace hon:=Lib.hid hon
   replace hgp:=Lib.hid hgp
   replace hadj:=Lib.hid hadj
   replace hR:=Lib.hid hR
   replace hRW:=Lib.hid hRW
   replace hOV0:=Lib.hid hOV0
   replace hM:=Lib.hid hM
   replace hM0:=Lib.hid hM0
   replace hMW:=Lib.hid hMW
   replace hpW:=Lib.hid hpW
   replace g1:=Lib.hid g1
   replace g2:=Lib.hid g2
   replace g3:=Lib.hid g3
   clear cR0 cP
   go_upto_region 8 with fail
   refine wp_region_plan (fun w' => w'.cell? ⟨wo.heap.size,0,none⟩ = some (.int .i64 k)) 6 [(0,true),(1,true),(2,true),(3,true),(4,false),(5,true)] (by kernel_rfl) (by kernel_rfl) ?_
   rw [← hW]
   replace hW:=Lib.hid hW
   have hS : W.cell? ⟨wo.heap.size,0,none⟩ = some (.int .i64 k):=cVW
   refine pqY 27 hS ?_
   refine pqY 28 hS ?_
   refine pqY 29 hS ?_
   refine pqY 30 hS ?_
   refine headC rfl (fun KK hK => ?_)
   go_simp
   refine hcf.out.mono ?_
   rintro e w5 h5
   obtain ⟨n5,rfl,rfl⟩:=h5
   have hS5 : (W.drewN n5).cell? ⟨wo.heap.size,0,none⟩ = some (.int .i64 k):=cVW
   refine hK _ _ hS5 ?_
   clear hK KK
   refine pqY 32 hS5 ?_
   refine head0 ?_
   simp only [List.drop_succ_cons,List.drop_zero]
   clear hS hS5
   have b5 : Below wo.heap.size wo (W.drewN n5):=below_drewN bW n5
   have hR5:=hRW.out.drewN n5
   have hOV:=hR5.ownV g1.out
   have cT:=hOV.at.cellV k (by rw [tabB_len]; exact hlt)
   rw [tabB_get _ _ _ hlt] at cT
   have fT:=hOV.frz k (by rw [tabB_len]; exact hlt)
   have kT:=(hOV.blkB k (by rw [tabB_len]; exact hlt)).2
   have hR6:=hR5.setV g1.out k (by rw [tabB_len]; exact hlt) (.bool bb)
   rw [tabB_upd] at hR6
   have b6 : Below w.heap.size w ((W.drewN n5).setCell (valAt (.slice oa on' oc) k) (.bool bb)):=(hB.trans (b5.mono hB.size)).setCell kT _
   generalize valAt (.slice oa on' oc) k = ta at *
   replace hR5:=Lib.hid hR5
   replace hR6:=Lib.hid hR6
   replace hOV:=Lib.hid hOV
   clear iO
   go_wp2
   refine NoPanic.normal ?_
   go_wp2
   go_roundw
   case measure => simp [intOf]; omega
   case rel => exact ⟨k + 1,_,_,by omega,by go_num,hR6.out,b6,by rw [upd_ne _ _ (by simp)]; exact g2.out,by rw [upd_ne _ _ (by simp)]; exact g3.out,by rw [upd_same],hF2.out⟩
  ·obtain rfl : k = G.length:=by omega
   have hres:=hR.ownV g1
   replace hres:=Lib.hid hres
   replace hF:=Lib.hid hF
   replace hR:=Lib.hid hR
   replace g1:=Lib.hid g1
   replace g2:=Lib.hid g2
   replace g3:=Lib.hid g3
   go_wp2
   go_ret2
   exact ⟨_,_,rfl,hB,rfl,F,hres.out,hF.out⟩
end Go.Proofs.YtjiadfblphdchaaGreatDoor
namespace Go.Proofs.YtjiadfblphdchaaGreatDoor
/-- The queue behind the arrows of one vertex. -/
def extQ (q : List Nat) (l : List Nat) : List Nat:=l.foldl (fun q t => if t ∈ q then q else q ++ [t]) q
theorem extQ_nil (q : List Nat) : extQ q [] = q:=rfl
theorem extQ_snoc (q l : List Nat) (t : Nat) : extQ q (l ++ [t]) = if t ∈ extQ q l then extQ q l else extQ q l ++ [t]:=by
 unfold extQ; rw [List.foldl_append]; rfl
/-- The queue when i of its vertices are gone through. -/
def runQ (adj : Nat → List Nat) (v : Nat) : Nat → List Nat
 | 0 => [v]
 | i + 1 => match (runQ adj v i)[i]? with
  | some u => extQ (runQ adj v i) (adj u)
  | none => runQ adj v i
theorem runQ_succ {adj : Nat → List Nat} {v i u : Nat} (h : (runQ adj v i)[i]? = some u) : runQ adj v (i + 1) = extQ (runQ adj v i) (adj u):=by
 rw [runQ,h]
/-- The first in the queue that is wanted. -/
def NearIs (adj : Nat → List Nat) (P : Nat → Prop) (v u : Nat) : Prop:=∃ i,(runQ adj v i)[i]? = some u ∧ P u ∧ ∀ j,j < i → ∀ x,(runQ adj v j)[j]? = some x → ¬ P x
/-- The search so far: i vertices gone through, none of them wanted, j arrows of the next. -/
def NRun (adj : Nat → List Nat) (P : Nat → Prop) (v : Nat) (q : List Nat) (i : Nat) : Prop:=q = runQ adj v i ∧ ∀ j,j < i → ∀ x,(runQ adj v j)[j]? = some x → ¬ P x
def NRunIn (adj : Nat → List Nat) (P : Nat → Prop) (v : Nat) (q : List Nat) (i u j : Nat) : Prop:=q = extQ (runQ adj v i) ((adj u).take j) ∧ (runQ adj v i)[i]? = some u ∧ ¬ P u ∧ ∀ j,j < i → ∀ x,(runQ adj v j)[j]? = some x → ¬ P x
theorem NRun.start (adj : Nat → List Nat) (P : Nat → Prop) (v : Nat) : NRun adj P v [v] 0:=⟨rfl,fun _ h => absurd h (Nat.not_lt_zero _)⟩
theorem NRun.hit {adj : Nat → List Nat} {P : Nat → Prop} {v : Nat} {q : List Nat} {i u : Nat} (h : NRun adj P v q i) (hu : q[i]? = some u) (hp : P u) : NearIs adj P v u:=⟨i,by rw [← h.1]; exact hu,hp,h.2⟩
theorem NRun.enter {adj : Nat → List Nat} {P : Nat → Prop} {v : Nat} {q : List Nat} {i u : Nat} (h : NRun adj P v q i) (hu : q[i]? = some u) (hp : ¬ P u) : NRunIn adj P v q i u 0:=⟨by rw [List.take_zero,extQ_nil]; exact h.1,by rw [← h.1]; exact hu,hp,h.2⟩
theorem NRunIn.push {adj : Nat → List Nat} {P : Nat → Prop} {v : Nat} {q : List Nat} {i u j t : Nat} (h : NRunIn adj P v q i u j) (ht : (adj u)[j]? = some t) (hq : t ∉ q) : NRunIn adj P v (q ++ [t]) i u (j + 1):=by
 refine ⟨?_,h.2⟩
 rw [List.take_add_one,ht,Option.toList_some,extQ_snoc,← h.1,if_neg hq]
theorem NRunIn.old {adj : Nat → List Nat} {P : Nat → Prop} {v : Nat} {q : List Nat} {i u j t : Nat} (h : NRunIn adj P v q i u j) (ht : (adj u)[j]? = some t) (hq : t ∈ q) : NRunIn adj P v q i u (j + 1):=by
 refine ⟨?_,h.2⟩
 rw [List.take_add_one,ht,Option.toList_some,extQ_snoc,← h.1,if_pos hq]
theorem NRunIn.leave {adj : Nat → List Nat} {P : Nat → Prop} {v : Nat} {q : List Nat} {i u : Nat} (h : NRunIn adj P v q i u (adj u).length) : NRun adj P v q (i + 1):=by
 refine ⟨?_,fun j hj x hx => ?_⟩
 ·rw [runQ_succ h.2.1,h.1,List.take_length]
 ·by_cases e : j = i
  ·subst e
   rw [h.2.1] at hx
   obtain rfl:=Option.some.inj hx
   exact h.2.2.1
  ·exact h.2.2.2 j (by omega) x hx
end Go.Proofs.YtjiadfblphdchaaGreatDoor
namespace Go.Proofs.YtjiadfblphdchaaGreatDoor
open Go.RowKit
set_option maxRecDepth 100000
/-- The search: the queue's vertices are those that are seen; behind the first i all arrows have been followed. -/
structure NInv (n : Nat) (adj : Nat → List Nat) (v : Nat) (on m : Nat → Bool) (q : List Nat) (i : Nat) : Prop where
 nd : q.Nodup
 low : ∀ x ∈ q,x < n ∧ Goes adj v x
 seen : ∀ x,x < n → (m x = true ↔ x ∈ q)
 st : v ∈ q
 dn : ∀ j x,j < i → q[j]? = some x → on x = false ∧ ∀ t ∈ adj x,t ∈ q
theorem NInv.start {n : Nat} {adj : Nat → List Nat} {v : Nat} {on : Nat → Bool} (hv : v < n) : NInv n adj v on (updN (fun _ => false) v true) [v] 0 :=
 ⟨by simp,fun x hx => by rw [List.mem_singleton] at hx; subst hx; exact ⟨hv,.refl _⟩,fun x _ => by
   by_cases e : x = v
   ·subst e; simp [updN_same]
   ·rw [updN_other _ _ _ e]; simp [e],by simp,fun j x h => absurd h (Nat.not_lt_zero _)⟩
theorem NInv.len {n : Nat} {adj : Nat → List Nat} {v : Nat} {on m : Nat → Bool} {q : List Nat} {i : Nat} (h : NInv n adj v on m q i) : q.length ≤ n:=nodup_len n q h.nd fun x hx => (h.low x hx).1
theorem NInv.push {n : Nat} {adj : Nat → List Nat} {v : Nat} {on m : Nat → Bool} {q : List Nat} {i u t : Nat} (h : NInv n adj v on m q i) (hu : u ∈ q) (ht : t ∈ adj u) (htn : t < n) (hm : m t = false) (hi : i ≤ q.length) : NInv n adj v on (updN m t true) (q ++ [t]) i:=by
 have hnt : t ∉ q:=fun e => by have:=(h.seen t htn).2 e; rw [hm] at this; cases this
 refine ⟨List.nodup_append.2 ⟨h.nd,by simp,fun a ha b hb e => by rw [List.mem_singleton] at hb; subst hb; subst e; exact hnt ha⟩,fun x hx => ?_,fun x hx => ?_,List.mem_append_left _ h.st,fun j x hj hx => ?_⟩
 ·rcases List.mem_append.1 hx with hx | hx
  ·exact h.low x hx
  ·rw [List.mem_singleton] at hx; subst hx; exact ⟨htn,(h.low u hu).2.step ht⟩
 ·rw [List.mem_append,List.mem_singleton]
  by_cases e : x = t
  ·subst e; simp [updN_same]
  ·rw [updN_other _ _ _ e,h.seen x hx]; simp [e]
 ·rw [List.getElem?_append_left (by omega)] at hx
  obtain ⟨h1,h2⟩:=h.dn j x hj hx
  exact ⟨h1,fun s hs => List.mem_append_left _ (h2 s hs)⟩
theorem NInv.next {n : Nat} {adj : Nat → List Nat} {v : Nat} {on m : Nat → Bool} {q : List Nat} {i u : Nat} (h : NInv n adj v on m q i) (hu : q[i]? = some u) (ho : on u = false) (ha : ∀ t ∈ adj u,t ∈ q) : NInv n adj v on m q (i + 1) :=
 ⟨h.nd,h.low,h.seen,h.st,fun j x hj hx => by
   by_cases e : j = i
   ·subst e; rw [hu] at hx; cases hx; exact ⟨ho,ha⟩
   ·exact h.dn j x (by omega) hx⟩
theorem NInv.stop {n : Nat} {adj : Nat → List Nat} {v : Nat} {on m : Nat → Bool} {q : List Nat} (h : NInv n adj v on m q q.length) {u : Nat} (ho : on u = true) (hg : Goes adj v u) : False:=by
 have hc : u ∈ q:=Goes.closed (P:=fun x => x ∈ q) (fun x hx t ht => by
  obtain ⟨j,hj,e⟩:=List.mem_iff_getElem.1 hx
  exact (h.dn j x hj (by rw [List.getElem?_eq_getElem hj,e])).2 t ht) hg h.st
 obtain ⟨j,hj,e⟩:=List.mem_iff_getElem.1 hc
 have:=(h.dn j u hj (by rw [List.getElem?_eq_getElem hj,e])).1
 rw [ho] at this; cases this
/-- The search's memory. -/
structure NB (f : Names) (sv qv : Value) (n : Nat) (m : Nat → Bool) (q : List Nat) : Prop where
 outs : f (1,0) = some (rowV 4 sv (tabB n m))
 queue : f (2,0) = some (rowI qv (castI q))
section
variable {B : Nat} {w : World} {f : Names} {ov qv : Value} {n : Nat} {m : Nat → Bool} {q : List Nat}
theorem NB.mark (h : NB f ov qv n m q) (hr : Rows B w f) (t : Nat) (ht : t < n) : ∃ f',Rows B (w.setCell (valAt ov t) (.bool true)) f' ∧ NB f' ov qv n (updN m t true) q:=by
 have hs:=hr.setV h.outs t (by rw [tabB_len]; exact ht) (.bool true)
 rw [tabB_upd] at hs
 exact ⟨_,hs,⟨upd_same _ _ _,by rw [upd_ne _ _ (by simp)]; exact h.queue⟩⟩
theorem NB.push (h : NB f ov qv n m q) (hr : Rows B w f) {w1 : World} {qv' : Value} (t : Nat) (ho : OwnI B w1 qv' (castI q ++ [(t : Int)]))
 (hal : (roomOf qv' = roomOf qv ∧ w.grownBy w1 qv.ownBlock) ∨ (∃ k,qv'.ownBlock = some k ∧ w.heap.size ≤ k ∧ w.grownBy w1 none)) : ∃ f',Rows B w1 f' ∧ NB f' ov qv' n m (q ++ [t]):=by
 have hO:=hr.ownI h.queue
 have hg : w.grownBy w1 qv.ownBlock:=grown_via (hal.imp (·.2) (fun ⟨_,_,_,q⟩ => q))
 have hob : qv'.ownBlock = qv.ownBlock ∨ ∃ k,qv'.ownBlock = some k ∧ w.heap.size ≤ k:=by
  rcases hal with ⟨q,_⟩ | ⟨k,h1,h2,_⟩
  ·obtain ⟨a1,n1,c1,e1⟩:=hO.at.shape
   obtain ⟨a2,n2,c2,e2⟩:=ho.at.shape
   exact .inl (ownBlock_of_room e1 e2 q)
  ·exact .inr ⟨k,h1,h2⟩
 exact ⟨_,hr.grown (r':=rowI qv' (castI q ++ [(t : Int)])) h.queue hg ho hob,⟨by rw [upd_ne _ _ (by simp)]; exact h.outs,by rw [upd_same,castI_snoc]⟩⟩
end
set_option maxHeartbeats 4000000 in
theorem near_any (na : Option Addr) (nc : Nat) (G : List (List Int)) (bv : Value) (on : Nat → Bool) (v : Nat) (w : World) (h : ListsAt w (.slice na G.length nc) G) (hok : GraphOk G) (hn : G.length ≤ 8200) (hb : ValsAt w bv (tabB G.length on)) (hv : v < G.length)
 (hex : ∃ u,on u = true ∧ Goes (adjOf G) v u) (P : Nat → Prop) (hP : ∀ x,x < G.length → (on x = true ↔ P x)) :
 Calls Tryz.prog 84 #[.slice na G.length nc,bv,.int .i64 v] w (Ret1 (fun x _ => ∃ u,x = .int .i64 ((u : Nat) : Int) ∧ u < G.length ∧ on u = true ∧ Goes (adjOf G) v u ∧ NearIs (adjOf G) P v u) w):=by
 obtain ⟨sv,w1,mk,hin,hb1⟩:=run_makeW oneBoolG (G.length : Int) G.length w rfl (by omega)
 obtain ⟨sa,sn,sc,rfl⟩:=hin.shape
 rw [← tabB_none] at hin
 have R1:=(Rows.void w.heap.size w).add (i:=(1,0)) (r':=rowV 4 (.slice sa sn sc) (tabB G.length fun _ => false)) hb1 hin (fun k hk => (hin.lt k hk).1)
 have hOV:=R1.ownV (upd_same _ _ _)
 have iV:=fun w' => hOV.at.idx oneBoolG v (by rw [tabB_len]; exact hv) w'
 have cV:=hOV.at.cellV v (by rw [tabB_len]; exact hv)
 have fV:=hOV.frz v (by rw [tabB_len]; exact hv)
 have kV:=(hOV.blkB v (by rw [tabB_len]; exact hv)).2
 rw [tabB_get _ _ _ hv] at cV
 have R2:=R1.setV (upd_same _ _ _) v (by rw [tabB_len]; exact hv) (.bool true)
 rw [tabB_upd] at R2
 have b2 : Below w.heap.size w (w1.setCell (valAt (.slice sa sn sc) v) (.bool true)):=hb1.setCell kV _
 generalize valAt (.slice sa sn sc) v = va at *
 obtain ⟨W2,hW2⟩ : ∃ W2 : World,W2 = w1.setCell va (.bool true):=⟨_,rfl⟩
 rw [← hW2] at R2 b2
 have hB2:=b2.size
 have bL:=belowAlloc W2 (.cells #[.int .i64 (v : Int)] 3)
 have R3:=R2.add (i:=(2,0)) (r':=rowI (.slice (some ⟨W2.heap.size,0,none⟩) 1 1) (castI [v])) bL (OwnI.lit w.heap.size W2 hB2 (castI [v]) (by simp [maxLen,castI]) #[.int .i64 (v : Int)] rfl 1 rfl) (fun k hk => by cases hk; exact Nat.le_refl _)
 have h3 : NB (upd (upd (upd (fun _ => Option.none) (1,0) (some (rowV 4 (.slice sa sn sc) (tabB G.length fun _ => false)))) (1,0) (some (rowV 4 (.slice sa sn sc) (tabB G.length (updN (fun _ => false) v true))))) (2,0) (some (rowI (.slice (some ⟨W2.heap.size,0,none⟩) 1 1) (castI [v])))) (.slice sa sn sc) (.slice (some ⟨W2.heap.size,0,none⟩) 1 1) G.length (updN (fun _ => false) v true) [v]:=⟨by rw [upd_ne _ _ (by simp),upd_same],by rw [upd_same]⟩
 generalize upd (upd (upd (fun _ => Option.none) (1,0) (some (rowV 4 (.slice sa sn sc) (tabB G.length fun _ => false)))) (1,0) (some (rowV 4 (.slice sa sn sc) (tabB G.length (updN (fun _ => false) v true))))) (2,0) (some (rowI (.slice (some ⟨W2.heap.size,0,none⟩) 1 1) (castI [v]))) = f3 at *
 have b3:=b2.trans (bL.mono hB2)
 replace hex:=Lib.hid hex
 replace hP:=Lib.hid hP
 replace h:=Lib.hid h
 replace hok:=Lib.hid hok
 replace hb:=Lib.hid hb
 replace R3:=Lib.hid R3
 replace h3:=Lib.hid h3
 replace hW2:=Lib.hid hW2
 have hlg:=h.out.len 3 w
 clear R1 R2 hOV hin
 go_enter Tryz.func84,Tryz.ntmps84
 go_upto_region 3 with fail
 rw [← hW2.out]
 clear mk iV cV fV
 go_wp2_with fail
 go_loopw [8,9] (fun qv iv wr => ∃ (i : Nat) (m : Nat → Bool) (q : List Nat) (f : Names) (qw : Value),qw = qv ∧ iv = .int .i64 i ∧ i ≤ q.length ∧ Rows w.heap.size wr f ∧ Below w.heap.size w wr ∧ NB f (.slice sa sn sc) qw G.length m q ∧ NInv G.length (adjOf G) v on m q i ∧ NRun (adjOf G) P v q i) (fun _ iv _ => G.length - (intOf iv).toNat)
 case atStart => exact ⟨0,_,_,f3,_,rfl,rfl,Nat.zero_le _,R3.out,b3,h3.out,NInv.start hv,NRun.start _ _ _⟩
 case round =>
  clear h3 R3 b3
  obtain ⟨i,m,q,f4,qv,rfl,rfl,hi,hr4,b4,h4,hI,hN⟩:=hrel
  obtain ⟨wo,rfl⟩ : ∃ wo : World,wo = wr:=⟨_,rfl⟩
  have hql:=hI.len
  have hOQ:=hr4.ownI h4.queue
  have lQ:=hOQ.at.len
  rw [castI_len] at lQ
  by_cases hil : i < q.length
  ·obtain ⟨u,hu⟩ : ∃ u,q[i]? = some u:=⟨_,List.getElem?_eq_getElem hil⟩
   have hum:=List.mem_of_getElem? hu
   obtain ⟨hun,hug⟩:=hI.low u hum
   have iQ:=fun w' => hOQ.at.idx i (by rw [castI_len]; exact hil) w'
   have cQ:=hOQ.at.cellD i (by rw [castI_len]; exact hil)
   rw [castI_get hu] at cQ
   have hbo:=hb.out.below b4
   have iB:=fun w' => hbo.idx oneBoolG u (by rw [tabB_len]; exact hun) w'
   have cB:=hbo.cellV u (by rw [tabB_len]; exact hun)
   rw [tabB_get _ _ _ hun] at cB
   generalize valAt qv i = qa at *
   generalize valAt bv u = ba at *
   obtain ⟨bo,hbo2⟩ : ∃ bo,on u = bo:=⟨_,rfl⟩
   rw [hbo2] at cB
   replace hOQ:=Lib.hid hOQ
   replace hbo:=Lib.hid hbo
   cases bo with
   | true =>
    have hnr:=hN.hit hu ((hP.out u hun).1 hbo2)
    replace hnr:=Lib.hid hnr
    replace hN:=Lib.hid hN
    replace hI:=Lib.hid hI
    replace hr4:=Lib.hid hr4
    replace hu:=Lib.hid hu
    replace hum:=Lib.hid hum
    replace hbo2:=Lib.hid hbo2
    replace hug:=Lib.hid hug
    go_wp2
    go_ret
    exact ⟨_,rfl,b4,u,rfl,hun,hbo2.out,hug.out,hnr.out⟩
   | false =>
    have hent:=hN.enter hu (fun e => by have:=(hP.out u hun).2 e; rw [hbo2] at this; cases this)
    replace hent:=Lib.hid hent
    replace hN:=Lib.hid hN
    obtain ⟨xv,iR,cR0,hM0⟩:=h.out.row u hun
    have cR:=(b4.cell (World.block_lt_of_cell? _ _ cR0)).trans cR0
    have hM:=hM0.below b4
    have hgp:=hok.out u hun
    have hadj : adjOf G u = (G.getD u []).map Int.toNat:=rfl
    generalize G.getD u [] = gx at *
    have lM:=hM.len
    have hglen:=hM.len_le
    generalize valAt (.slice na G.length nc) u = ra at *
    replace hM:=Lib.hid hM
    replace hM0:=Lib.hid hM0
    replace hgp:=Lib.hid hgp
    replace hadj:=Lib.hid hadj
    replace hI:=Lib.hid hI
    replace hr4:=Lib.hid hr4
    replace hu:=Lib.hid hu
    replace hum:=Lib.hid hum
    replace hbo2:=Lib.hid hbo2
    replace hug:=Lib.hid hug
    have hil2:=Lib.hid hil
    go_wp2_with fail
    clear iQ cQ iB cB iR cR lM lQ
    go_loopw [8,41] (fun qv jv wr => ∃ (j : Nat) (m : Nat → Bool) (q : List Nat) (f : Names) (qw : Value),qw = qv ∧ jv = .int .i64 j ∧ j ≤ gx.length ∧ Rows w.heap.size wr f ∧ Below w.heap.size w wr ∧ NB f (.slice sa sn sc) qw G.length m q ∧ NInv G.length (adjOf G) v on m q i ∧ q[i]? = some u ∧ (∀ s,s < j → (gx.getD s 0).toNat ∈ q) ∧ NRunIn (adjOf G) P v q i u j) (fun _ jv _ => gx.length - (intOf jv).toNat)
    case atStart => exact ⟨0,m,q,f4,_,rfl,rfl,by omega,hr4.out,b4,h4,hI.out,hu.out,(fun s hs => by omega),hent.out⟩
    case round =>
     clear hr4 h4 b4 hI hu hum hi hil hil2 hql hOQ hbo hM hN hent
     obtain ⟨j,m,q,f5,qv,rfl,rfl,hj,hr5,b5,h5,hI,hu,hdone,hNI⟩:=hrel
     obtain ⟨wo,rfl⟩ : ∃ wo : World,wo = wr:=⟨_,rfl⟩
     have hum:=List.mem_of_getElem? hu
     have hil : i < q.length:=(List.getElem?_eq_some_iff.1 hu).1
     have hql:=hI.len
     by_cases hjl : j < gx.length
     ·have hMj:=hM0.out.below b5
      have hgj:=hgp.out gx[j] (List.getElem_mem hjl)
      obtain ⟨t,hu2⟩ : ∃ t : Nat,gx[j] = t:=Int.eq_ofNat_of_zero_le hgj.1
      have htn : t < G.length:=by rw [hu2] at hgj; omega
      have hgd : gx.getD j 0 = (t : Int):=by rw [List.getD_eq_getElem?_getD,List.getElem?_eq_getElem hjl,hu2]; rfl
      have hta : t ∈ adjOf G u:=by
       rw [hadj.out]
       exact List.mem_map.2 ⟨gx[j],List.getElem_mem hjl,by rw [hu2]; rfl⟩
      have htj : (adjOf G u)[j]? = some t:=by
       rw [hadj.out,List.getElem?_map,List.getElem?_eq_getElem hjl,hu2]; rfl
      have iJ:=fun w' => hMj.idx j hjl w'
      have cJ:=hMj.cellD j hjl
      rw [hgd] at cJ
      have hOV:=(hr5.ownV h5.outs)
      have iT:=fun w' => hOV.at.idx oneBoolG t (by rw [tabB_len]; exact htn) w'
      have cT:=hOV.at.cellV t (by rw [tabB_len]; exact htn)
      rw [tabB_get _ _ _ htn] at cT
      have fT:=hOV.frz t (by rw [tabB_len]; exact htn)
      have kT:=(hOV.blkB t (by rw [tabB_len]; exact htn)).2
      obtain ⟨f6,hr6,h6⟩:=h5.mark hr5 t htn
      have b6 : Below w.heap.size w (wo.setCell (valAt (.slice sa sn sc) t) (.bool true)):=b5.setCell kT _
      generalize valAt xv j = ja at *
      generalize valAt (.slice sa sn sc) t = ta at *
      obtain ⟨bt,hbt⟩ : ∃ bt,m t = bt:=⟨_,rfl⟩
      rw [hbt] at cT
      cases bt with
      | false =>
       have hpush:=hI.push hum hta htn hbt (by omega)
       have hnp:=hNI.push htj (fun e => by have:=(hI.seen t htn).2 e; rw [hbt] at this; cases this)
       replace hnp:=Lib.hid hnp
       replace hNI:=Lib.hid hNI
       replace htj:=Lib.hid htj
       have hu3 : (q ++ [t])[i]? = some u:=by rw [List.getElem?_append_left hil]; exact hu
       have hdone2 : ∀ s,s < j + 1 → (gx.getD s 0).toNat ∈ q ++ [t]:=fun s hs => by
        by_cases e : s = j
        ·subst e; rw [hgd]; simp
        ·exact List.mem_append_left _ (hdone s (by omega))
       replace hpush:=Lib.hid hpush
       replace hu3:=Lib.hid hu3
       replace hdone2:=Lib.hid hdone2
       replace hdone:=Lib.hid hdone
       replace hI:=Lib.hid hI
       replace hbt:=Lib.hid hbt
       replace hr5:=Lib.hid hr5
       replace hr6:=Lib.hid hr6
       replace hOV:=Lib.hid hOV
       replace hMj:=Lib.hid hMj
       replace hgd:=Lib.hid hgd
       replace hgj:=Lib.hid hgj
       replace hu2:=Lib.hid hu2
       replace hu:=Lib.hid hu
       replace hum:=Lib.hid hum
       replace hta:=Lib.hid hta
       go_upto_region 15 with fail
       obtain ⟨W6,hW6⟩ : ∃ W6 : World,W6 = wo.setCell ta (.bool true):=⟨_,rfl⟩
       rw [← hW6]
       rw [← hW6] at hr6 b6
       clear hW6 iJ cJ iT cT fT
       have hOQ:=hr6.out.ownI h6.queue
       have hB6 : w.heap.size ≤ W6.heap.size:=b6.size
       go_wp2_with (at_builtin; refine wpl_app1 rfl _ _ rfl w.heap.size qv (castI q) t hOQ rfl rfl (by rw [castI_len]; omega) hB6 ?_)
       intro qv' w7 ho7 b7 hal7
       obtain ⟨f7,hr7,h7⟩:=h6.push hr6.out t ho7 hal7
       replace hr7:=Lib.hid hr7
       replace ho7:=Lib.hid ho7
       clear hal7
       go_wp2
       go_roundw
       case measure => simp [intOf]; omega
       case rel => exact ⟨j + 1,updN m t true,q ++ [t],f7,qv',rfl,by go_num,by omega,hr7.out,b6.trans b7,h7,hpush.out,hu3.out,hdone2.out,hnp.out⟩
      | true =>
       have hnp:=hNI.old htj ((hI.seen t htn).1 hbt)
       replace hnp:=Lib.hid hnp
       replace hNI:=Lib.hid hNI
       replace htj:=Lib.hid htj
       have hdone2 : ∀ s,s < j + 1 → (gx.getD s 0).toNat ∈ q:=fun s hs => by
        by_cases e : s = j
        ·subst e; rw [hgd]; exact (hI.seen t htn).1 hbt
        ·exact hdone s (by omega)
       replace hdone2:=Lib.hid hdone2
       replace hdone:=Lib.hid hdone
       replace hI:=Lib.hid hI
       replace hbt:=Lib.hid hbt
       replace hr5:=Lib.hid hr5
       replace hr6:=Lib.hid hr6
       replace hOV:=Lib.hid hOV
       replace hMj:=Lib.hid hMj
       replace hgd:=Lib.hid hgd
       replace hgj:=Lib.hid hgj
       replace hu2:=Lib.hid hu2
       replace hu:=Lib.hid hu
       replace hum:=Lib.hid hum
       replace hta:=Lib.hid hta
       go_wp2
       go_roundw
       case measure => simp [intOf]; omega
       case rel => exact ⟨j + 1,m,q,f5,qv,rfl,by go_num,by omega,hr5.out,b5,h5,hI.out,hu.out,hdone2.out,hnp.out⟩
     ·obtain rfl : j = gx.length:=by omega
      have hfin:=hI.next hu hbo2.out (fun t ht => by
       rw [hadj.out] at ht
       obtain ⟨x,hx,rfl⟩:=List.mem_map.1 ht
       obtain ⟨s,hs,rfl⟩:=List.mem_iff_getElem.1 hx
       have:=hdone s hs
       rw [List.getD_eq_getElem?_getD,List.getElem?_eq_getElem hs] at this
       exact this)
      have hnl : NRun (adjOf G) P v q (i + 1):=by
       have hl : gx.length = (adjOf G u).length:=by rw [hadj.out,List.length_map]
       rw [hl] at hNI
       exact hNI.leave
      replace hnl:=Lib.hid hnl
      replace hNI:=Lib.hid hNI
      replace hfin:=Lib.hid hfin
      replace hdone:=Lib.hid hdone
      replace hI:=Lib.hid hI
      replace hr5:=Lib.hid hr5
      replace hu:=Lib.hid hu
      replace hum:=Lib.hid hum
      go_wp2
      go_roundw
      case measure => simp [intOf]; omega
      case rel => exact ⟨i + 1,m,q,f5,qv,rfl,by go_num,by omega,hr5.out,b5,h5,hfin.out,hnl.out⟩
  ·obtain rfl : i = q.length:=by omega
   obtain ⟨u,ho,hg⟩:=hex.out
   exact absurd hg (fun hg => hI.stop ho hg)
end Go.Proofs.YtjiadfblphdchaaGreatDoor
namespace Go.Proofs.YtjiadfblphdchaaGreatDoor
open Go.RowKit
set_option maxRecDepth 100000
/-- The lists behind some arrows of the vertex k. -/
def rowB (k : Nat) (F : Nat → List Int) (l : List Int) : Nat → List Int:=l.foldl (fun F x => updN F x.toNat (F x.toNat ++ [(k : Int)])) F
theorem rowB_snoc (k : Nat) (F : Nat → List Int) (l : List Int) (u : Nat) : updN (rowB k F l) u (rowB k F l u ++ [(k : Int)]) = rowB k F (l ++ [(u : Int)]):=by
 unfold rowB; rw [List.foldl_append]; rfl
def runB (G : List (List Int)) : Nat → Nat → List Int
 | 0 => fun _ => []
 | k + 1 => rowB k (runB G k) (G.getD k [])
/-- The arrows the other way round. -/
def turnG (G : List (List Int)) : List (List Int):=rowsOf G.length (runB G G.length)
set_option maxHeartbeats 4000000 in
theorem turned14_any (na : Option Addr) (nc : Nat) (G : List (List Int)) (w : World) (h : ListsAt w (.slice na G.length nc) G) (hok : GraphOk G) (hn : G.length ≤ 8200) (harr : arrowsTo G G.length ≤ 262144) :
 Calls Tryz.prog 85 #[.slice na G.length nc] w (Ret1 (fun x w' => TurnedOf G (turnG G) ∧ ListsAt w' x (turnG G)) w):=by
 obtain ⟨ov,w1,mk,ho,hb1⟩:=run_makeW oneLists (G.length : Int) G.length w rfl (by omega)
 obtain ⟨f1,hr1,h1⟩:=WN.made G.length hb1 (Nat.le_refl _) ho
 obtain ⟨oa,on,oc,rfl⟩:=ho.shape
 have hlen : ∀ k,k < G.length → (G.getD k []).length ≤ 262144:=fun k hk => by
  have:=arrowsTo_mono G (show k + 1 ≤ G.length by omega)
  simp only [arrowsTo] at this; omega
 replace h:=Lib.hid h
 replace hok:=Lib.hid hok
 replace hr1:=Lib.hid hr1
 replace ho:=Lib.hid ho
 replace hlen:=Lib.hid hlen
 go_enter Tryz.func85,Tryz.ntmps85
 go_wp2_with fail
 clear mk
 go_loopw [13] (fun kv wr => ∃ (k : Nat) (F : Nat → List Int) (f : Names) (vals : List Value),k ≤ G.length ∧ kv = .int .i64 k ∧ Rows w.heap.size wr f ∧ Below w.heap.size w wr ∧ WN f (.slice oa on oc) vals G.length F ∧ BackTo G k 0 F ∧ F = runB G k) (fun kv _ => G.length - (intOf kv).toNat)
 case atStart => exact ⟨0,_,f1,_,by omega,rfl,hr1.out,hb1,h1,BackTo.zero G,rfl⟩
 case round =>
  clear h1 ho hr1
  obtain ⟨k,F,f2,vals,hk,rfl,hr2,b2,h2,hB,hFk⟩:=hrel
  obtain ⟨wo,rfl⟩ : ∃ wo : World,wo = wr:=⟨_,rfl⟩
  by_cases hlt : k < G.length
  ·obtain ⟨mv,iR,cR0,hM0⟩:=h.out.row k hlt
   have cR:=(b2.cell (World.block_lt_of_cell? _ _ cR0)).trans cR0
   clear cR0
   have hM:=hM0.below b2
   have hgl:=hlen.out k hlt
   have hgp:=hok.out k hlt
   have hBadd:=fun (j u : Nat) (F : Nat → List Int) (h : BackTo G k j F) => h.add (u:=u)
   have hBnext:=fun (F : Nat → List Int) (h : BackTo G k (G.getD k []).length F) => h.next
   have hBlen:=fun (j t : Nat) (F : Nat → List Int) (h : BackTo G k j F) (ht : t < G.length) => (h t ht).1
   have harrk:=arrowsTo_mono G hk
   have hrun : runB G (k + 1) = rowB k (runB G k) (G.getD k []):=rfl
   rw [← hFk] at hrun
   generalize hF0 : F = F0 at hrun
   replace hF0:=Lib.hid hF0
   replace hFk:=Lib.hid hFk
   generalize G.getD k [] = gk at *
   have lM:=hM.len
   generalize valAt (.slice na G.length nc) k = ra at *
   replace hrun:=Lib.hid hrun
   replace hB:=Lib.hid hB
   replace hBadd:=Lib.hid hBadd
   replace hBnext:=Lib.hid hBnext
   replace hBlen:=Lib.hid hBlen
   replace hgp:=Lib.hid hgp
   replace hr2:=Lib.hid hr2
   replace hM:=Lib.hid hM
   replace hM0:=Lib.hid hM0
   go_wp2_with fail
   clear iR cR lM
   go_loopw [20] (fun jv wr => ∃ (j : Nat) (F : Nat → List Int) (f : Names) (vals : List Value),j ≤ gk.length ∧ jv = .int .i64 j ∧ Rows w.heap.size wr f ∧ Below w.heap.size w wr ∧ WN f (.slice oa on oc) vals G.length F ∧ BackTo G k j F ∧ F = rowB k F0 (gk.take j)) (fun jv _ => gk.length - (intOf jv).toNat)
   case atStart => exact ⟨0,F,f2,vals,by omega,rfl,hr2.out,b2,h2,hB.out,by rw [List.take_zero]; exact hF0.out⟩
   case round =>
    clear hB hr2 h2 b2 hM hF0 hFk
    obtain ⟨j,F,f3,vals,hj,rfl,hr3,b3,h3,hB,hFj⟩:=hrel
    obtain ⟨wo,rfl⟩ : ∃ wo : World,wo = wr:=⟨_,rfl⟩
    by_cases hjl : j < gk.length
    ·have hMj:=hM0.out.below b3
     have hgj:=hgp.out gk[j] (List.getElem_mem hjl)
     obtain ⟨u,hu⟩ : ∃ u : Nat,gk[j] = u:=Int.eq_ofNat_of_zero_le hgj.1
     have hun : u < G.length:=by rw [hu] at hgj; omega
     have hgu : gk[j]? = some (u : Int):=by rw [List.getElem?_eq_getElem hjl,hu]
     have hgd : gk.getD j 0 = (u : Int):=by rw [List.getD_eq_getElem?_getD,hgu]; rfl
     have iJ:=fun w' => hMj.idx j hjl w'
     have cJ:=hMj.cellD j hjl
     rw [hgd] at cJ
     have hadd:=hBadd.out j u F hB hgu
     have hF2 : updN F u (F u ++ [(k : Int)]) = rowB k F0 (gk.take (j + 1)):=by
      rw [List.take_add_one,hgu,Option.toList_some,← rowB_snoc,← hFj]
     replace hF2:=Lib.hid hF2
     replace hFj:=Lib.hid hFj
     have hfl:=hBlen.out j u F hB hun
     have hOV:=(hr3.ownV h3.outer).at
     have iO:=fun w' => hOV.idx oneLists u (by rw [h3.len]; exact hun) w'
     have cO:=hOV.cellV u (by rw [h3.len]; exact hun)
     have hT:=hr3.ownI (h3.rows u hun)
     have happ:=fun (w1 : World) (v' : Value) => h3.app hr3 hun (w1:=w1) (v':=v') (k : Int)
     have hput:=fun (w1 : World) (v' : Value) (xs : List Int) => h3.put (B:=w.heap.size) (w1:=w1) hun (v':=v') (xs:=xs)
     have hB3 : w.heap.size ≤ wo.heap.size:=b3.size
     generalize valAt mv j = ja at *
     generalize vAt vals u = tv at *
     generalize valAt (.slice oa on oc) u = ua at *
     replace hadd:=Lib.hid hadd
     replace happ:=Lib.hid happ
     replace hput:=Lib.hid hput
     replace hB:=Lib.hid hB
     replace hr3:=Lib.hid hr3
     replace hOV:=Lib.hid hOV
     replace hgu:=Lib.hid hgu
     replace hgd:=Lib.hid hgd
     replace hu:=Lib.hid hu
     replace hgj:=Lib.hid hgj
     go_wp2_with (at_builtin; refine wpl_app1 rfl _ _ rfl w.heap.size tv (F u) k hT rfl rfl (by omega) hB3 ?_)
     intro v' w7 ho7 b7 hal7
     have hR7:=happ.out w7 v' ho7 hal7
     obtain ⟨y1,y2,y3,f8,hr8,h8,_⟩:=hput.out w7 v' _ hR7
     obtain ⟨va,vn,vc,rfl⟩:=ho7.at.shape
     replace hr8:=Lib.hid hr8
     replace ho7:=Lib.hid ho7
     replace hR7:=Lib.hid hR7
     clear hal7 hT iJ cJ cO
     go_wp2
     go_roundw
     case measure => simp [intOf]; omega
     case rel => exact ⟨j + 1,_,f8,_,by omega,by go_num,hr8.out,(b3.trans b7).setCell y3 _,h8,hadd.out,hF2.out⟩
    ·obtain rfl : j = gk.length:=by omega
     have hnext:=hBnext.out F hB
     have hF2 : F = runB G (k + 1):=by rw [hrun.out,hFj,List.take_length]
     replace hF2:=Lib.hid hF2
     replace hFj:=Lib.hid hFj
     replace hnext:=Lib.hid hnext
     replace hB:=Lib.hid hB
     replace hr3:=Lib.hid hr3
     go_wp2
     go_roundw
     case measure => simp [intOf]; omega
     case rel => exact ⟨k + 1,F,f3,vals,by omega,by go_num,hr3.out,b3,h3,hnext.out,hF2.out⟩
  ·obtain rfl : k = G.length:=by omega
   have hT:=hB.turned
   have hL:=h2.lists hr2
   have heq : rowsOf G.length F = turnG G:=by rw [hFk]; rfl
   rw [heq] at hT hL
   replace heq:=Lib.hid heq
   replace hFk:=Lib.hid hFk
   replace hB:=Lib.hid hB
   replace hT:=Lib.hid hT
   replace hL:=Lib.hid hL
   replace hr2:=Lib.hid hr2
   go_wp2
   go_ret
   exact ⟨_,rfl,b2,hT.out,hL.out⟩
end Go.Proofs.YtjiadfblphdchaaGreatDoor
namespace Go.Proofs.YtjiadfblphdchaaGreatDoor
open Go.RowKit
set_option maxRecDepth 100000
end Go.Proofs.YtjiadfblphdchaaGreatDoor
namespace Go.Proofs.YtjiadfblphdchaaGreatDoor
open Go.RowKit
set_option maxRecDepth 100000
theorem run_appI {w : World} (B : Nat) (ty : TypeId) (v u : Value) (xs ys : List Int) (hown : OwnI B w v xs) (hu : IntsAt w u ys) (hlen : xs.length + ys.length ≤ 17592186044416) (hB : B ≤ w.heap.size) :
 ∃ v' w',(Builtin.append_ #[22,22] ty #[v,u]).run Tryz.prog w = .ok v' w' ∧ OwnI B w' v' (xs ++ ys) ∧ Below B w w' ∧ w.grownBy w' v.ownBlock ∧ (v'.ownBlock = v.ownBlock ∨ v'.ownBlock = some w.heap.size):=by
 obtain ⟨i,hi,hz0,hz1,hz2⟩:=info_parts iInt
 obtain ⟨ao,cap,rfl,h1,h2,h3,h4⟩:=hu
 cases ao with
 | none =>
  obtain rfl:=h3 rfl
  have hy : ys = []:=List.length_eq_zero_iff.1 (by omega)
  subst hy
  have hrun:=run_append_owned_none (P:=Tryz.prog) w B 22 ty 3 i 1 uInts hi v xs.length _ hown
  exact ⟨_,_,hrun,by simpa using hown,Below.refl _ _,World.grownBy.refl _ _,.inl rfl⟩
 | some p =>
  obtain ⟨v',w',hr,ho',hgr,_,hat⟩:=run_append_own_at (P:=Tryz.prog) w B 22 ty 3 i (.int .i64 0) 1 8 uInts hi hz0 hz1 hz2 rfl (by decide) v xs.length _ hown p ys.length cap (ys.map (.int .i64)) (by simp) (fun j u hj => by
   have hjl : j < ys.length:=by have:=(List.getElem?_eq_some_iff.1 hj).1; simpa using this
   have:=h4 j hjl
   simp only [valAt] at this
   rw [this,← hj]; simp [hjl]) (ints_oneCell _ _) (by unfold maxLen; omega) (by omega) hB
  exact ⟨v',w',hr,by simpa [OwnI] using ho',(Below.refl _ _).grown hgr hB (fun k hk => (hown.lt k hk).1),hgr,hat⟩
/-- append(s, t...) in a region that draws. -/
theorem step_appI {ops : Array Oper} {o : Oper} {a : Act} {w : World} {K : Act → World → Prop} {Q : Exit → Act → World → Prop} {Ep : Prop} (hgd : o.guard = none) (s x : Operand)
 (ho : o.op = .call { callee:=.builtin .append,args:=#[s,x],argTypes:=#[22,22] })
 (B : Nat) (v u : Value) (xs ys : List Int) (hs : a.eval s = v) (hx : a.eval x = u) (hown : OwnI B w v xs) (hu : IntsAt w u ys)
 (hlen : xs.length + ys.length ≤ 17592186044416) (hB : B ≤ w.heap.size)
 (h : ∀ v' w',OwnI B w' v' (xs ++ ys) → Below B w w' → K (a.put o.dst v') w') :
 if Region.wanted o (yielded ops a.tmps) = true then Oper.wp Tryz.prog o a w K Q else Ep:=by
 have hw : Region.wanted o (yielded ops a.tmps) = true:=by simp [Region.wanted,hgd]
 rw [if_pos hw]
 obtain ⟨v',w',hr,h2,h3,_,_⟩:=run_appI B o.type v u xs ys hown hu hlen hB
 unfold Oper.wp
 simp [execOp,ho,resolve,invoke,builtin,hs,hx,hr,Result.andThen]
 exact h v' w' h2 h3
end Go.Proofs.YtjiadfblphdchaaGreatDoor
namespace Go.Proofs.YtjiadfblphdchaaGreatDoor
open Go.RowKit
set_option maxRecDepth 100000
/-- append(s, t...) in a region that draws, the whole truth. -/
theorem step_appR {ops : Array Oper} {o : Oper} {a : Act} {w : World} {K : Act → World → Prop} {Q : Exit → Act → World → Prop} {Ep : Prop} (hgd : o.guard = none) (s x : Operand)
 (ho : o.op = .call { callee:=.builtin .append,args:=#[s,x],argTypes:=#[22,22] })
 (B : Nat) (v u : Value) (xs ys : List Int) (hs : a.eval s = v) (hx : a.eval x = u) (hown : OwnI B w v xs) (hu : IntsAt w u ys)
 (hlen : xs.length + ys.length ≤ 17592186044416) (hB : B ≤ w.heap.size)
 (h : ∀ v' w',OwnI B w' v' (xs ++ ys) → Below B w w' → w.grownBy w' v.ownBlock → (v'.ownBlock = v.ownBlock ∨ v'.ownBlock = some w.heap.size) → K (a.put o.dst v') w') :
 if Region.wanted o (yielded ops a.tmps) = true then Oper.wp Tryz.prog o a w K Q else Ep:=by
 have hw : Region.wanted o (yielded ops a.tmps) = true:=by simp [Region.wanted,hgd]
 rw [if_pos hw]
 obtain ⟨v',w',hr,h2,h3,h4,h5⟩:=run_appI B o.type v u xs ys hown hu hlen hB
 unfold Oper.wp
 simp [execOp,ho,resolve,invoke,builtin,hs,hx,hr,Result.andThen]
 exact h v' w' h2 h3 h4 h5
/-- Two rows of ints, and literals that wait to be appended. -/
def SD (B : Nat) (W : World) (va : Value) (xs : List Int) (vb : Value) (ys : List Int) (L M : Option (Nat × Int)) : Prop :=
 ∃ f,Rows B W f ∧ f (1,0) = some (rowI va xs) ∧ f (2,0) = some (rowI vb ys) ∧ (∀ b s,L = some (b,s) → f (3,0) = some (rowI (.slice (some ⟨b,0,none⟩) 1 1) [s])) ∧ (∀ b s,M = some (b,s) → f (4,0) = some (rowI (.slice (some ⟨b,0,none⟩) 1 1) [s]))
section
variable {B : Nat} {W : World} {va vb : Value} {xs ys : List Int} {L M : Option (Nat × Int)}
theorem SD.ownA (h : SD B W va xs vb ys L M) : OwnI B W va xs:=by obtain ⟨f,hr,h1,_⟩:=h; exact hr.ownI h1
theorem SD.ownB (h : SD B W va xs vb ys L M) : OwnI B W vb ys:=by obtain ⟨f,hr,_,h2,_⟩:=h; exact hr.ownI h2
theorem SD.litL {b : Nat} {s : Int} (h : SD B W va xs vb ys (some (b,s)) M) : IntsAt W (.slice (some ⟨b,0,none⟩) 1 1) [s]:=by obtain ⟨f,hr,_,_,h3,_⟩:=h; exact (hr.ownI (h3 b s rfl)).at
theorem SD.litM {b : Nat} {s : Int} (h : SD B W va xs vb ys L (some (b,s))) : IntsAt W (.slice (some ⟨b,0,none⟩) 1 1) [s]:=by obtain ⟨f,hr,_,_,_,h4⟩:=h; exact (hr.ownI (h4 b s rfl)).at
theorem SD.two (h : SD B W va xs vb ys L M) : va.ownBlock = Option.none ∨ va.ownBlock ≠ vb.ownBlock:=by obtain ⟨f,hr,h1,h2,_⟩:=h; exact hr.2 (1,0) (2,0) _ _ h1 h2 (by simp)
theorem SD.forget (h : SD B W va xs vb ys L M) : SD B W va xs vb ys Option.none Option.none:=by obtain ⟨f,hr,h1,h2,_⟩:=h; exact ⟨f,hr,h1,h2,(fun _ _ e => by cases e),(fun _ _ e => by cases e)⟩
theorem SD.below {w' : World} (h : SD B W va xs vb ys L M) (hb : Below W.heap.size W w') : SD B w' va xs vb ys L M:=by obtain ⟨f,hr,h1⟩:=h; exact ⟨f,hr.below hb,h1⟩
theorem lit_own {B : Nat} {W : World} (hB : B ≤ W.heap.size) (s : Int) : OwnI B (W.alloc (.cells #[.int .i64 s] 3)) (.slice (some ⟨W.heap.size,0,none⟩) 1 1) [s] :=
 OwnI.lit B W hB [s] (by simp [maxLen]) #[.int .i64 s] rfl 1 rfl
theorem SD.addL (h : SD B W va xs vb ys Option.none M) (hB : B ≤ W.heap.size) (s : Int) {b : Nat} (hb : b = W.heap.size) : SD B (W.alloc (.cells #[.int .i64 s] 3)) va xs vb ys (some (b,s)) M:=by
 subst hb
 obtain ⟨f,hr,h1,h2,h3,h4⟩:=h
 refine ⟨_,hr.add (i:=(3,0)) (r':=rowI (.slice (some ⟨W.heap.size,0,none⟩) 1 1) [s]) (belowAlloc W _) (lit_own hB s) (fun k hk => by cases hk; exact Nat.le_refl _),by rw [upd_ne _ _ (by simp)]; exact h1,by rw [upd_ne _ _ (by simp)]; exact h2,fun b t e => ?_,fun b t e => by rw [upd_ne _ _ (by simp)]; exact h4 b t e⟩
 cases e; rw [upd_same]
theorem SD.addM (h : SD B W va xs vb ys L Option.none) (hB : B ≤ W.heap.size) (s : Int) {b : Nat} (hb : b = W.heap.size) : SD B (W.alloc (.cells #[.int .i64 s] 3)) va xs vb ys L (some (b,s)):=by
 subst hb
 obtain ⟨f,hr,h1,h2,h3,h4⟩:=h
 refine ⟨_,hr.add (i:=(4,0)) (r':=rowI (.slice (some ⟨W.heap.size,0,none⟩) 1 1) [s]) (belowAlloc W _) (lit_own hB s) (fun k hk => by cases hk; exact Nat.le_refl _),by rw [upd_ne _ _ (by simp)]; exact h1,by rw [upd_ne _ _ (by simp)]; exact h2,fun b t e => by rw [upd_ne _ _ (by simp)]; exact h3 b t e,fun b t e => ?_⟩
 cases e; rw [upd_same]
theorem SD.appA {w' : World} {v' : Value} {s : Int} (h : SD B W va xs vb ys L M) (ho : OwnI B w' v' (xs ++ [s])) (hg : W.grownBy w' va.ownBlock) (hal : v'.ownBlock = va.ownBlock ∨ v'.ownBlock = some W.heap.size) : SD B w' v' (xs ++ [s]) vb ys Option.none M:=by
 obtain ⟨f,hr,h1,h2,h3,h4⟩:=h
 refine ⟨_,hr.push h1 s ho hg (hal.imp id fun e => ⟨_,e,Nat.le_refl _⟩),upd_same _ _ _,by rw [upd_ne _ _ (by simp)]; exact h2,(fun _ _ e => by cases e),fun b t e => by rw [upd_ne _ _ (by simp)]; exact h4 b t e⟩
theorem SD.appB {w' : World} {v' : Value} {s : Int} (h : SD B W va xs vb ys L M) (ho : OwnI B w' v' (ys ++ [s])) (hg : W.grownBy w' vb.ownBlock) (hal : v'.ownBlock = vb.ownBlock ∨ v'.ownBlock = some W.heap.size) : SD B w' va xs v' (ys ++ [s]) L Option.none:=by
 obtain ⟨f,hr,h1,h2,h3,h4⟩:=h
 refine ⟨_,hr.push h2 s ho hg (hal.imp id fun e => ⟨_,e,Nat.le_refl _⟩),by rw [upd_ne _ _ (by simp)]; exact h1,upd_same _ _ _,fun b t e => by rw [upd_ne _ _ (by simp)]; exact h3 b t e,(fun _ _ e => by cases e)⟩
end
/-- The last symbols of the first nodes, of the second nodes. -/
def sideA (k n : Nat) (way : List Nat) : List Int:=castI (way.map fun p => p / n % k)
def sideB (k n : Nat) (way : List Nat) : List Int:=castI (way.map fun p => p % n % k)
theorem sideA_take {k n : Nat} {way : List Nat} {i p : Nat} (h : way[i]? = some p) : sideA k n (way.take (i + 1)) = sideA k n (way.take i) ++ [((p / n % k : Nat) : Int)]:=by
 rw [List.take_add_one,h]; simp [sideA,castI]
theorem sideB_take {k n : Nat} {way : List Nat} {i p : Nat} (h : way[i]? = some p) : sideB k n (way.take (i + 1)) = sideB k n (way.take i) ++ [((p % n % k : Nat) : Int)]:=by
 rw [List.take_add_one,h]; simp [sideB,castI]
theorem sideA_len (k n : Nat) (way : List Nat) : (sideA k n way).length = way.length:=by simp [sideA,castI_len]
theorem sideB_len (k n : Nat) (way : List Nat) : (sideB k n way).length = way.length:=by simp [sideB,castI_len]
set_option maxHeartbeats 4000000 in
theorem sides14_any (k n : Nat) (u : Value) (way : List Nat) (w : World) (hu : IntsAt w u (castI way)) (hk : 1 ≤ k) (hn : 1 ≤ n) (hlow : ∀ p ∈ way,p ≤ 1000000) (hlen : way.length ≤ 1000000) :
 Calls Tryz.prog 88 #[.int .i64 k,.int .i64 n,u] w (Ret2 (fun x y w' => OwnI w.heap.size w' x (sideA k n way) ∧ OwnI w.heap.size w' y (sideB k n way) ∧ (x.ownBlock = none ∨ x.ownBlock ≠ y.ownBlock)) w):=by
 have lu:=hu.len
 rw [castI_len] at lu
 obtain ⟨ua,un,uc,rfl⟩:=hu.shape
 have hk1 : ¬ (k : Int) = 0:=by omega
 have hk2 : ((k : Int) == 0) = false:=by rw [beq_eq_false_iff_ne]; omega
 have hk3 : ¬ k = 0:=by omega
 have hn1 : ¬ (n : Int) = 0:=by omega
 have hn2 : ((n : Int) == 0) = false:=by rw [beq_eq_false_iff_ne]; omega
 have hn3 : ¬ n = 0:=by omega
 have hS0 : SD w.heap.size w (.slice none 0 0) (sideA k n (way.take 0)) (.slice none 0 0) (sideB k n (way.take 0)) Option.none Option.none:=by
  refine ⟨fun i => if i = (1,0) ∨ i = (2,0) then some (rowI (.slice none 0 0) []) else Option.none,⟨fun i r hi => ?_,fun i j r s hi hj hne => ?_⟩,by simp [sideA,castI],by simp [sideB,castI],(fun _ _ e => by cases e),(fun _ _ e => by cases e)⟩
  ·dsimp only at hi
   split at hi
   ·cases hi; exact OwnI.nil _ _
   ·cases hi
  ·dsimp only at hi
   split at hi
   ·cases hi; exact .inl rfl
   ·cases hi
 replace hu:=Lib.hid hu
 replace hlow:=Lib.hid hlow
 replace hS0:=Lib.hid hS0
 go_enter Tryz.func88,Tryz.ntmps88
 go_wp2_with fail
 go_loopw [8,9,14] (fun av bv iv wr => ∃ (i : Nat) (va vb : Value),i ≤ way.length ∧ iv = .int .i64 i ∧ va = av ∧ vb = bv ∧ SD w.heap.size wr va (sideA k n (way.take i)) vb (sideB k n (way.take i)) Option.none Option.none ∧ Below w.heap.size w wr) (fun _ _ iv _ => way.length - (intOf iv).toNat)
 case atStart => exact ⟨0,_,_,by omega,rfl,rfl,rfl,hS0.out,Below.refl _ _⟩
 case round =>
  clear hS0
  obtain ⟨i,va,vb,hi,rfl,rfl,rfl,hS,hB⟩:=hrel
  obtain ⟨wo,rfl⟩ : ∃ wo : World,wo = wr:=⟨_,rfl⟩
  by_cases hil : i < way.length
  ·obtain ⟨p,hp⟩ : ∃ p,way[i]? = some p:=⟨_,List.getElem?_eq_getElem hil⟩
   have hpl:=hlow.out p (List.mem_of_getElem? hp)
   have huo:=hu.out.below hB
   have iU:=fun w' => huo.idx i (by rw [castI_len]; exact hil) w'
   have cU:=huo.cellD i (by rw [castI_len]; exact hil)
   rw [castI_get hp] at cU
   have tA:=sideA_take (k:=k) (n:=n) hp
   have tB:=sideB_take (k:=k) (n:=n) hp
   have lA:=sideA_len k n (way.take i)
   have lB:=sideB_len k n (way.take i)
   rw [List.length_take] at lA lB
   have lA2 : (sideA k n (way.take i)).length ≤ 1000000:=by omega
   have lB2 : (sideB k n (way.take i)).length ≤ 1000000:=by omega
   clear lA lB
   obtain ⟨a1,a2,a3,a4,a5,a6⟩:=dm p n (by omega)
   have hal : p / n ≤ p:=Nat.div_le_self _ _
   have hbl : p % n ≤ p:=Nat.mod_le _ _
   obtain ⟨a,ha⟩ : ∃ a,p / n = a:=⟨_,rfl⟩
   obtain ⟨b,hb⟩ : ∃ b,p % n = b:=⟨_,rfl⟩
   rw [ha] at a1 a3 a5 hal tA
   rw [hb] at a2 a4 a6 hbl tB
   obtain ⟨-,b2,-,b4,-,b6⟩:=dm a k (by omega)
   obtain ⟨-,c2,-,c4,-,c6⟩:=dm b k (by omega)
   obtain ⟨s,hs⟩ : ∃ s,a % k = s:=⟨_,rfl⟩
   obtain ⟨t,ht⟩ : ∃ t,b % k = t:=⟨_,rfl⟩
   rw [hs] at b2 b4 b6 tA
   rw [ht] at c2 c4 c6 tB
   generalize valAt (.slice ua un uc) i = ui at *
   have hil2:=Lib.hid hil
   replace hp:=Lib.hid hp
   replace ha:=Lib.hid ha
   replace hb:=Lib.hid hb
   replace hs:=Lib.hid hs
   replace ht:=Lib.hid ht
   replace tA:=Lib.hid tA
   replace tB:=Lib.hid tB
   replace huo:=Lib.hid huo
   obtain ⟨W,hW⟩ : ∃ W : World,W = wo.drew:=⟨_,rfl⟩
   have hSW : SD w.heap.size W va (sideA k n (way.take i)) vb (sideB k n (way.take i)) Option.none Option.none:=by rw [hW]; exact hS.below ((Below.refl _ _).drew)
   have hBW : Below w.heap.size w W:=by rw [hW]; exact hB.drew
   have hsz:=hBW.size
   have hva:=hS.ownA.at.shape
   have hvb:=hS.ownB.at.shape
   obtain ⟨aa,an,ac,rfl⟩:=hva
   obtain ⟨ba,bn,bc,rfl⟩:=hvb
   generalize sideA k n (way.take i) = As at *
   generalize sideB k n (way.take i) = Bs at *
   go_upto_region 5 with fail
   refine wp_region_noPanic ?_
   refine wp_region_any (by kernel_rfl) ?_
   change wpAny _ _ _ _ _ _ _ (World.drew _)
   rw [← hW]
   clear hS hB cU iU hW
   refine pqA 0 18 ?_
   refine pqA 1 19 ?_
   refine pqA 2 20 ?_
   refine pqA 3 21 ?_
   refine pqA 4 22 ?_
   refine pqA 5 23 ?_
   refine pqA 8 26 ?_
   refine pqA 9 27 ?_
   refine pqA 10 28 ?_
   refine pqA 11 29 ?_
   refine pqA 12 30 ?_
   refine pqA 13 31 ?_
   refine wpAny_ready (rs:=[6,14]) (by kernel_rfl) (by simp) (AllReady.cons rfl (fun KK hK => ?_) (AllReady.cons rfl (fun KK hK => ?_) AllReady.nil))
   ·go_simp
    refine hK _ _ ?_
    clear hK KK
    obtain ⟨X1,hY1⟩ : ∃ Y : World,Y = W.alloc (.cells #[.int .i64 (s : Int)] 3):=⟨_,rfl⟩
    have S1:=hSW.addL hsz (s : Int) rfl
    have B1:=hBW.trans ((belowAlloc W (.cells #[.int .i64 (s : Int)] 3)).mono hsz)
    rw [← hY1] at S1 B1 ⊢
    have hX1 : w.heap.size ≤ X1.heap.size:=B1.size
    clear hSW hY1
    refine wpAny_ready (rs:=[7,14]) (by kernel_rfl) (by simp) (AllReady.cons rfl (fun KK hK => ?_) (AllReady.cons rfl (fun KK hK => ?_) AllReady.nil))
    ·refine step_appR rfl _ _ rfl w.heap.size (.slice aa an ac) _ As [(s : Int)] rfl rfl S1.ownA S1.litL (by simp; omega) hX1 ?_
     intro v' X2 ho' hb' hg' hal'
     refine hK _ _ ?_
     clear hK KK
     have S2:=S1.appA ho' hg' hal'
     have B2:=B1.trans hb'
     have hX2 : w.heap.size ≤ X2.heap.size:=B2.size
     obtain ⟨ea,en,ec,rfl⟩:=ho'.at.shape
     clear S1 ho' hb' hg' hal'
     refine wpAny_ready (rs:=[14]) (by kernel_rfl) (by simp) (AllReady.cons rfl (fun KK hK => ?_) AllReady.nil)
     ·go_simp
      refine hK _ _ ?_
      clear hK KK
      obtain ⟨X3,hY3⟩ : ∃ Y : World,Y = X2.alloc (.cells #[.int .i64 (t : Int)] 3):=⟨_,rfl⟩
      have S3:=S2.addM hX2 (t : Int) rfl
      have B3:=B2.trans ((belowAlloc X2 (.cells #[.int .i64 (t : Int)] 3)).mono hX2)
      rw [← hY3] at S3 B3 ⊢
      have hX3 : w.heap.size ≤ X3.heap.size:=B3.size
      clear S2 hY3
      refine wpAny_ready (rs:=[15]) (by kernel_rfl) (by simp) (AllReady.cons rfl (fun KK hK => ?_) AllReady.nil)
      ·refine step_appR rfl _ _ rfl w.heap.size (.slice ba bn bc) _ Bs [(t : Int)] rfl rfl S3.ownB S3.litM (by simp; omega) hX3 ?_
       intro v' X4 ho' hb' hg' hal'
       refine hK _ _ ?_
       clear hK KK
       have S4:=S3.appB ho' hg' hal'
       have B4:=B3.trans hb'
       have hX4 : w.heap.size ≤ X4.heap.size:=B4.size
       obtain ⟨fa,fn,fc,rfl⟩:=ho'.at.shape
       clear S3 ho' hb' hg' hal'
       refine takeA (i:=16) (v:=?_) (some 8) rfl rfl (by kernel_rfl) (by kernel_rfl) (by kernel_rfl) (fun _ _ _ h => h) (Or.inl ⟨by rfl,?_⟩) ?_
       rotate_left
       ·intro _; go_simp; try with_reducible rfl
       simp only [Act.put,List.setIfInBounds_toArray]
       refine takeA (i:=17) (v:=?_) (some 9) rfl rfl (by kernel_rfl) (by kernel_rfl) (by kernel_rfl) (fun _ _ _ h => h) (Or.inl ⟨by rfl,?_⟩) ?_
       rotate_left
       ·intro _; go_simp; try with_reducible rfl
       simp only [Act.put]
       refine wpAny_done (by kernel_rfl) ?_ _
       refine NoPanic.normal ?_
       have hF:=S4.forget
       rw [← tA.out,← tB.out] at hF
       replace hF:=Lib.hid hF
       clear S4
       go_wp2
       go_roundw
       case rel => exact ⟨i + 1,_,_,by have:=hil2.out; omega,by go_num,rfl,rfl,hF.out,B4⟩
       case measure => have:=hil2.out; simp [intOf]; omega
    ·go_simp
     refine hK _ _ ?_
     clear hK KK
     obtain ⟨X2,hY2⟩ : ∃ Y : World,Y = X1.alloc (.cells #[.int .i64 (t : Int)] 3):=⟨_,rfl⟩
     have S2:=S1.addM hX1 (t : Int) rfl
     have B2:=B1.trans ((belowAlloc X1 (.cells #[.int .i64 (t : Int)] 3)).mono hX1)
     rw [← hY2] at S2 B2 ⊢
     have hX2 : w.heap.size ≤ X2.heap.size:=B2.size
     clear S1 hY2
     refine wpAny_ready (rs:=[7]) (by kernel_rfl) (by simp) (AllReady.cons rfl (fun KK hK => ?_) AllReady.nil)
     ·refine step_appR rfl _ _ rfl w.heap.size (.slice aa an ac) _ As [(s : Int)] rfl rfl S2.ownA S2.litL (by simp; omega) hX2 ?_
      intro v' X3 ho' hb' hg' hal'
      refine hK _ _ ?_
      clear hK KK
      have S3:=S2.appA ho' hg' hal'
      have B3:=B2.trans hb'
      have hX3 : w.heap.size ≤ X3.heap.size:=B3.size
      obtain ⟨ea,en,ec,rfl⟩:=ho'.at.shape
      clear S2 ho' hb' hg' hal'
      refine wpAny_ready (rs:=[15]) (by kernel_rfl) (by simp) (AllReady.cons rfl (fun KK hK => ?_) AllReady.nil)
      ·refine step_appR rfl _ _ rfl w.heap.size (.slice ba bn bc) _ Bs [(t : Int)] rfl rfl S3.ownB S3.litM (by simp; omega) hX3 ?_
       intro v' X4 ho' hb' hg' hal'
       refine hK _ _ ?_
       clear hK KK
       have S4:=S3.appB ho' hg' hal'
       have B4:=B3.trans hb'
       have hX4 : w.heap.size ≤ X4.heap.size:=B4.size
       obtain ⟨fa,fn,fc,rfl⟩:=ho'.at.shape
       clear S3 ho' hb' hg' hal'
       refine takeA (i:=16) (v:=?_) (some 8) rfl rfl (by kernel_rfl) (by kernel_rfl) (by kernel_rfl) (fun _ _ _ h => h) (Or.inl ⟨by rfl,?_⟩) ?_
       rotate_left
       ·intro _; go_simp; try with_reducible rfl
       simp only [Act.put,List.setIfInBounds_toArray]
       refine takeA (i:=17) (v:=?_) (some 9) rfl rfl (by kernel_rfl) (by kernel_rfl) (by kernel_rfl) (fun _ _ _ h => h) (Or.inl ⟨by rfl,?_⟩) ?_
       rotate_left
       ·intro _; go_simp; try with_reducible rfl
       simp only [Act.put]
       refine wpAny_done (by kernel_rfl) ?_ _
       refine NoPanic.normal ?_
       have hF:=S4.forget
       rw [← tA.out,← tB.out] at hF
       replace hF:=Lib.hid hF
       clear S4
       go_wp2
       go_roundw
       case rel => exact ⟨i + 1,_,_,by have:=hil2.out; omega,by go_num,rfl,rfl,hF.out,B4⟩
       case measure => have:=hil2.out; simp [intOf]; omega
   ·go_simp
    refine hK _ _ ?_
    clear hK KK
    obtain ⟨X1,hY1⟩ : ∃ Y : World,Y = W.alloc (.cells #[.int .i64 (t : Int)] 3):=⟨_,rfl⟩
    have S1:=hSW.addM hsz (t : Int) rfl
    have B1:=hBW.trans ((belowAlloc W (.cells #[.int .i64 (t : Int)] 3)).mono hsz)
    rw [← hY1] at S1 B1 ⊢
    have hX1 : w.heap.size ≤ X1.heap.size:=B1.size
    clear hSW hY1
    refine wpAny_ready (rs:=[6]) (by kernel_rfl) (by simp) (AllReady.cons rfl (fun KK hK => ?_) AllReady.nil)
    ·go_simp
     refine hK _ _ ?_
     clear hK KK
     obtain ⟨X2,hY2⟩ : ∃ Y : World,Y = X1.alloc (.cells #[.int .i64 (s : Int)] 3):=⟨_,rfl⟩
     have S2:=S1.addL hX1 (s : Int) rfl
     have B2:=B1.trans ((belowAlloc X1 (.cells #[.int .i64 (s : Int)] 3)).mono hX1)
     rw [← hY2] at S2 B2 ⊢
     have hX2 : w.heap.size ≤ X2.heap.size:=B2.size
     clear S1 hY2
     refine wpAny_ready (rs:=[7]) (by kernel_rfl) (by simp) (AllReady.cons rfl (fun KK hK => ?_) AllReady.nil)
     ·refine step_appR rfl _ _ rfl w.heap.size (.slice aa an ac) _ As [(s : Int)] rfl rfl S2.ownA S2.litL (by simp; omega) hX2 ?_
      intro v' X3 ho' hb' hg' hal'
      refine hK _ _ ?_
      clear hK KK
      have S3:=S2.appA ho' hg' hal'
      have B3:=B2.trans hb'
      have hX3 : w.heap.size ≤ X3.heap.size:=B3.size
      obtain ⟨ea,en,ec,rfl⟩:=ho'.at.shape
      clear S2 ho' hb' hg' hal'
      refine wpAny_ready (rs:=[15]) (by kernel_rfl) (by simp) (AllReady.cons rfl (fun KK hK => ?_) AllReady.nil)
      ·refine step_appR rfl _ _ rfl w.heap.size (.slice ba bn bc) _ Bs [(t : Int)] rfl rfl S3.ownB S3.litM (by simp; omega) hX3 ?_
       intro v' X4 ho' hb' hg' hal'
       refine hK _ _ ?_
       clear hK KK
       have S4:=S3.appB ho' hg' hal'
       have B4:=B3.trans hb'
       have hX4 : w.heap.size ≤ X4.heap.size:=B4.size
       obtain ⟨fa,fn,fc,rfl⟩:=ho'.at.shape
       clear S3 ho' hb' hg' hal'
       refine takeA (i:=16) (v:=?_) (some 8) rfl rfl (by kernel_rfl) (by kernel_rfl) (by kernel_rfl) (fun _ _ _ h => h) (Or.inl ⟨by rfl,?_⟩) ?_
       rotate_left
       ·intro _; go_simp; try with_reducible rfl
       simp only [Act.put,List.setIfInBounds_toArray]
       refine takeA (i:=17) (v:=?_) (some 9) rfl rfl (by kernel_rfl) (by kernel_rfl) (by kernel_rfl) (fun _ _ _ h => h) (Or.inl ⟨by rfl,?_⟩) ?_
       rotate_left
       ·intro _; go_simp; try with_reducible rfl
       simp only [Act.put]
       refine wpAny_done (by kernel_rfl) ?_ _
       refine NoPanic.normal ?_
       have hF:=S4.forget
       rw [← tA.out,← tB.out] at hF
       replace hF:=Lib.hid hF
       clear S4
       go_wp2
       go_roundw
       case rel => exact ⟨i + 1,_,_,by have:=hil2.out; omega,by go_num,rfl,rfl,hF.out,B4⟩
       case measure => have:=hil2.out; simp [intOf]; omega
  ·obtain rfl : i = way.length:=by omega
   rw [List.take_length] at hS
   have h1:=hS.ownA
   have h2:=hS.ownB
   have h3:=hS.two
   replace hS:=Lib.hid hS
   replace h1:=Lib.hid h1
   replace h2:=Lib.hid h2
   replace h3:=Lib.hid h3
   go_wp2
   go_ret2
   exact ⟨_,_,rfl,hB,h1.out,h2.out,h3.out⟩
end Go.Proofs.YtjiadfblphdchaaGreatDoor
namespace Go.Proofs.YtjiadfblphdchaaGreatDoor
open Go.RowKit
set_option maxRecDepth 100000
/-- Each owned, no two in one block. -/
structure Kin (w : World) (lo : Nat) (vs : List Value) (xs : List (List Int)) : Prop where
 len : vs.length = xs.length
 own : ∀ t,t < vs.length → OwnI lo w (vAt vs t) (xs.getD t [])
 two : ∀ s t,s < vs.length → t < vs.length → s ≠ t → (vAt vs s).ownBlock = none ∨ (vAt vs s).ownBlock ≠ (vAt vs t).ownBlock
/-- The last two of four change places. -/
theorem Kin.swap {w : World} {lo : Nat} {a b c d : Value} {x y z u : List Int} (h : Kin w lo [a,b,c,d] [x,y,z,u]) : Kin w lo [a,b,d,c] [x,y,u,z]:=by
 refine ⟨rfl,fun t ht => ?_,fun s t hs ht hne => ?_⟩
 ·have : t = 0 ∨ t = 1 ∨ t = 2 ∨ t = 3:=by simp at ht; omega
  rcases this with rfl | rfl | rfl | rfl
  ·exact h.own 0 (by simp)
  ·exact h.own 1 (by simp)
  ·exact h.own 3 (by simp)
  ·exact h.own 2 (by simp)
 ·have h1 : s = 0 ∨ s = 1 ∨ s = 2 ∨ s = 3:=by simp at hs; omega
  have h2 : t = 0 ∨ t = 1 ∨ t = 2 ∨ t = 3:=by simp at ht; omega
  rcases h1 with rfl | rfl | rfl | rfl <;> rcases h2 with rfl | rfl | rfl | rfl
  ·exact absurd rfl hne
  ·exact h.two 0 1 (by simp) (by simp) (by decide)
  ·exact h.two 0 3 (by simp) (by simp) (by decide)
  ·exact h.two 0 2 (by simp) (by simp) (by decide)
  ·exact h.two 1 0 (by simp) (by simp) (by decide)
  ·exact absurd rfl hne
  ·exact h.two 1 3 (by simp) (by simp) (by decide)
  ·exact h.two 1 2 (by simp) (by simp) (by decide)
  ·exact h.two 3 0 (by simp) (by simp) (by decide)
  ·exact h.two 3 1 (by simp) (by simp) (by decide)
  ·exact absurd rfl hne
  ·exact h.two 3 2 (by simp) (by simp) (by decide)
  ·exact h.two 2 0 (by simp) (by simp) (by decide)
  ·exact h.two 2 1 (by simp) (by simp) (by decide)
  ·exact h.two 2 3 (by simp) (by simp) (by decide)
  ·exact absurd rfl hne
/-- append, its run known. -/
theorem wpl_app_run {w : World} {ops : Array Oper} {rest : List Oper} {o : Oper} {a : Act} {Q : Exit → Act → World → Prop} (hgd : o.guard = none) (s x : Operand) (T : TypeId)
 (ho : o.op = .call { callee:=.builtin .append,args:=#[s,x],argTypes:=#[T,T] })
 (v u : Value) (hs : a.eval s = v) (hx : a.eval x = u) {v' : Value} {w' : World} (hr : (Builtin.append_ #[T,T] o.type #[v,u]).run Tryz.prog w = .ok v' w')
 (h : wpList Tryz.prog ops Q rest (a.put o.dst v') w') :
 wpList Tryz.prog ops Q (o :: rest) a w:=by
 refine wpList_plain hgd fun K hK => ?_
 unfold Oper.wp execOp
 simp only [ho,resolve,invoke,builtin,Sem.run_bind,Sem.run_pure,Result.andThen_ok,List.map_toArray,List.map_cons,List.map_nil,hs,hx]
 rw [hr]
 exact hK _ _ h
end Go.Proofs.YtjiadfblphdchaaGreatDoor
namespace Go.Proofs.YtjiadfblphdchaaGreatDoor
open Go.RowKit
set_option maxRecDepth 100000
theorem add_lit0 (b j : Nat) : (⟨b,0,none⟩ : Addr).add j = ⟨b,j,none⟩:=by simp [Addr.add_lit]
theorem run_appTail (B : Nat) (ty : TypeId) (w : World) (g C b : Nat) (xs : List Int) (y : Int) (hown : OwnI B w (.slice (some ⟨g,0,none⟩) xs.length C) xs) (hL : 1 ≤ xs.length) (hb : w.cell? ⟨b,0,none⟩ = some (.int .i64 y)) (hB : B ≤ w.heap.size) (hlen : xs.length ≤ 1000000) :
 ∃ v' w',(Builtin.append_ #[22,22] ty #[sliced (some ⟨g,0,none⟩) 1 xs.length C 1,.slice (some ⟨b,0,none⟩) 1 1]).run Tryz.prog w = .ok v' w' ∧ IntsAt w' v' (xs.drop 1 ++ [y]) ∧ Below B w w' ∧ w.grownBy w' (some g):=by
 obtain ⟨i,hi,hz0,hz1,hz2⟩:=info_parts iInt
 have hat:=hown.at
 have hcells : ∀ j (hj : j < xs.length),w.cell? ⟨g,j,none⟩ = some (.int .i64 xs[j]):=fun j hj => by
  have:=hat.cell j hj
  rwa [valAt_row] at this
 have hnews : ∀ (j : Nat) (u : Value),([.int .i64 y] : List Value)[j]? = some u → w.cell? ((⟨b,0,none⟩ : Addr).add j) = some u:=by
  intro j u hj
  cases j with
  | zero => simp at hj; subst hj; rw [add_lit0]; exact hb
  | succ j => simp at hj
 have hone : ∀ u ∈ ([.int .i64 y] : List Value),u.oneCell' = true:=by intro u hu; rw [List.mem_singleton] at hu; subst hu; rfl
 rcases hown.2 with ⟨e,_⟩ | ⟨g',cap,cur,e,hBg,hg,hn,hm,hs,ht⟩
 ·cases e
 injection e with e1 _ e3
 obtain rfl : g = g':=by injection e1 with e1; injection e1
 subst e3
 have finish : ∀ v' w',w'.ownsRow w.heap.size 3 1 v' (xs.length - 1 + 1) ((xs.drop 1).map (Value.int .i64) ++ [.int .i64 y]) → IntsAt w' v' (xs.drop 1 ++ [y]):=fun v' w' h => by
  have : OwnI w.heap.size w' v' (xs.drop 1 ++ [y]):=by
   unfold OwnI
   rw [List.map_append,List.length_append,List.length_drop]
   exact h
  exact this.at
 by_cases hC : C = 1
 ·have h1 : xs.length = 1:=by omega
  have hsl : sliced (some ⟨g,0,none⟩) 1 xs.length C 1 = .slice (some ⟨g,0,none⟩) 0 0:=by unfold sliced; rw [if_pos hC,h1,hC]
  obtain ⟨v',w',hr,r1,r2⟩:=run_append_arg_grows (P:=Tryz.prog) w 22 ty 3 i (.int .i64 0) 1 8 uInts hi hz0 hz1 hz2 rfl (by decide) ⟨g,0,none⟩ 0 0 [] rfl (by simp) ⟨b,0,none⟩ 1 1 [.int .i64 y] rfl hnews (by omega) (by unfold maxLen; omega) (by omega)
  have hd : xs.drop 1 = []:=List.drop_eq_nil_of_le (by omega)
  refine ⟨v',w',by rw [hsl]; exact hr,finish v' w' (by rw [hd,h1]; exact r1),(Below.refl _ _).grown r2 hB (by intro k hk; cases hk),⟨r2.os,r2.tape,r2.output,r2.size,fun k hk _ => r2.block k hk (by simp)⟩⟩
 ·have hsl : sliced (some ⟨g,0,none⟩) 1 xs.length C 1 = .slice (some ⟨g,1,none⟩) (xs.length - 1) (C - 1):=by unfold sliced; rw [if_neg hC]; rfl
  by_cases hroom : xs.length < C
  ·have hcs : cur.size = C:=by rw [hs,Nat.mul_one]
   have hl : w.cell? ⟨g,xs.length,none⟩ = cur[xs.length]?:=cell_of_row w g _ cur _ _ hg
   have hsome : (w.cell? ⟨g,xs.length,none⟩).isSome = true:=by rw [hl]; simp [hcs,hroom]
   have hfz : w.frozen? ⟨g,xs.length,none⟩ = false:=frozen_of_row w g _ cur _ hg
   have e1 : 1 + (xs.length - 1) * i.size + 0 = xs.length:=by rw [hz1]; omega
   have hr:=run_append_room_cells (P:=Tryz.prog) w 22 ty 3 i uInts hi g 1 (xs.length - 1) (C - 1) ⟨b,0,none⟩ 1 1 [.int .i64 y] (by rw [hz1]; rfl) hnews hone (by omega) (fun j hj => by
    obtain rfl : j = 0:=by simpa using hj
    rw [e1]; exact hsome) (fun j hj => by
    obtain rfl : j = 0:=by simpa using hj
    rw [e1]; exact hfz)
   have e2 : 1 + (xs.length - 1) * i.size = xs.length:=by rw [hz1]; omega
   have e3 : xs.length - 1 + 1 = xs.length:=by omega
   rw [e2,e3] at hr
   have e4 : w.setCells g xs.length [.int .i64 y] = w.setCell ⟨g,xs.length,none⟩ (.int .i64 y):=rfl
   rw [e4] at hr
   refine ⟨_,_,by rw [hsl]; exact hr,?_,(Below.refl _ _).setCell hBg _,⟨rfl,rfl,rfl,by simp [World.setCell],fun k _ hk => Below.heap_setCell _ _ _ _ (by intro e; exact hk (by rw [e]))⟩⟩
   refine ⟨some ⟨g,1,none⟩,C - 1,by simp; omega,by simp; omega,by omega,(by intro e; cases e),fun j hj => ?_⟩
   have hj2 : j < xs.length:=by simp at hj; omega
   have ev : valAt (.slice (some ⟨g,1,none⟩) xs.length (C - 1)) j = ⟨g,1 + j,none⟩:=by simp [valAt,Addr.add_lit]
   rw [ev]
   by_cases hjl : j + 1 < xs.length
   ·rw [World.cell?_setCell_other _ _ _ _ (by intro e; have:=congrArg Addr.off e; dsimp only at this; omega),Nat.add_comm 1 j,hcells (j + 1) hjl]
    rw [List.getElem_append_left (by simp; omega),List.getElem_drop]
    simp only [Nat.add_comm 1 j]
   ·obtain rfl : j = xs.length - 1:=by omega
    rw [show 1 + (xs.length - 1) = xs.length by omega,World.cell?_setCell_same' _ _ _ hsome,List.getElem_append_right (by simp)]
    simp
  ·obtain ⟨v',w',hr,r1,r2⟩:=run_append_arg_grows (P:=Tryz.prog) w 22 ty 3 i (.int .i64 0) 1 8 uInts hi hz0 hz1 hz2 rfl (by decide) ⟨g,1,none⟩ (xs.length - 1) (C - 1) ((xs.drop 1).map (Value.int .i64)) (by simp) (fun j u hj => by
    have hjl : j < (xs.drop 1).length:=by have:=(List.getElem?_eq_some_iff.1 hj).1; simpa using this
    have hjl2 : j + 1 < xs.length:=by simp at hjl; omega
    rw [Addr.add_lit,Nat.add_comm 1 j,hcells (j + 1) hjl2,← hj]
    simp [hjl2]) ⟨b,0,none⟩ 1 1 [.int .i64 y] rfl hnews (by omega) (by unfold maxLen; omega) (by omega)
   exact ⟨v',w',by rw [hsl]; exact hr,finish v' w' r1,(Below.refl _ _).grown r2 hB (by intro k hk; cases hk),⟨r2.os,r2.tape,r2.output,r2.size,fun k hk _ => r2.block k hk (by simp)⟩⟩
theorem run_sliceTail (g L C : Nat) (hL : 1 ≤ L) (w : World) : (Instr.slice 22 (.slice (some ⟨g,0,none⟩) L C) (some (.int .i64 1)) none none).run Tryz.prog w = .ok (sliced (some ⟨g,0,none⟩) 1 L C 1) w:=by
 have:=run_slice_l (P:=Tryz.prog) w 22 (some ⟨g,0,none⟩) L C uIntsE .i64 1 (by omega) (by omega)
 rw [eInts,sInt] at this
 exact this
end Go.Proofs.YtjiadfblphdchaaGreatDoor
namespace Go.Proofs.YtjiadfblphdchaaGreatDoor
open Go.RowKit
set_option maxRecDepth 100000
/-- No vertex of G. -/
def outG (G : List (List Int)) (a : Int) : Prop:=a < 0 ∨ (G.length : Int) ≤ a
instance (G : List (List Int)) (a : Int) : Decidable (outG G a):=by unfold outG; infer_instance
/-- What Path tells of its arguments. -/
def pathE (G : List (List Int)) (a b : Int) : PErr :=
 match checkG G with
 | some t => some t
 | none => if outG G a then fresh sGraph 1 3 else if outG G b then fresh sGraph 2 3 else none
theorem pathE_ok {G : List (List Int)} {x y : Nat} (hc : checkG G = none) (hx : x < G.length) (hy : y < G.length) : pathE G x y = none:=by
 unfold pathE
 rw [hc]
 dsimp only
 rw [if_neg (by unfold outG; omega),if_neg (by unfold outG; omega)]
/-- What Path leaves. -/
def PathPost (r : Nat → Addr) (w : World) (G : List (List Int)) (a b : Int) (x y : Value) (w' : World) : Prop :=
 ErrIs r w' (pathE G a b) y ∧ (pathE G a b = none → FirstPost w (adjOf G) a.toNat b.toNat x w') ∧ (pathE G a b ≠ none → x = .slice none 0 0)
theorem FirstPost.step {w1 w2 w3 : World} {adj : Nat → List Nat} {a b : Nat} {x : Value} (h : FirstPost w2 adj a b x w3) (hs : w1.heap.size ≤ w2.heap.size) : FirstPost w1 adj a b x w3:=by
 rcases h with ⟨u,h1,h2⟩ | h
 ·exact .inl ⟨u,h1,h2.mono hs⟩
 ·exact .inr h
theorem FirstPost.shape {w w' : World} {adj : Nat → List Nat} {a b : Nat} {x : Value} (h : FirstPost w adj a b x w') : ∃ p n c,x = .slice p n c:=by
 rcases h with ⟨u,_,h2⟩ | ⟨_,h⟩
 ·exact h2.at.shape
 ·exact ⟨_,_,_,h⟩
set_option maxHeartbeats 4000000 in
theorem path_any (r : Nat → Addr) (na : Option Addr) (nc : Nat) (G : List (List Int)) (a b : Int) (w : World) (hg : Glob r w) (h : ListsAt w (.slice na G.length nc) G) (hsz : ∀ k,k < G.length → (G.getD k []).length ≤ 17592186044416) :
 Calls Tryz.prog 87 #[.slice na G.length nc,.int .i64 a,.int .i64 b] w (Ret2 (PathPost r w G a b) w):=by
 have hC:=graph_check r na nc G w hg h hsz
 cases hck : checkG G with
 | some t =>
  rw [hck] at hC
  have hp : pathE G a b = some t:=by unfold pathE; rw [hck]
  replace hp:=Lib.hid hp
  replace hck:=Lib.hid hck
  replace h:=Lib.hid h
  replace hg:=Lib.hid hg
  replace hsz:=Lib.hid hsz
  go_enter Tryz.func87,Tryz.ntmps87
  go_wp2_with fail
  refine hC.mono ?_
  rintro e w1 ⟨y,rfl,b1,he⟩
  obtain ⟨T,p,rfl⟩:=he.some_shape
  replace he:=Lib.hid he
  go_wp2
  go_ret2
  exact ⟨_,_,rfl,b1,⟨by rw [hp.out]; exact he.out,⟨fun q => (by rw [hp.out] at q; cases q),fun _ => rfl⟩⟩⟩
 | none =>
  rw [hck] at hC
  obtain ⟨hn,harr,hok⟩:=checkG_none hck
  by_cases ha : outG G a
  ·have hp : pathE G a b = fresh sGraph 1 3:=by unfold pathE; rw [hck]; dsimp only; rw [if_pos ha]
   replace hp:=Lib.hid hp
   replace hck:=Lib.hid hck
   replace h:=Lib.hid h
   replace hg:=Lib.hid hg
   replace hsz:=Lib.hid hsz
   replace hok:=Lib.hid hok
   rcases ha with ha | ha
   ·go_enter Tryz.func87,Tryz.ntmps87
    go_wp2_with fail
    refine hC.mono ?_
    rintro e w1 ⟨y,rfl,b1,he⟩
    obtain rfl:=he.none_eq
    clear he hC
    go_wp2_with fail
    refine (graph_wrong r _ _ _ (hg.out.below b1) (by decide) (by decide)).mono ?_
    rintro e w2 ⟨y,rfl,b2,he⟩
    replace he:=Lib.hid he
    go_wp2
    go_ret2
    exact ⟨_,_,rfl,Below.step b1 b2,⟨by rw [hp.out]; exact he.out,⟨fun q => (by rw [hp.out] at q; cases q),fun _ => rfl⟩⟩⟩
   ·have ha0 : ¬ a < 0:=by omega
    go_enter Tryz.func87,Tryz.ntmps87
    go_wp2_with fail
    refine hC.mono ?_
    rintro e w1 ⟨y,rfl,b1,he⟩
    obtain rfl:=he.none_eq
    clear he hC
    go_wp2_with fail
    refine (graph_wrong r _ _ _ (hg.out.below b1) (by decide) (by decide)).mono ?_
    rintro e w2 ⟨y,rfl,b2,he⟩
    replace he:=Lib.hid he
    go_wp2
    go_ret2
    exact ⟨_,_,rfl,Below.step b1 b2,⟨by rw [hp.out]; exact he.out,⟨fun q => (by rw [hp.out] at q; cases q),fun _ => rfl⟩⟩⟩
  ·have ha1 : 0 ≤ a ∧ a < G.length:=by unfold outG at ha; omega
   obtain ⟨ha1,ha2⟩:=ha1
   by_cases hb : outG G b
   ·have hp : pathE G a b = fresh sGraph 2 3:=by unfold pathE; rw [hck]; dsimp only; rw [if_neg ha,if_pos hb]
    replace hp:=Lib.hid hp
    replace hck:=Lib.hid hck
    replace h:=Lib.hid h
    replace hg:=Lib.hid hg
    replace hsz:=Lib.hid hsz
    replace hok:=Lib.hid hok
    clear ha
    rcases hb with hb | hb
    ·go_enter Tryz.func87,Tryz.ntmps87
     go_wp2_with fail
     refine hC.mono ?_
     rintro e w1 ⟨y,rfl,b1,he⟩
     obtain rfl:=he.none_eq
     clear he hC
     go_wp2_with fail
     refine (graph_wrong r _ _ _ (hg.out.below b1) (by decide) (by decide)).mono ?_
     rintro e w2 ⟨y,rfl,b2,he⟩
     replace he:=Lib.hid he
     go_wp2
     go_ret2
     exact ⟨_,_,rfl,Below.step b1 b2,⟨by rw [hp.out]; exact he.out,⟨fun q => (by rw [hp.out] at q; cases q),fun _ => rfl⟩⟩⟩
    ·have hb0 : ¬ b < 0:=by omega
     go_enter Tryz.func87,Tryz.ntmps87
     go_wp2_with fail
     refine hC.mono ?_
     rintro e w1 ⟨y,rfl,b1,he⟩
     obtain rfl:=he.none_eq
     clear he hC
     go_wp2_with fail
     refine (graph_wrong r _ _ _ (hg.out.below b1) (by decide) (by decide)).mono ?_
     rintro e w2 ⟨y,rfl,b2,he⟩
     replace he:=Lib.hid he
     go_wp2
     go_ret2
     exact ⟨_,_,rfl,Below.step b1 b2,⟨by rw [hp.out]; exact he.out,⟨fun q => (by rw [hp.out] at q; cases q),fun _ => rfl⟩⟩⟩
   ·have hb1 : 0 ≤ b ∧ b < G.length:=by unfold outG at hb; omega
    obtain ⟨hb1,hb2⟩:=hb1
    have hp : pathE G a b = none:=by unfold pathE; rw [hck]; dsimp only; rw [if_neg ha,if_neg hb]
    obtain ⟨x,rfl⟩:=Int.eq_ofNat_of_zero_le ha1
    obtain ⟨y,rfl⟩:=Int.eq_ofNat_of_zero_le hb1
    have hx : x < G.length:=by omega
    have hy : y < G.length:=by omega
    clear ha hb ha1 hb1 ha2 hb2
    replace hp:=Lib.hid hp
    replace hck:=Lib.hid hck
    replace h:=Lib.hid h
    replace hg:=Lib.hid hg
    replace hsz:=Lib.hid hsz
    replace hok:=Lib.hid hok
    go_enter Tryz.func87,Tryz.ntmps87
    go_wp2_with fail
    refine hC.mono ?_
    rintro e w1 ⟨y',rfl,b1,he⟩
    obtain rfl:=he.none_eq
    clear he hC
    go_wp2_with fail
    refine (first_any na nc G x y _ (h.out.below b1) hok.out (by omega) hx hy hsz.out).mono ?_
    rintro e w2 ⟨z,rfl,b2,hz⟩
    obtain ⟨zp,zn,zc,rfl⟩:=hz.shape
    replace hz:=Lib.hid hz
    go_wp2
    go_ret2
    exact ⟨_,_,rfl,Below.step b1 b2,⟨by rw [hp.out]; rfl,⟨fun _ => by rw [Int.toNat_natCast,Int.toNat_natCast]; exact hz.out.step b1.size,fun q => absurd hp.out q⟩⟩⟩
end Go.Proofs.YtjiadfblphdchaaGreatDoor
namespace Go.Proofs.YtjiadfblphdchaaGreatDoor
open Go.RowKit
set_option maxRecDepth 100000
/-- Arrows to v now lead to n. -/
def mapW (v n : Nat) (l : List Int) : List Int:=l.map fun t => if t = (v : Int) then (n : Int) else t
theorem mapW_len (v n : Nat) (l : List Int) : (mapW v n l).length = l.length:=by simp [mapW]
/-- The lists behind the first k. -/
def wideTo (G : List (List Int)) (v k : Nat) : Nat → List Int:=fun u => if u < k then mapW v G.length (G.getD u []) else []
def wideG (G : List (List Int)) (v : Nat) : List (List Int):=rowsOf (G.length + 1) (wideTo G v G.length)
/-- Within a list: the first j. -/
def midW (v n : Nat) (l : List Int) (j : Nat) : List Int:=mapW v n (l.take j) ++ l.drop j
theorem midW_zero (v n : Nat) (l : List Int) : midW v n l 0 = l:=by simp [midW,mapW]
theorem midW_full (v n : Nat) (l : List Int) : midW v n l l.length = mapW v n l:=by simp [midW]
theorem midW_len (v n : Nat) (l : List Int) (j : Nat) (hj : j ≤ l.length) : (midW v n l j).length = l.length:=by simp [midW,mapW_len]; omega
theorem mapW_append (v n : Nat) (a b : List Int) : mapW v n (a ++ b) = mapW v n a ++ mapW v n b:=by unfold mapW; exact List.map_append
theorem midW_next (v n : Nat) (l : List Int) (j : Nat) (hj : j < l.length) : midW v n l (j + 1) = mapW v n (l.take j) ++ (if l[j] = (v : Int) then (n : Int) else l[j]) :: l.drop (j + 1):=by
 unfold midW
 rw [take_snoc l j hj,mapW_append,List.append_assoc]
 rfl
theorem midW_now (v n : Nat) (l : List Int) (j : Nat) (hj : j < l.length) : midW v n l j = mapW v n (l.take j) ++ l[j] :: l.drop (j + 1):=by
 unfold midW
 rw [← List.drop_eq_getElem_cons hj]
theorem midW_step (v n : Nat) (l : List Int) (j : Nat) (hj : j < l.length) : midW v n l (j + 1) = (midW v n l j).set j (if l[j] = (v : Int) then (n : Int) else l[j]):=by
 have hl : (mapW v n (l.take j)).length = j:=by rw [mapW_len,List.length_take]; omega
 rw [midW_next v n l j hj,midW_now v n l j hj,List.set_append_right _ _ (by omega),hl,Nat.sub_self,List.set_cons_zero]
theorem midW_same (v n : Nat) (l : List Int) (j : Nat) (hj : j < l.length) (he : l[j] ≠ (v : Int)) : midW v n l (j + 1) = midW v n l j:=by
 rw [midW_next v n l j hj,midW_now v n l j hj,if_neg he]
theorem updN_updN {α : Type} (f : Nat → α) (k : Nat) (a b : α) : updN (updN f k a) k b = updN f k b:=by
 funext x
 by_cases e : x = k
 ·subst e; rw [updN_same,updN_same]
 ·rw [updN_other _ _ _ e,updN_other _ _ _ e,updN_other _ _ _ e]
theorem wideTo_succ (G : List (List Int)) (v k : Nat) : updN (wideTo G v k) k (mapW v G.length (G.getD k [])) = wideTo G v (k + 1):=by
 funext u
 unfold wideTo
 by_cases e : u = k
 ·subst e; rw [updN_same,if_pos (by omega)]
 ·rw [updN_other _ _ _ e]
  by_cases q : u < k
  ·rw [if_pos q,if_pos (by omega)]
  ·rw [if_neg q,if_neg (by omega)]
theorem wideG_len (G : List (List Int)) (v : Nat) : (wideG G v).length = G.length + 1:=rowsOf_len _ _
theorem wideG_row (G : List (List Int)) (v u : Nat) (hu : u < G.length) : (wideG G v).getD u [] = mapW v G.length (G.getD u []):=by
 unfold wideG
 rw [rowsOf_get _ _ _ (by omega)]
 exact if_pos hu
theorem wideG_last (G : List (List Int)) (v : Nat) : (wideG G v).getD G.length [] = []:=by
 unfold wideG
 rw [rowsOf_get _ _ _ (by omega)]
 exact if_neg (by omega)
theorem wideG_ok {G : List (List Int)} (hok : GraphOk G) (v : Nat) : GraphOk (wideG G v):=by
 intro u hu t ht
 rw [wideG_len] at hu ⊢
 by_cases e : u < G.length
 ·rw [wideG_row G v u e] at ht
  obtain ⟨x,hx,rfl⟩:=List.mem_map.1 ht
  have:=hok u e x hx
  split <;> omega
 ·obtain rfl : u = G.length:=by omega
  rw [wideG_last] at ht; cases ht
theorem wide_adj {G : List (List Int)} (hok : GraphOk G) (v : Nat) {u : Nat} (hu : u < G.length) (t : Nat) : t ∈ adjOf (wideG G v) u ↔ (t ≠ v ∧ t ∈ adjOf G u ∧ t < G.length) ∨ (t = G.length ∧ v ∈ adjOf G u):=by
 unfold adjOf
 rw [wideG_row G v u hu]
 simp only [List.mem_map,mapW]
 constructor
 ·rintro ⟨y,⟨x,hx,rfl⟩,rfl⟩
  have:=hok u hu x hx
  by_cases e : x = (v : Int)
  ·rw [if_pos e]; exact .inr ⟨by simp,x,hx,by rw [e]; simp⟩
  ·rw [if_neg e]; exact .inl ⟨by omega,⟨x,hx,rfl⟩,by omega⟩
 ·rintro (⟨h1,⟨x,hx,rfl⟩,_⟩ | ⟨rfl,x,hx,he⟩)
  ·have:=hok u hu x hx
   exact ⟨x,⟨x,hx,if_neg (by omega)⟩,rfl⟩
  ·have:=hok u hu x hx
   exact ⟨(G.length : Int),⟨x,hx,if_pos (by omega)⟩,by simp⟩
theorem wide_end (G : List (List Int)) (v : Nat) : adjOf (wideG G v) G.length = []:=by unfold adjOf; rw [wideG_last]; rfl
/-- What Loop tells of its arguments. -/
def loopE (G : List (List Int)) (a : Int) : PErr :=
 match checkG G with
 | some t => some t
 | none => if outG G a then fresh sGraph 1 3 else none
theorem loopE_ok {G : List (List Int)} {x : Nat} (hc : checkG G = none) (hx : x < G.length) : loopE G x = none:=by
 unfold loopE
 rw [hc]
 dsimp only
 rw [if_neg (by unfold outG; omega)]
def LoopWay (w : World) (G : List (List Int)) (v : Nat) (x : Value) (w' : World) : Prop :=
 (∃ u,IsFirst (adjOf (wideG G v)) v G.length u ∧ OwnI w.heap.size w' x (castI u.dropLast)) ∨ (¬ Goes (adjOf (wideG G v)) v G.length ∧ x = .slice none 0 0)
/-- What Loop leaves. -/
def LoopPost (r : Nat → Addr) (w : World) (G : List (List Int)) (a : Int) (x y : Value) (w' : World) : Prop :=
 ErrIs r w' (loopE G a) y ∧ (loopE G a = none → LoopWay w G a.toNat x w') ∧ (loopE G a ≠ none → x = .slice none 0 0)
/-- One's own slice, cut at its end. -/
theorem OwnI.cut {B : Nat} {w : World} {g m c : Nat} {xs : List Int} (h : OwnI B w (.slice (some ⟨g,0,none⟩) (m + 1) c) xs) (hl : xs.length = m + 1) : OwnI B w (.slice (some ⟨g,0,none⟩) m c) (xs.take m):=by
 rcases h.2 with ⟨e,_⟩ | ⟨g',cap',cur,e,hB,hg,hn,hm,hs,ht⟩
 ·cases e
 ·injection e with e1 e2 e3
  injection e1 with e1
  injection e1 with e1
  subst e1; subst e3
  have hml : (xs.take m).length = m:=by simp; omega
  refine ⟨by simp,.inr ⟨g,c,cur,by rw [hml],hB,hg,by rw [hml]; omega,hm,hs,?_⟩⟩
  rw [hml]
  rw [hl] at ht
  have:=congrArg (List.take m) ht
  rw [List.take_take] at this
  simp only [Nat.mul_one] at this ⊢
  rw [Nat.min_eq_left (by omega)] at this
  rw [this,List.map_take]
set_option maxHeartbeats 1000000 in
theorem loopG_any (r : Nat → Addr) (na : Option Addr) (nc : Nat) (G : List (List Int)) (a : Int) (w : World) (hg : Glob r w) (h : ListsAt w (.slice na G.length nc) G) (hsz : ∀ k,k < G.length → (G.getD k []).length ≤ 17592186044416) :
 Calls Tryz.prog 86 #[.slice na G.length nc,.int .i64 a] w (Ret2 (LoopPost r w G a) w):=by
 have hC:=graph_check r na nc G w hg h hsz
 cases hck : checkG G with
 | some t =>
  rw [hck] at hC
  have hp : loopE G a = some t:=by unfold loopE; rw [hck]
  replace hp:=Lib.hid hp
  replace hck:=Lib.hid hck
  replace h:=Lib.hid h
  replace hg:=Lib.hid hg
  replace hsz:=Lib.hid hsz
  go_enter Tryz.func86,Tryz.ntmps86
  go_wp2_with fail
  refine hC.mono ?_
  rintro e w1 ⟨y,rfl,b1,he⟩
  obtain ⟨T,p,rfl⟩:=he.some_shape
  replace he:=Lib.hid he
  go_wp2
  go_ret2
  exact ⟨_,_,rfl,b1,⟨by rw [hp.out]; exact he.out,⟨fun q => (by rw [hp.out] at q; cases q),fun _ => rfl⟩⟩⟩
 | none =>
  rw [hck] at hC
  obtain ⟨hn,harr,hok⟩:=checkG_none hck
  by_cases ha : outG G a
  ·have hp : loopE G a = fresh sGraph 1 3:=by unfold loopE; rw [hck]; dsimp only; rw [if_pos ha]
   replace hp:=Lib.hid hp
   replace hck:=Lib.hid hck
   replace h:=Lib.hid h
   replace hg:=Lib.hid hg
   replace hsz:=Lib.hid hsz
   replace hok:=Lib.hid hok
   rcases ha with ha | ha
   ·go_enter Tryz.func86,Tryz.ntmps86
    go_wp2_with fail
    refine hC.mono ?_
    rintro e w1 ⟨y,rfl,b1,he⟩
    obtain rfl:=he.none_eq
    clear he hC
    go_wp2_with fail
    refine (graph_wrong r _ _ _ (hg.out.below b1) (by decide) (by decide)).mono ?_
    rintro e w2 ⟨y,rfl,b2,he⟩
    replace he:=Lib.hid he
    go_wp2
    go_ret2
    exact ⟨_,_,rfl,Below.step b1 b2,⟨by rw [hp.out]; exact he.out,⟨fun q => (by rw [hp.out] at q; cases q),fun _ => rfl⟩⟩⟩
   ·have ha0 : ¬ a < 0:=by omega
    go_enter Tryz.func86,Tryz.ntmps86
    go_wp2_with fail
    refine hC.mono ?_
    rintro e w1 ⟨y,rfl,b1,he⟩
    obtain rfl:=he.none_eq
    clear he hC
    go_wp2_with fail
    refine (graph_wrong r _ _ _ (hg.out.below b1) (by decide) (by decide)).mono ?_
    rintro e w2 ⟨y,rfl,b2,he⟩
    replace he:=Lib.hid he
    go_wp2
    go_ret2
    exact ⟨_,_,rfl,Below.step b1 b2,⟨by rw [hp.out]; exact he.out,⟨fun q => (by rw [hp.out] at q; cases q),fun _ => rfl⟩⟩⟩
  ·have ha1 : 0 ≤ a ∧ a < G.length:=by unfold outG at ha; omega
   obtain ⟨ha1,ha2⟩:=ha1
   obtain ⟨v,rfl⟩:=Int.eq_ofNat_of_zero_le ha1
   have hv : v < G.length:=by omega
   have hp : loopE G (v : Int) = none:=loopE_ok hck hv
   have hd1 : decide ((v : Int) < 0) = false:=by simp
   have hd2 : decide (G.length ≤ v) = false:=by simp; omega
   clear ha ha1 ha2
   replace hp:=Lib.hid hp
   replace hck:=Lib.hid hck
   replace h:=Lib.hid h
   replace hg:=Lib.hid hg
   replace hsz:=Lib.hid hsz
   replace hok:=Lib.hid hok
   go_enter Tryz.func86,Tryz.ntmps86
   go_wp2_with fail
   refine hC.mono ?_
   rintro e w1 ⟨y',rfl,b1,he⟩
   obtain rfl:=he.none_eq
   clear he hC
   obtain ⟨ov,w2,mk,ho,hb2⟩:=run_makeW oneLists ((G.length : Int) + 1) (G.length + 1) w1 (by omega) (by omega)
   obtain ⟨f1,hr1,h1⟩:=WN.made (G.length + 1) hb2 (Nat.le_refl _) ho
   have h1 : WN f1 ov (List.replicate (G.length + 1) (.slice none 0 0)) (G.length + 1) (wideTo G v 0):=by
    have : (fun _ : Nat => ([] : List Int)) = wideTo G v 0:=by funext u; unfold wideTo; rw [if_neg (by omega)]
    rw [← this]; exact h1
   obtain ⟨oa,on,oc,rfl⟩:=ho.shape
   replace ho:=Lib.hid ho
   replace hr1:=Lib.hid hr1
   go_wp2_with fail
   clear mk
   go_loopw [35] (fun kv wr => ∃ (k : Nat) (f : Names) (vals : List Value),k ≤ G.length ∧ kv = .int .i64 k ∧ Rows w1.heap.size wr f ∧ Below w1.heap.size w1 wr ∧ WN f (.slice oa on oc) vals (G.length + 1) (wideTo G v k)) (fun kv _ => G.length - (intOf kv).toNat)
   case atStart => exact ⟨0,f1,_,by omega,rfl,hr1.out,hb2,h1⟩
   case round =>
    clear h1 ho hr1
    obtain ⟨k,f2,vals,hk,rfl,hr2,b2,h2⟩:=hrel
    obtain ⟨wo,rfl⟩ : ∃ wo : World,wo = wr:=⟨_,rfl⟩
    by_cases hlt : k < G.length
    ·obtain ⟨mv,iR,cR0,hM0⟩:=h.out.row k hlt
     have hbw : Below w.heap.size w wo:=b1.trans (b2.mono b1.size)
     have cR:=(hbw.cell (World.block_lt_of_cell? _ _ cR0)).trans cR0
     have hM:=hM0.below hbw
     have hglen:=hsz.out k hlt
     have hsucc:=wideTo_succ G v k
     generalize G.getD k [] = gk at *
     have hcl:=clone_any mv gk wo hM hglen
     have hOV:=(hr2.ownV h2.outer).at
     have iO:=fun w' => hOV.idx oneLists k (by rw [h2.len]; omega) w'
     have hput:=fun (w1' : World) (v' : Value) (xs : List Int) => h2.put (B:=w1.heap.size) (w1:=w1') (u:=k) (by omega) (v':=v') (xs:=xs)
     have hnew:=fun (w1' : World) (v' : Value) (xs : List Int) => h2.new (B:=w1.heap.size) hr2 (w1:=w1') k (v':=v') (xs:=xs)
     have hBo:=b2.size
     generalize valAt (.slice na G.length nc) k = ra at *
     obtain ⟨ua,hua⟩ : ∃ ua,valAt (.slice oa on oc) k = ua:=⟨_,rfl⟩
     rw [hua] at iO
     simp only [hua] at hput
     replace hua:=Lib.hid hua
     replace hput:=Lib.hid hput
     replace hnew:=Lib.hid hnew
     replace hOV:=Lib.hid hOV
     replace hr2:=Lib.hid hr2
     replace hM:=Lib.hid hM
     replace hM0:=Lib.hid hM0
     replace hcl:=Lib.hid hcl
     replace hsucc:=Lib.hid hsucc
     go_wp2_with fail
     clear cR cR0 iR hbw
     refine hcl.out.mono ?_
     rintro e w3 ⟨cv,rfl,b3,hcv⟩
     have hR3:=hnew.out w3 cv gk b3 hBo hcv
     obtain ⟨y1,y2,y3,f4,hr4,h4,_⟩:=hput.out w3 cv gk hR3
     obtain ⟨va,vn,vc,rfl⟩:=hcv.at.shape
     have b4 : Below w1.heap.size w1 (w3.setCell ua (.slice va vn vc)):=(b2.trans (b3.mono hBo)).setCell y3 _
     have h4 : WN f4 (.slice oa on oc) (vals.set k (.slice va vn vc)) (G.length + 1) (updN (wideTo G v k) k (midW v G.length gk 0)):=by rw [midW_zero]; exact h4
     have lM:=(hM0.out.below (b1.trans (b4.mono b1.size))).len
     obtain ⟨W4,hW4⟩ : ∃ W4 : World,W4 = w3.setCell ua (.slice va vn vc):=⟨_,rfl⟩
     rw [← hW4] at hr4 b4
     replace hr4:=Lib.hid hr4
     replace hR3:=Lib.hid hR3
     replace hcv:=Lib.hid hcv
     clear hcl
     go_upto_region 12 with fail
     rw [← hW4]
     clear hW4 y1 y2 iO
     go_wp2_with fail
     clear lM
     generalize vals.set k (.slice va vn vc) = vals at *
     go_loopw [47] (fun jv wr => ∃ (j : Nat) (f : Names) (vals : List Value),j ≤ gk.length ∧ jv = .int .i64 j ∧ Rows w1.heap.size wr f ∧ Below w1.heap.size w1 wr ∧ WN f (.slice oa on oc) vals (G.length + 1) (updN (wideTo G v k) k (midW v G.length gk j))) (fun jv _ => gk.length - (intOf jv).toNat)
     case atStart => exact ⟨0,f4,_,by omega,rfl,hr4.out,b4,h4⟩
     case round =>
      clear hr4 h4 b4 hR3 hcv hM hr2 hnew hput hOV y3
      obtain ⟨j,f5,vals,hj,rfl,hr5,b5,h5⟩:=hrel
      obtain ⟨wo,rfl⟩ : ∃ wo : World,wo = wr:=⟨_,rfl⟩
      by_cases hjl : j < gk.length
      ·have hMj:=hM0.out.below (b1.trans (b5.mono b1.size))
       have iJ:=fun w' => hMj.idx j hjl w'
       have cJ:=hMj.cell j hjl
       generalize valAt mv j = ja at *
       have hstep:=midW_step v G.length gk j hjl
       have hsame:=midW_same v G.length gk j hjl
       obtain ⟨t,ht⟩ : ∃ t,gk[j] = t:=⟨_,rfl⟩
       rw [ht] at cJ hstep hsame
       replace hMj:=Lib.hid hMj
       replace ht:=Lib.hid ht
       by_cases htv : t = (v : Int)
       ·have hq : (t == (v : Int)) = true:=by simp [htv]
        rw [if_pos htv] at hstep
        have hOV:=(hr5.ownV h5.outer).at
        have iO:=fun w' => hOV.idx oneLists k (by rw [h5.len]; omega) w'
        have cO:=hOV.cellV k (by rw [h5.len]; omega)
        have hrow:=hr5.ownI (h5.rows k (by omega))
        rw [updN_same] at hrow
        have hml : (midW v G.length gk j).length = gk.length:=midW_len _ _ _ _ hj
        have iE:=fun w' => hrow.at.idx j (by rw [hml]; exact hjl) w'
        have cE:=hrow.at.cellD j (by rw [hml]; exact hjl)
        have fE:=hrow.frz j (by rw [hml]; exact hjl)
        have kE:=(hrow.toV.blkB j (by rw [List.length_map,hml]; exact hjl)).2
        obtain ⟨f6,hr6,h6⟩:=h5.elem hr5 k (by omega) j (by rw [updN_same,hml]; exact hjl) (G.length : Int)
        rw [updN_same,← hstep,updN_updN] at h6
        have b6 : Below w1.heap.size w1 (wo.setCell (valAt (vAt vals k) j) (.int .i64 (G.length : Int))):=b5.setCell kE _
        generalize valAt (vAt vals k) j = ea at *
        generalize vAt vals k = ev at *
        generalize valAt (.slice oa on oc) k = ua at *
        generalize (midW v G.length gk j).getD j 0 = eo at *
        subst htv
        replace hr6:=Lib.hid hr6
        replace hr5:=Lib.hid hr5
        replace hOV:=Lib.hid hOV
        replace hrow:=Lib.hid hrow
        replace hstep:=Lib.hid hstep
        replace hsame:=Lib.hid hsame
        replace hml:=Lib.hid hml
        go_wp2
        go_roundw
        case measure => simp [intOf]; omega
        case rel => exact ⟨j + 1,f6,vals,by omega,by go_num,hr6.out,b6,h6⟩
       ·have hq : (t == (v : Int)) = false:=by simp [htv]
        have h6:=h5
        rw [← hsame htv] at h6
        replace hr5:=Lib.hid hr5
        replace hstep:=Lib.hid hstep
        replace hsame:=Lib.hid hsame
        go_wp2
        go_roundw
        case measure => simp [intOf]; omega
        case rel => exact ⟨j + 1,f5,vals,by omega,by go_num,hr5.out,b5,h6⟩
      ·obtain rfl : j = gk.length:=by omega
       rw [midW_full,hsucc.out] at h5
       replace hr5:=Lib.hid hr5
       go_wp2
       go_roundw
       case measure => simp [intOf]; omega
       case rel => exact ⟨k + 1,f5,vals,by omega,by go_num,hr5.out,b5,h5⟩
    ·obtain rfl : k = G.length:=by omega
     have hWL:=h2.lists hr2
     have hWL : ListsAt wo (.slice oa on oc) (wideG G v):=hWL
     obtain ⟨oa',oc',he⟩:=hWL.shape
     injection he with he1 he2 he3
     clear he1 he3
     rw [he2] at hWL
     have hF:=first_any oa oc (wideG G v) v G.length wo hWL (wideG_ok hok.out v) (by rw [wideG_len]; omega) (by rw [wideG_len]; omega) (by rw [wideG_len]; omega) (fun u hu => by
      rw [wideG_len] at hu
      by_cases e : u < G.length
      ·rw [wideG_row G v u e,mapW_len]; exact hsz.out u e
      ·obtain rfl : u = G.length:=by omega
       rw [wideG_last]; exact Nat.zero_le _)
     rw [← he2] at hF
     replace hF:=Lib.hid hF
     replace he2:=Lib.hid he2
     replace hWL:=Lib.hid hWL
     replace hr2:=Lib.hid hr2
     go_wp2_with fail
     refine hF.out.mono ?_
     rintro e w5 ⟨xv,rfl,b5,hx⟩
     have hbw : Below w.heap.size w wo:=b1.trans (b2.mono b1.size)
     rcases hx with ⟨u,hu,hxo⟩ | ⟨hno,rfl⟩
     ·have hul:=hu.way.pos
      obtain ⟨g,c,e1,e2⟩:=row_shape (show w5.ownsRow wo.heap.size 3 1 xv (castI u).length ((castI u).map (Value.int .i64)) from hxo) (by rw [castI_len]; exact hul)
      obtain ⟨m,hm⟩ : ∃ m,u.length = m + 1:=⟨u.length - 1,by omega⟩
      rw [castI_len,hm] at e1 e2
      subst e1
      have hcut:=hxo.cut (by rw [castI_len,hm])
      have hdl : (castI u).take m = castI u.dropLast:=by
       unfold castI
       rw [List.dropLast_eq_take,hm,← List.map_take]; rfl
      rw [hdl] at hcut
      have hmb : m ≤ 9223372036854775806:=by
       have:=hxo.at.len_le
       rw [castI_len,hm] at this; omega
      have hwr : IntKind.i64.wrap (m : Int) = m:=wrapK (by omega) (by omega)
      have hsl : (0 ≤ (m : Int) ∧ (m : Int) ≤ (c : Int)):=⟨by omega,by omega⟩
      have hne : (((m : Int) + 1) == 0) = false:=by rw [beq_eq_false_iff_ne]; omega
      replace hcut:=Lib.hid hcut
      replace hxo:=Lib.hid hxo
      replace hdl:=Lib.hid hdl
      replace hm:=Lib.hid hm
      go_wp2
      go_ret2
      exact ⟨_,_,rfl,Below.step hbw b5,⟨by rw [hp.out]; rfl,⟨fun _ => by rw [Int.toNat_natCast]; exact .inl ⟨u,hu,hcut.out.mono hbw.size⟩,fun q => absurd hp.out q⟩⟩⟩
     ·replace hno:=Lib.hid hno
      go_wp2
      go_ret2
      exact ⟨_,_,rfl,Below.step hbw b5,⟨by rw [hp.out]; rfl,⟨fun _ => by rw [Int.toNat_natCast]; exact .inr ⟨hno.out,rfl⟩,fun q => absurd hp.out q⟩⟩⟩
end Go.Proofs.YtjiadfblphdchaaGreatDoor
namespace Go.Proofs.YtjiadfblphdchaaGreatDoor
open Go.RowKit
set_option maxRecDepth 100000
end Go.Proofs.YtjiadfblphdchaaGreatDoor
namespace Go.Proofs.YtjiadfblphdchaaGreatDoor
open Go.RowKit
set_option maxRecDepth 100000
theorem LentI.setBelow {B : Nat} {w : World} {m : Value} {xs : List Int} (h : LentI B w m xs) {a : Addr} (ha : a.block < B) (u : Value) : LentI B (w.setCell a u) m xs:=by
 obtain ⟨v,e,ho⟩:=h
 exact ⟨v,e,ho.setBelowBase ha u⟩
theorem LentI.mono {B B' : Nat} {w : World} {m : Value} {xs : List Int} (h : LentI B w m xs) (hB : B' ≤ B) : LentI B' w m xs:=by
 obtain ⟨v,e,ho⟩:=h
 exact ⟨v,e,ho.mono hB⟩
theorem lentRule_any (k R : Int) (va : Option Addr) (vn vc : Nat) (T : List Int) (w : World) (h : IntsAt w (.slice va vn vc) T) (hl : T.length ≤ 17592186044414) :
 Calls Tryz.prog 11 #[.agg #[.int .i64 k,.int .i64 R,.slice va vn vc]] w (Ret1 (fun x w' => ∃ a n c,x = .agg #[.int .i64 k,.int .i64 R,.slice a n c] ∧ LentI w.heap.size w' (.slice a n c) T) w):=by
 have b0:=Below.step (belowAlloc w (.cells #[.int .i64 k,.int .i64 R,.slice va vn vc] 24)) (belowAlloc _ (.cells #[.int .i64 0,.int .i64 0,.slice none 0 0] 24))
 have q6 : Box3 ((w.alloc (.cells #[.int .i64 k,.int .i64 R,.slice va vn vc] 24)).alloc (.cells #[.int .i64 0,.int .i64 0,.slice none 0 0] 24)) w.heap.size (.int .i64 k) (.int .i64 R) (.slice va vn vc):=by simp [Box3,go_sem]
 have q7 : Box3 ((w.alloc (.cells #[.int .i64 k,.int .i64 R,.slice va vn vc] 24)).alloc (.cells #[.int .i64 0,.int .i64 0,.slice none 0 0] 24)) (w.heap.size + 1) (.int .i64 0) (.int .i64 0) (.slice none 0 0):=by simp [Box3,go_sem]
 replace h:=Lib.hid (h.below b0)
 go_enter Tryz.func11,Tryz.ntmps11
 go_wp2
 have hWs : w.heap.size + 2 ≤ ((w.alloc (.cells #[.int .i64 k,.int .i64 R,.slice va vn vc] 24)).alloc (.cells #[.int .i64 0,.int .i64 0,.slice none 0 0] 24)).heap.size:=by simp
 obtain ⟨W,hW⟩ : ∃ W : World,W = ((w.alloc (.cells #[.int .i64 k,.int .i64 R,.slice va vn vc] 24)).alloc (.cells #[.int .i64 0,.int .i64 0,.slice none 0 0] 24)):=⟨_,rfl⟩
 rw [← hW] at b0 q6 q7 h hWs ⊢
 clear hW
 have q6':=q6
 obtain ⟨⟨z0,z1,z2⟩,-,-,-⟩:=q6'
 go_region_held3 (fun w' => w'.cell? ⟨w.heap.size,0,none⟩ = some (.int .i64 k) ∧ w'.cell? ⟨w.heap.size,1,none⟩ = some (.int .i64 R) ∧ w'.cell? ⟨w.heap.size,2,none⟩ = some (.slice va vn vc)) (first | exact ⟨z0,z1,z2⟩ | exact ⟨s0,s1,s2⟩ | (simp [s0,s1,s2,World.cell?_setCell_far]; done))
  (first | (go_at_call 32; refine (lent_any (.slice va vn vc) T _ ?_ hl).mono ?_
            ·exact h.out.drew
            rintro e w1 ⟨x,rfl,b1,hx⟩
            have b1' : Below W.heap.size W w1:=(Below.refl W.heap.size W).drew.trans b1
            obtain ⟨a,n,c,rfl⟩:=hx.at.shape
            have s0:=cell_keep b1' z0
            have s1:=cell_keep b1' z1
            have s2:=cell_keep b1' z2
            have q7n:=q7.below b1'
            obtain ⟨⟨y0,y1,y2⟩,g0,g1,g2⟩:=q7n))
 have hE:=Lib.hid (((hx.setBelow (a:=⟨w.heap.size + 1,0,none⟩) (show w.heap.size + 1 < W.heap.size by omega) (.int .i64 k)).setBelow (a:=⟨w.heap.size + 1,1,none⟩) (show w.heap.size + 1 < W.heap.size by omega) (.int .i64 R)).setBelow (a:=⟨w.heap.size + 1,2,none⟩) (show w.heap.size + 1 < W.heap.size by omega) (.slice a n c))
 have hBf:=Lib.hid (below_set3 (Below.stepL b0 b1') (Nat.le_succ w.heap.size) (.int .i64 k) (.int .i64 R) (.slice a n c))
 clear hx b1 b1'
 go_wp2
 exact bodyPost_ret (v:=.agg #[.int .i64 k,.int .i64 R,.slice a n c]) (by simp [results,Tryz.results11,go_sem,y0,y1,y2]) rfl ⟨_,rfl,hBf.out,a,n,c,rfl,hE.out.mono (show w.heap.size ≤ W.heap.size by omega)⟩
/-- edenraw.KeptRule at a lent rule. -/
theorem keptRule_any (B : Nat) (k R : Int) (a : Option Addr) (n c : Nat) (va : Option Addr) (vn vc : Nat) (T : List Int) (w : World) (h : LentI B w (.slice a n c) T) (h' : IntsAt w (.slice va vn vc) T) (hl : T.length ≤ 17592186044414) :
 Calls Tryz.prog 18 #[.agg #[.int .i64 k,.int .i64 R,.slice a n c],.agg #[.int .i64 k,.int .i64 R,.slice va vn vc]] w (Ret1 (fun x _ => x = .bool true) w):=by
 have b0:=Below.step (belowAlloc w (.cells #[.int .i64 k,.int .i64 R,.slice a n c] 24)) (belowAlloc _ (.cells #[.int .i64 k,.int .i64 R,.slice va vn vc] 24))
 replace h:=Lib.hid (h.below b0)
 replace h':=Lib.hid (h'.below b0)
 have e1 : (k == k) = true:=by simp
 have e2 : (R == R) = true:=by simp
 go_enter Tryz.func18,Tryz.ntmps18
 go_wp2_with fail
 refine (kept_any B _ _ T _ h.out h'.out hl).mono ?_
 rintro e w1 h1
 obtain ⟨rfl,b1⟩:=h1.below
 have hB:=Lib.hid (Below.step b0 b1)
 clear h1
 go_wp2
 go_ret
 exact ⟨_,rfl,hB.out,rfl⟩
end Go.Proofs.YtjiadfblphdchaaGreatDoor
namespace Go.Proofs.YtjiadfblphdchaaGreatDoor
open Go.RowKit
set_option maxRecDepth 100000
/-- Three cells of a box are stored. -/
abbrev st3 (w : World) (b : Nat) (x y z : Value) : World:=((w.setCell ⟨b,0,none⟩ x).setCell ⟨b,1,none⟩ y).setCell ⟨b,2,none⟩ z
theorem cell_far {w : World} {b i : Nat} {a : Addr} (h : a.block ≠ b) (u : Value) : (w.setCell ⟨b,i,none⟩ u).cell? a = w.cell? a :=
 World.cell?_setCell_other _ _ _ _ (by intro e; rw [← e] at h; exact h rfl)
theorem ErrAt.set {r : Nat → Addr} {w : World} {n : Int} {b i : Nat} (hs : ∀ s,w.cell? ⟨b,0,none⟩ ≠ some (.string s)) (u : Value) :
 ∀ {l : List (ByteArray × Int)} {v : Value},ErrAt r w n l v → ErrAt r (w.setCell ⟨b,i,none⟩ u) n l v
 | [],_,h => h
 | (op,at_) :: rest,v,⟨p,u',e,c0,c1,c2,h⟩ => by
  have hp : p ≠ b:=by rintro rfl; exact hs _ c0
  exact ⟨p,u',e,by rw [cell_far hp]; exact c0,by rw [cell_far hp]; exact c1,by rw [cell_far hp]; exact c2,ErrAt.set hs u h⟩
theorem ErrIs.set {r : Nat → Addr} {w : World} {t : PErr} {v : Value} {b i : Nat} (h : ErrIs r w t v) (hs : ∀ s,w.cell? ⟨b,0,none⟩ ≠ some (.string s)) (u : Value) : ErrIs r (w.setCell ⟨b,i,none⟩ u) t v:=by
 match t,h with
 | none,h => exact h
 | some (n,l),h => exact ErrAt.set hs u h
theorem Box3.st3 {w : World} {b : Nat} {x0 x1 x2 : Value} (h : Box3 w b x0 x1 x2) (x y z : Value) : Box3 (st3 w b x y z) b x y z:=by
 obtain ⟨⟨h0,h1,h2⟩,f0,f1,f2⟩:=h
 have e0 : (w.cell? ⟨b,0,none⟩).isSome = true:=by rw [h0]; rfl
 have e1 : (w.cell? ⟨b,1,none⟩).isSome = true:=by rw [h1]; rfl
 have e2 : (w.cell? ⟨b,2,none⟩).isSome = true:=by rw [h2]; rfl
 have n10 : (⟨b,1,none⟩ : Addr) ≠ ⟨b,0,none⟩:=by simp
 have n20 : (⟨b,2,none⟩ : Addr) ≠ ⟨b,0,none⟩:=by simp
 have n21 : (⟨b,2,none⟩ : Addr) ≠ ⟨b,1,none⟩:=by simp
 refine ⟨⟨?_,?_,?_⟩,?_,?_,?_⟩
 ·rw [World.cell?_setCell_other _ _ _ _ n20,World.cell?_setCell_other _ _ _ _ n10,World.cell?_setCell_same' _ _ _ e0]
 ·rw [World.cell?_setCell_other _ _ _ _ n21]
  exact World.cell?_setCell_same' _ _ _ (by rw [World.cell?_setCell_other _ _ _ _ n10.symm]; exact e1)
 ·exact World.cell?_setCell_same' _ _ _ (by rw [World.cell?_setCell_other _ _ _ _ n21.symm,World.cell?_setCell_other _ _ _ _ n20.symm]; exact e2)
 all_goals simpa [Go.Proofs.YtjiadfblphdchaaGreatDoor.st3,go_sem]
theorem Box3.st3_far {w : World} {b b' : Nat} {x0 x1 x2 : Value} (h : Box3 w b x0 x1 x2) (hne : b' ≠ b) (x y z : Value) : Box3 (Go.Proofs.YtjiadfblphdchaaGreatDoor.st3 w b' x y z) b x0 x1 x2 :=
 ((h.far hne 0 x).far hne 1 y).far hne 2 z
theorem ErrIs.st3 {r : Nat → Addr} {w : World} {t : PErr} {v : Value} {b : Nat} {x0 x1 x2 : Value} (h : ErrIs r w t v) (hb : Box3 w b x0 x1 x2) (h0 : ∀ s,x0 ≠ .string s) (x y z : Value) (hx : ∀ s,x ≠ .string s) : ErrIs r (Go.Proofs.YtjiadfblphdchaaGreatDoor.st3 w b x y z) t v:=by
 obtain ⟨⟨k0,k1,k2⟩,-,-,-⟩:=hb
 have a1 : ∀ s,(w.setCell ⟨b,0,none⟩ x).cell? ⟨b,0,none⟩ ≠ some (.string s):=fun s e => by
  rw [World.cell?_setCell_same' _ _ _ (by rw [k0]; rfl)] at e
  exact hx s (Option.some.inj e)
 have a2 : ∀ s,((w.setCell ⟨b,0,none⟩ x).setCell ⟨b,1,none⟩ y).cell? ⟨b,0,none⟩ ≠ some (.string s):=fun s e => by
  rw [World.cell?_setCell_other _ _ _ _ (by simp)] at e
  exact a1 s e
 exact ((h.set (i:=0) (fun s e => h0 s (Option.some.inj (k0.symm.trans e))) x).set (i:=1) a1 y).set (i:=2) a2 z
theorem below_st3 {B b : Nat} {w0 w : World} (h : Below B w0 w) (hb : B ≤ b) (x y z : Value) : Below B w0 (Go.Proofs.YtjiadfblphdchaaGreatDoor.st3 w b x y z):=below_set3 h hb x y z
theorem Glob.st3 {r : Nat → Addr} {w0 w : World} (h : Glob r w0) (hb : Below w0.heap.size w0 w) {b : Nat} (hB : w0.heap.size ≤ b) (x y z : Value) : Glob r (Go.Proofs.YtjiadfblphdchaaGreatDoor.st3 w b x y z):=h.below (below_st3 hb hB x y z)
end Go.Proofs.YtjiadfblphdchaaGreatDoor
namespace Go.Proofs.YtjiadfblphdchaaGreatDoor
open Go.RowKit
set_option maxRecDepth 100000
/-- Two new rows, made by one call. -/
theorem Rows.add2 {B : Nat} {w w' : World} {f : Names} {i j : Nat × Nat} {r' s' : Row} (h : Rows B w f) (hb : Below w.heap.size w w') (ho : r'.own B w') (hn : ∀ k,r'.v.ownBlock = some k → w.heap.size ≤ k) (ho2 : s'.own B w') (hn2 : ∀ k,s'.v.ownBlock = some k → w.heap.size ≤ k)
 (hne : r'.v.ownBlock = Option.none ∨ r'.v.ownBlock ≠ s'.v.ownBlock) (hij : i ≠ j) : Rows B w' (upd (upd f i (some r')) j (some s')):=by
 have h1:=h.add (i:=i) hb ho hn
 have far : ∀ k t,upd f i (some r') k = some t → k ≠ j → t.v.ownBlock = Option.none ∨ t.v.ownBlock ≠ s'.v.ownBlock:=fun k t hk hkj => by
  by_cases e : k = i
  ·subst e
   rw [upd_same] at hk; cases hk
   exact hne
  ·rw [upd_ne _ _ e] at hk
   cases hs : t.v.ownBlock with
   | none => exact .inl rfl
   | some m =>
    right; intro e2
    have:=hn2 m e2.symm
    have:=(h.lt hk m hs).2
    omega
 refine ⟨fun k t hk => ?_,fun k l s t hk hl hkl => ?_⟩
 ·by_cases e : k = j
  ·subst e; rw [upd_same] at hk; cases hk; exact ho2
  ·rw [upd_ne _ _ e] at hk
   exact h1.1 k t hk
 ·by_cases e : k = j
  ·subst e
   rw [upd_same] at hk; cases hk
   rw [upd_ne _ _ (Ne.symm hkl)] at hl
   rcases far l t hl (Ne.symm hkl) with e2 | e2
   ·cases hr : s'.v.ownBlock with
    | none => exact .inl rfl
    | some m => right; rw [e2]; simp
   ·exact .inr (Ne.symm e2)
  ·rw [upd_ne _ _ e] at hk
   by_cases e' : l = j
   ·subst e'; rw [upd_same] at hl; cases hl
    exact far k s hk e
   ·rw [upd_ne _ _ e'] at hl
    exact h1.2 k l s t hk hl hkl
theorem Rows.addE {B : Nat} {w w' : World} {f : Names} (i : Nat × Nat) {r' : Row} (h : Rows B w f) (hb : Below w.heap.size w w') (ho : r'.own B w') (hn : ∀ k,r'.v.ownBlock = some k → w.heap.size ≤ k) :
 ∃ f',Rows B w' f' ∧ f' i = some r' ∧ ∀ j,j ≠ i → f' j = f j :=
 ⟨_,h.add (i:=i) hb ho hn,upd_same _ _ _,fun _ e => upd_ne _ _ e⟩
theorem Rows.add2E {B : Nat} {w w' : World} {f : Names} (i j : Nat × Nat) (hij : i ≠ j) {r' s' : Row} (h : Rows B w f) (hb : Below w.heap.size w w') (ho : r'.own B w') (hn : ∀ k,r'.v.ownBlock = some k → w.heap.size ≤ k) (ho2 : s'.own B w') (hn2 : ∀ k,s'.v.ownBlock = some k → w.heap.size ≤ k)
 (hne : r'.v.ownBlock = Option.none ∨ r'.v.ownBlock ≠ s'.v.ownBlock) : ∃ f',Rows B w' f' ∧ f' i = some r' ∧ f' j = some s' ∧ ∀ k,k ≠ i → k ≠ j → f' k = f k :=
 ⟨_,h.add2 hb ho hn ho2 hn2 hne hij,by rw [upd_ne _ _ hij,upd_same],upd_same _ _ _,fun k e1 e2 => by rw [upd_ne _ _ e2,upd_ne _ _ e1]⟩
/-- A row is given up: whatever is done in its block. -/
theorem Rows.lose {B : Nat} {w w' : World} {f : Names} {i : Nat × Nat} {r : Row} (h : Rows B w f) (hi : f i = some r) (hg : w.grownBy w' r.v.ownBlock) : ∃ f',Rows B w' f' ∧ ∀ j,j ≠ i → f' j = f j :=
 ⟨upd f i Option.none,⟨fun j s hj => by
   by_cases e : j = i
   ·subst e; rw [upd_same] at hj; cases hj
   ·rw [upd_ne _ _ e] at hj
    exact World.ownsRow.kept (h.1 j s hj) hg (h.2 j i s r hj hi e),(h.drop i).2⟩,fun _ e => upd_ne _ _ e⟩
/-- A struct of four cells in a block of its own. -/
abbrev box4 (T : TypeId) (g : Nat) (cs : List Value) : Row:=⟨T,4,.slice (some ⟨g,0,none⟩) 1 1,1,cs⟩
theorem Rows.box4 {B : Nat} {w : World} {f : Names} (i : Nat × Nat) (h : Rows B w f) (hB : B ≤ w.heap.size) (T : TypeId) (a b c d : Value) :
 ∃ f',Rows B (w.alloc (.cells #[a,b,c,d] T)) f' ∧ f' i = some (Go.Proofs.YtjiadfblphdchaaGreatDoor.box4 T w.heap.size [a,b,c,d]) ∧ ∀ j,j ≠ i → f' j = f j :=
 h.addE i (r':=Go.Proofs.YtjiadfblphdchaaGreatDoor.box4 T w.heap.size [a,b,c,d]) (belowAlloc w _) (World.ownsRow_lit (base:=B) (e:=T) (size:=4) w #[a,b,c,d] 1 hB (by decide) rfl) (fun k hk => by cases hk; exact Nat.le_refl _)
/-- A struct's cells. -/
structure Cells4 (w : World) (g : Nat) (a b c d : Value) : Prop where
 c0 : w.cell? ⟨g,0,none⟩ = some a
 c1 : w.cell? ⟨g,1,none⟩ = some b
 c2 : w.cell? ⟨g,2,none⟩ = some c
 c3 : w.cell? ⟨g,3,none⟩ = some d
theorem Cells4.below {w w' : World} {g : Nat} {a b c d : Value} (h : Cells4 w g a b c d) (hb : Below w.heap.size w w') : Cells4 w' g a b c d:=by
 have k : ∀ {i x},w.cell? ⟨g,i,none⟩ = some x → w'.cell? ⟨g,i,none⟩ = some x:=fun {i x} hc => by
  rw [hb.cell (World.block_lt_of_cell? _ _ hc)]; exact hc
 exact ⟨k h.c0,k h.c1,k h.c2,k h.c3⟩
theorem Cells4.belowB {B : Nat} {w w' : World} {g : Nat} {a b c d : Value} (h : Cells4 w g a b c d) (hb : Below B w w') (hg : g < B) : Cells4 w' g a b c d:=by
 have k : ∀ {i x},w.cell? ⟨g,i,none⟩ = some x → w'.cell? ⟨g,i,none⟩ = some x:=fun {i x} hc => by
  rw [hb.cell hg]; exact hc
 exact ⟨k h.c0,k h.c1,k h.c2,k h.c3⟩
theorem Cells4.alloc (w : World) (T : TypeId) (a b c d : Value) : Cells4 (w.alloc (.cells #[a,b,c,d] T)) w.heap.size a b c d:=by
 refine ⟨?_,?_,?_,?_⟩ <;> simp [go_sem]
theorem Rows.cells4 {B : Nat} {w : World} {f : Names} {i : Nat × Nat} {T : TypeId} {g : Nat} {a b c d : Value} (h : Rows B w f) (hi : f i = some (Go.Proofs.YtjiadfblphdchaaGreatDoor.box4 T g [a,b,c,d])) : Cells4 w g a b c d :=
 ⟨h.cell hi (g:=g) (cap:=1) rfl 0 (show 0 < 1 * 4 by decide),h.cell hi (g:=g) (cap:=1) rfl 1 (show 1 < 1 * 4 by decide),h.cell hi (g:=g) (cap:=1) rfl 2 (show 2 < 1 * 4 by decide),h.cell hi (g:=g) (cap:=1) rfl 3 (show 3 < 1 * 4 by decide)⟩
theorem Rows.frz4 {B : Nat} {w : World} {f : Names} {i : Nat × Nat} {T : TypeId} {g : Nat} {cs : List Value} (h : Rows B w f) (hi : f i = some (Go.Proofs.YtjiadfblphdchaaGreatDoor.box4 T g cs)) (k : Nat) : w.frozen? ⟨g,k,none⟩ = false :=
 h.frozen hi (g:=g) (cap:=1) rfl k
theorem Rows.low4 {B : Nat} {w : World} {f : Names} {i : Nat × Nat} {T : TypeId} {g : Nat} {cs : List Value} (h : Rows B w f) (hi : f i = some (Go.Proofs.YtjiadfblphdchaaGreatDoor.box4 T g cs)) : B ≤ g ∧ g < w.heap.size :=
 h.lt hi g rfl
theorem Rows.st4 {B : Nat} {w : World} {f : Names} {i : Nat × Nat} {T : TypeId} {g : Nat} {cs : List Value} (h : Rows B w f) (hi : f i = some (Go.Proofs.YtjiadfblphdchaaGreatDoor.box4 T g cs)) (k : Nat) (y : Value) :
 ∃ f',Rows B (w.setCell ⟨g,k,none⟩ y) f' ∧ f' i = some (Go.Proofs.YtjiadfblphdchaaGreatDoor.box4 T g (cs.set k y)) ∧ ∀ j,j ≠ i → f' j = f j :=
 ⟨_,h.set hi (g:=g) (cap:=1) rfl k y,upd_same _ _ _,fun _ e => upd_ne _ _ e⟩
theorem Rows.all4 {B : Nat} {w : World} {f : Names} {i : Nat × Nat} {T : TypeId} {g : Nat} {x0 x1 x2 x3 : Value} (h : Rows B w f) (hi : f i = some (Go.Proofs.YtjiadfblphdchaaGreatDoor.box4 T g [x0,x1,x2,x3])) (a b c d : Value) :
 ∃ f',Rows B ((((w.setCell ⟨g,0,none⟩ a).setCell ⟨g,1,none⟩ b).setCell ⟨g,2,none⟩ c).setCell ⟨g,3,none⟩ d) f' ∧ f' i = some (Go.Proofs.YtjiadfblphdchaaGreatDoor.box4 T g [a,b,c,d]) ∧ ∀ j,j ≠ i → f' j = f j:=by
 obtain ⟨f1,h1,i1,o1⟩:=h.st4 hi 0 a
 obtain ⟨f2,h2,i2,o2⟩:=h1.st4 i1 1 b
 obtain ⟨f3,h3,i3,o3⟩:=h2.st4 i2 2 c
 obtain ⟨f4,h4,i4,o4⟩:=h3.st4 i3 3 d
 exact ⟨f4,h4,i4,fun j e => by rw [o4 j e,o3 j e,o2 j e,o1 j e]⟩
theorem Below.all4 {B g : Nat} {w0 w : World} (h : Below B w0 w) (hb : B ≤ g) (a b c d : Value) : Below B w0 ((((w.setCell ⟨g,0,none⟩ a).setCell ⟨g,1,none⟩ b).setCell ⟨g,2,none⟩ c).setCell ⟨g,3,none⟩ d) :=
 (((h.setCell (show B ≤ (⟨g,0,Option.none⟩ : Addr).block from hb) _).setCell (show B ≤ (⟨g,1,Option.none⟩ : Addr).block from hb) _).setCell (show B ≤ (⟨g,2,Option.none⟩ : Addr).block from hb) _).setCell (show B ≤ (⟨g,3,Option.none⟩ : Addr).block from hb) _
/-- Rows of a callee's beside one's own: those names that p chooses. -/
theorem Rows.merge {B : Nat} {w w' : World} {f g : Names} (p : Nat × Nat → Bool) (h : Rows B w f) (hb : Below w.heap.size w w') (hg : Rows w.heap.size w' g) (hB : B ≤ w.heap.size) : ∃ f',Rows B w' f' ∧ (∀ i,p i = true → f' i = g i) ∧ ∀ i,p i = false → f' i = f i:=by
 have hf:=h.below hb
 refine ⟨fun i => if p i = true then g i else f i,⟨fun i r hi => ?_,fun i j r s hi hj hne => ?_⟩,fun i hi => by simp [hi],fun i hi => by simp [hi]⟩
 ·dsimp only at hi
  split at hi
  ·have ho:=hg.1 i r hi
   refine ⟨ho.1,?_⟩
   rcases ho.2 with h2 | ⟨b,cap,cur,e,hB',rest⟩
   ·exact .inl h2
   ·exact .inr ⟨b,cap,cur,e,Nat.le_trans hB hB',rest⟩
  ·exact hf.1 i r hi
 ·dsimp only at hi hj
  have far : ∀ (k l : Nat × Nat) (r s : Row),f k = some r → g l = some s → r.v.ownBlock = Option.none ∨ r.v.ownBlock ≠ s.v.ownBlock:=fun k l r s hk hl => by
   cases hr : r.v.ownBlock with
   | none => exact .inl rfl
   | some m =>
    right
    intro e
    have h1:=(h.lt hk m hr).2
    have h2:=(hg.lt hl m e.symm).1
    omega
  split at hi
  ·split at hj
   ·exact hg.2 i j r s hi hj hne
   ·rcases far j i s r hj hi with e | e
    ·cases hr : r.v.ownBlock with
     | none => exact .inl rfl
     | some m => right; rw [e]; simp
    ·exact .inr (Ne.symm e)
  ·split at hj
   ·exact far i j r s hi hj
   ·exact hf.2 i j r s hi hj hne
theorem ErrIs.all4 {r : Nat → Addr} {w : World} {t : PErr} {v : Value} {g : Nat} {n : Int} {b c d : Value} (h : ErrIs r w t v) (hc : Cells4 w g (.int .i64 n) b c d) (x y z : Value) :
 ErrIs r ((((w.setCell ⟨g,0,none⟩ (.int .i64 0)).setCell ⟨g,1,none⟩ x).setCell ⟨g,2,none⟩ y).setCell ⟨g,3,none⟩ z) t v:=by
 have k1 : (w.setCell ⟨g,0,none⟩ (.int .i64 0)).cell? ⟨g,0,none⟩ = some (.int .i64 0):=World.cell?_setCell_same _ _ _ hc.c0
 have k2 : ((w.setCell ⟨g,0,none⟩ (.int .i64 0)).setCell ⟨g,1,none⟩ x).cell? ⟨g,0,none⟩ = some (.int .i64 0):=by
  rw [World.cell?_setCell_other _ _ _ _ (by intro e; cases e)]; exact k1
 have k3 : (((w.setCell ⟨g,0,none⟩ (.int .i64 0)).setCell ⟨g,1,none⟩ x).setCell ⟨g,2,none⟩ y).cell? ⟨g,0,none⟩ = some (.int .i64 0):=by
  rw [World.cell?_setCell_other _ _ _ _ (by intro e; cases e)]; exact k2
 exact (((h.set (b:=g) (i:=0) (fun s e => by rw [hc.c0] at e; cases e) _).set (b:=g) (i:=1) (fun s e => by rw [k1] at e; cases e) _).set (b:=g) (i:=2) (fun s e => by rw [k2] at e; cases e) _).set (b:=g) (i:=3) (fun s e => by rw [k3] at e; cases e) _
end Go.Proofs.YtjiadfblphdchaaGreatDoor
namespace Go.Proofs.YtjiadfblphdchaaGreatDoor
open Go.RowKit
set_option maxRecDepth 100000
end Go.Proofs.YtjiadfblphdchaaGreatDoor
