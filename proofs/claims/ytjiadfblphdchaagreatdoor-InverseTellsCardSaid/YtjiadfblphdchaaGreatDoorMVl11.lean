/-
  Walks: edenref05.wide, Widen at a rule, edenref13.Working, edenref08.Count.
  Walk: edenref13.All: the graph of pairs of a working rule.
  Walks: edenref13.Odd, Graph, Apart.
  Walks: edenref04.Power, Digits, Value at up to twelve symbols; edenref06.Image.
  Walk: edenref20.taken: the table of an inverse of one radius, word by word.
  Plain mathematics of layers 7 and 15: a row's fault, that of two words that are no twins.
  Walks: edenref07.At, Piece, after, Image, Equal, Check.
  Walks: edenref07.Equal, Check, edenref14.Witness at rows that are right.
  pairs.Graph, pairs.Apart, edenref13.Graph, edenref13.Apart at any rule: one name for what both answer.
  Walks: edenref14.Witness at a witness, edenref14.One, edenlaw14.none.
-/
import Derived.Test.YtjiadfblphdchaaGreatDoorMVl10
namespace Go.Proofs.YtjiadfblphdchaaGreatDoor
open Go.RowKit
set_option maxRecDepth 100000
theorem words05 (k m : Int) (K n : Nat) (w : World) (hk : k = K) (hm : m = n) (h1 : 1 ≤ K) (h4 : K ≤ 4) (hn : n ≤ 7) :
 Calls Tryz.prog 179 #[.int .i64 k,.int .i64 m] w fun e w' => e = .returned (.int .i64 (pw K n)) ∧ w = w':=by
 have hp:=ref_power k m K n w hk hm h1 h4 hn
 clear hk hm
 replace hp:=Lib.hid hp
 go_enter Tryz.func179,Tryz.ntmps179
 go_wp2_with fail
 refine hp.out.mono ?_
 rintro e w1 ⟨rfl,rfl⟩
 go_wp2
 go_ret
 exact ⟨rfl,rfl⟩
set_option maxHeartbeats 4000000 in
theorem ref_wide (K R d : Nat) (va : Option Addr) (vn vc : Nat) (T : List Int) (w : World) (h : IntsAt w (.slice va vn vc) T) (hr : RuleOk K R T) (hd : R + d ≤ 3) (RR : Int) (hRR : RR = ((R + d : Nat) : Int)) :
 Calls Tryz.prog 165 #[.agg #[.int .i64 K,.int .i64 R,.slice va vn vc],.int .i64 RR] w (Ret1 (fun x w' => ∃ a n c,x = .agg #[.int .i64 K,.int .i64 RR,.slice a n c] ∧ OwnI w.heap.size w' (.slice a n c) (wideT K R d T)) w):=by
 have hk1:=hr.k1
 have hk4:=hr.k4
 have hR3:=hr.r3
 obtain ⟨M,hM⟩ : ∃ M,pw K (2 * (R + d) + 1) = M:=⟨_,rfl⟩
 have hM2 : M ≤ 16384:=by rw [← hM]; exact pw_le hk1 hk4 (by omega)
 have b0 : Below w.heap.size w (((w.alloc (.cells #[.int .i64 K,.int .i64 R,.slice va vn vc] 24)).alloc (.cells #[.int .i64 0,.int .i64 0,.slice none 0 0] 24)).alloc (.cells #[.int .i64 K,.int .i64 RR,.slice none 0 0] 24)):=Below.step (belowAlloc w (.cells #[.int .i64 K,.int .i64 R,.slice va vn vc] 24)) (Below.step (belowAlloc _ (.cells #[.int .i64 0,.int .i64 0,.slice none 0 0] 24)) (belowAlloc _ (.cells #[.int .i64 K,.int .i64 RR,.slice none 0 0] 24)))
 have qr : Box3 (((w.alloc (.cells #[.int .i64 K,.int .i64 R,.slice va vn vc] 24)).alloc (.cells #[.int .i64 0,.int .i64 0,.slice none 0 0] 24)).alloc (.cells #[.int .i64 K,.int .i64 RR,.slice none 0 0] 24)) w.heap.size (.int .i64 K) (.int .i64 R) (.slice va vn vc):=by simp [Box3,go_sem]
 have qz : Box3 (((w.alloc (.cells #[.int .i64 K,.int .i64 R,.slice va vn vc] 24)).alloc (.cells #[.int .i64 0,.int .i64 0,.slice none 0 0] 24)).alloc (.cells #[.int .i64 K,.int .i64 RR,.slice none 0 0] 24)) (w.heap.size + 1) (.int .i64 0) (.int .i64 0) (.slice none 0 0):=by simp [Box3,go_sem]
 have qo : Box3 (((w.alloc (.cells #[.int .i64 K,.int .i64 R,.slice va vn vc] 24)).alloc (.cells #[.int .i64 0,.int .i64 0,.slice none 0 0] 24)).alloc (.cells #[.int .i64 K,.int .i64 RR,.slice none 0 0] 24)) (w.heap.size + 2) (.int .i64 K) (.int .i64 RR) (.slice none 0 0):=by simp [Box3,go_sem]
 have s0 : (((w.alloc (.cells #[.int .i64 K,.int .i64 R,.slice va vn vc] 24)).alloc (.cells #[.int .i64 0,.int .i64 0,.slice none 0 0] 24)).alloc (.cells #[.int .i64 K,.int .i64 RR,.slice none 0 0] 24)).heap.size = w.heap.size + 3:=by simp
 have hlow : ∀ j,j < T.length → (valAt (.slice va vn vc) j).block < w.heap.size:=fun j hj => World.block_lt_of_cell? _ _ (h.cellD j hj)
 obtain ⟨W0,hW0⟩ : ∃ W : World,(((w.alloc (.cells #[.int .i64 K,.int .i64 R,.slice va vn vc] 24)).alloc (.cells #[.int .i64 0,.int .i64 0,.slice none 0 0] 24)).alloc (.cells #[.int .i64 K,.int .i64 RR,.slice none 0 0] 24)) = W:=⟨_,rfl⟩
 have h0:=h.below b0
 rw [hW0] at b0 qr qz qo s0 h0
 replace h:=Lib.hid h
 replace hr:=Lib.hid hr
 replace hM:=Lib.hid hM
 replace s0:=Lib.hid s0
 replace hlow:=Lib.hid hlow
 replace hW0:=Lib.hid hW0
 have hRR2:=Lib.hid hRR
 have hwn : 2 * RR + 1 = ((2 * (R + d) + 1 : Nat) : Int):=by omega
 have hdd : RR - (R : Int) = (d : Int):=by omega
 replace hwn:=Lib.hid hwn
 have e1 : 0 ≤ RR:=by omega
 have e2 : RR ≤ 3:=by omega
 clear hRR
 go_enter Tryz.func165,Tryz.ntmps165
 go_upto_region 2 with fail
 rw [hW0.out]
 have qr0:=qr
 obtain ⟨⟨z0,z1,z2⟩,-,-,-⟩:=qr0
 go_wp2_with fail
 clear hW0 z0 z1 z2
 go_loopw [7] (fun iv wr => ∃ i : Nat,i ≤ M ∧ iv = .int .i64 i ∧ (∃ oa on oc,OwnI (w.heap.size + 3) wr (.slice oa on oc) ((wideT K R d T).take i) ∧ Box3 wr (w.heap.size + 2) (.int .i64 K) (.int .i64 RR) (.slice oa on oc)) ∧ Box3 wr (w.heap.size + 1) (.int .i64 0) (.int .i64 0) (.slice none 0 0) ∧ Box3 wr w.heap.size (.int .i64 K) (.int .i64 R) (.slice va vn vc) ∧ Below w.heap.size w wr ∧ w.heap.size + 3 ≤ wr.heap.size) (fun iv _ => M - (intOf iv).toNat)
 case atStart => exact ⟨0,by omega,rfl,⟨none,0,0,OwnI.nil _ _,qo⟩,qz,qr,b0,by rw [s0.out]; omega⟩
 case round =>
  clear qo qz qr b0 h0
  obtain ⟨i,hi,rfl,⟨oa,on,oc,hO,qo⟩,qz,qr,hB,hBs⟩:=hrel
  obtain ⟨wo,rfl⟩ : ∃ wo : World,wo = wr:=⟨_,rfl⟩
  have qr0:=qr
  obtain ⟨⟨z0,z1,z2⟩,-,-,-⟩:=qr0
  have hwd:=words05 K (2 * RR + 1) K (2 * (R + d) + 1) wo rfl hwn.out hk1 hk4 (by omega)
  rw [hM.out] at hwd
  have hdg:=fun (j : Int) (hj : j = (i : Int)) (hi : i < M) => ref_digits K (2 * RR + 1) j K (2 * (R + d) + 1) i wo rfl hwn.out hj hk1 hk4 (by omega) (by omega)
  replace hwd:=Lib.hid hwd
  replace hdg:=Lib.hid hdg
  replace qo:=Lib.hid qo
  replace qz:=Lib.hid qz
  replace qr:=Lib.hid qr
  replace hO:=Lib.hid hO
  go_wp2_with fail
  refine hwd.out.mono ?_
  rintro e w1 ⟨rfl,rfl⟩
  by_cases hlt : i < M
  ·have dlt : decide ((i : Int) < (M : Int)) = true:=decide_eq_true (by omega)
   go_wp2_with fail
   refine (hdg.out _ rfl hlt).mono ?_
   rintro e w1 ⟨x,rfl,b1,hx⟩
   obtain ⟨W,hW⟩ : ∃ W : World,w1.drew = W:=⟨_,rfl⟩
   have bW : Below wo.heap.size wo W:=by rw [← hW]; exact b1.drew
   have hBW : Below w.heap.size w W:=hB.trans (bW.mono hB.size)
   have qoW:=qo.out.below bW
   have qzW:=qz.out.below bW
   have qrW:=qr.out.below bW
   have hOW:=hO.out.below bW
   have sW : w.heap.size + 3 ≤ W.heap.size:=Nat.le_trans hBs bW.size
   have hdl : (digs K (2 * (R + d) + 1) i).length = 2 * (R + d) + 1:=digs_length _ _ _
   have hxW : IntsAt W x (digs K (2 * (R + d) + 1) i):=by rw [← hW]; exact hx.at
   have lX:=hxW.len
   rw [hdl] at lX
   obtain ⟨pv,hsl,hP⟩:=hxW.mid d (2 * (R + d) + 1 - d) (by omega) (by omega)
   have hwin : ((digs K (2 * (R + d) + 1) i).take (2 * (R + d) + 1 - d)).drop d = ((digs K (2 * (R + d) + 1) i).drop d).take (2 * R + 1):=by rw [List.drop_take]; congr 1; omega
   rw [hwin] at hP
   have hwl : (((digs K (2 * (R + d) + 1) i).drop d).take (2 * R + 1)).length = 2 * R + 1:=by rw [List.length_take,List.length_drop]; omega
   have hws : Syms K (((digs K (2 * (R + d) + 1) i).drop d).take (2 * R + 1)):=syms_take (syms_drop (digs_syms hk1 _ _) d) _
   have hnl:=numW_lt _ hws
   rw [hwl,← hr.out.len] at hnl
   have hT:=h.out.below hBW
   have iT:=fun w' => hT.idx _ hnl w'
   have cT:=hT.cellD _ hnl
   have htb:=hlow.out _ hnl
   have hg:=wideT_get (K:=K) (R:=R) (d:=d) (T:=T) (i:=i) (by rw [hM.out]; exact hlt)
   have hwlen : (wideT K R d T).length = M:=by rw [wideT_length]; exact hM.out
   have htk : (wideT K R d T).take (i + 1) = (wideT K R d T).take i ++ [(wideT K R d T).getD i 0]:=by
    rw [List.take_add_one,List.getElem?_eq_getElem (by rw [hwlen]; exact hlt),List.getD_eq_getElem?_getD,List.getElem?_eq_getElem (by rw [hwlen]; exact hlt)]; rfl
   rw [hg] at htk
   have hval:=ref_value K pv _ W hk1 hk4 hP hws (by rw [hwl]; omega)
   obtain ⟨pa,pn,pc,rfl⟩:=hP.shape
   obtain ⟨xa,xn,xc,rfl⟩:=hxW.shape
   have hsl2 : ∀ w',(Instr.slice 22 (.slice xa xn xc) (some (.int .i64 (d : Int))) (some (.int .i64 (((2 * (R + d) + 1 : Nat) : Int) - (d : Int)))) none).run Tryz.prog w' = .ok (.slice pa pn pc) w':=by
    intro w'; have:=hsl w'; rwa [show (((2 * (R + d) + 1 - d : Nat) : Nat) : Int) = ((2 * (R + d) + 1 : Nat) : Int) - (d : Int) by omega] at this
   have hws9 : IntKind.i64.wrap (((2 * (R + d) + 1 : Nat) : Int) - (d : Int)) = ((2 * (R + d) + 1 : Nat) : Int) - (d : Int):=wrapK (by omega) (by omega)
   have hol : ((wideT K R d T).take i).length = i:=by rw [List.length_take,hwlen]; omega
   generalize hn9 : ((2 * (R + d) + 1 : Nat) : Int) = n9 at *
   generalize T.getD (numW K (((digs K (2 * (R + d) + 1) i).drop d).take (2 * R + 1))) 0 = y at *
   generalize numW K (((digs K (2 * (R + d) + 1) i).drop d).take (2 * R + 1)) = N at *
   generalize valAt (.slice va vn vc) N = ta at *
   have hta:=World.block_lt_of_cell? _ _ cT
   have hS : W.cell? ⟨w.heap.size,0,none⟩ = some (.int .i64 K) ∧ W.cell? ⟨w.heap.size,1,none⟩ = some (.int .i64 R) ∧ W.cell? ⟨w.heap.size,2,none⟩ = some (.slice va vn vc) ∧ W.cell? ⟨w.heap.size + 2,2,none⟩ = some (.slice oa on oc) ∧ W.cell? ta = some (.int .i64 y):=⟨qrW.1.1,qrW.1.2.1,qrW.1.2.2,qoW.1.2.2,cT⟩
   have bl:=belowAlloc W (.cells #[.int .i64 y] 3)
   have hlit:=OwnI.lit W.heap.size W (Nat.le_refl _) [y] (by simp [maxLen]) #[.int .i64 y] rfl 1 rfl
   have hOl:=hOW.below bl
   have hBl : w.heap.size + 3 ≤ (W.alloc (.cells #[.int .i64 y] 3)).heap.size:=by simp; omega
   have qol:=qoW.below bl
   have qzl:=qzW.below bl
   have qrl:=qrW.below bl
   have hS1 : (W.alloc (.cells #[.int .i64 y] 3)).cell? ⟨w.heap.size,0,none⟩ = some (.int .i64 K) ∧ (W.alloc (.cells #[.int .i64 y] 3)).cell? ⟨w.heap.size,1,none⟩ = some (.int .i64 R) ∧ (W.alloc (.cells #[.int .i64 y] 3)).cell? ⟨w.heap.size,2,none⟩ = some (.slice va vn vc) ∧ (W.alloc (.cells #[.int .i64 y] 3)).cell? ⟨w.heap.size + 2,2,none⟩ = some (.slice oa on oc) ∧ (W.alloc (.cells #[.int .i64 y] 3)).cell? ta = some (.int .i64 y):=⟨qrl.1.1,qrl.1.2.1,qrl.1.2.2,qol.1.2.2,(bl.cell hta).trans cT⟩
   replace hval:=Lib.hid hval
   replace hT:=Lib.hid hT
   replace hOW:=Lib.hid hOW
   replace hP:=Lib.hid hP
   replace hxW:=Lib.hid hxW
   replace hx:=Lib.hid hx
   replace hws:=Lib.hid hws
   replace hwl:=Lib.hid hwl
   replace hwin:=Lib.hid hwin
   replace hg:=Lib.hid hg
   replace htk:=Lib.hid htk
   replace hol:=Lib.hid hol
   replace hdl:=Lib.hid hdl
   replace hwlen:=Lib.hid hwlen
   replace hW:=Lib.hid hW
   replace hOl:=Lib.hid hOl
   replace hlit:=Lib.hid hlit
   replace qol:=Lib.hid qol
   replace qzl:=Lib.hid qzl
   replace qrl:=Lib.hid qrl
   replace qoW:=Lib.hid qoW
   replace qzW:=Lib.hid qzW
   replace qrW:=Lib.hid qrW
   replace hn9:=Lib.hid hn9
   clear hsl cT z0 z1 z2 hwd hdg
   go_upto_region 7 with fail
   refine wp_region_plan (fun w' => w'.cell? ⟨w.heap.size,0,none⟩ = some (.int .i64 K) ∧ w'.cell? ⟨w.heap.size,1,none⟩ = some (.int .i64 R) ∧ w'.cell? ⟨w.heap.size,2,none⟩ = some (.slice va vn vc) ∧ w'.cell? ⟨w.heap.size + 2,2,none⟩ = some (.slice oa on oc) ∧ w'.cell? ta = some (.int .i64 y)) 19 [(0,true),(1,true),(2,true),(3,true),(4,true),(5,true),(6,true),(7,true),(8,true),(9,true),(10,true),(11,true),(12,true),(13,false),(14,true),(15,true),(16,false),(17,false),(18,true)] (by kernel_rfl) (by kernel_rfl) ?_
   rw [hW.out]
   refine pqY 34 hS ?_
   refine pqY 35 hS ?_
   refine pqY 36 hS ?_
   refine pqY 37 hS ?_
   refine pqY 38 hS ?_
   refine pqY 39 hS ?_
   refine pqY 40 hS ?_
   refine pqY 41 hS ?_
   refine pqY 42 hS ?_
   refine pqY 43 hS ?_
   refine pqY 44 hS ?_
   refine pqY 45 hS ?_
   refine pqY 46 hS ?_
   refine headC rfl (fun KK hK => ?_)
   go_simp
   refine hval.out.mono ?_
   rintro e w5 ⟨rfl,rfl⟩
   refine hK _ _ hS ?_
   clear hK KK
   refine pqY 48 hS ?_
   refine pqY 49 hS ?_
   refine headC rfl (fun KK hK => ?_)
   go_simp
   refine hK _ _ hS1 ?_
   clear hK KK
   refine headC rfl (fun KK hK => ?_)
   refine step_appI rfl _ _ rfl (w.heap.size + 3) (.slice oa on oc) (.slice (some ⟨W.heap.size,0,none⟩) 1 1) _ [y] rfl rfl hOl.out hlit.out.at (by rw [hol.out]; simp; omega) hBl ?_
   intro v9 w9 ho9 b9
   rw [← htk.out] at ho9
   obtain ⟨v9a,v9b,v9c,rfl⟩:=ho9.at.shape
   have s9:=b9.size
   have qo9:=qol.out.belowB b9 (by omega)
   have qz9:=qzl.out.belowB b9 (by omega)
   have qr9:=qrl.out.belowB b9 (by omega)
   have b99 : Below w.heap.size w w9:=(hBW.trans (bl.mono (by omega))).trans (b9.mono (by omega))
   replace ho9:=Lib.hid ho9
   have hS9 : w9.cell? ⟨w.heap.size,0,none⟩ = some (.int .i64 K) ∧ w9.cell? ⟨w.heap.size,1,none⟩ = some (.int .i64 R) ∧ w9.cell? ⟨w.heap.size,2,none⟩ = some (.slice va vn vc) ∧ w9.cell? ⟨w.heap.size + 2,2,none⟩ = some (.slice oa on oc) ∧ w9.cell? ta = some (.int .i64 y):=⟨qr9.1.1,qr9.1.2.1,qr9.1.2.2,qo9.1.2.2,(b9.cell (by omega)).trans hS1.2.2.2.2⟩
   refine hK _ _ hS9 ?_
   clear hK KK
   refine headY (v:=?_) (some 52) rfl rfl (Or.inl ⟨by rfl,?_⟩) hS9 ?_
   rotate_left
   ·rintro W' ⟨s0,s1,s2,s3,s4⟩; go_simp; try with_reducible rfl
   simp only [Act.put,List.setIfInBounds_toArray]
   refine head0 ?_
   simp only [List.drop_succ_cons,List.drop_zero]
   obtain ⟨⟨o0,o1,o2⟩,g0,g1,g2⟩:=qo9
   have qo10 : Box3 (w9.setCell ⟨w.heap.size + 2,2,none⟩ (.slice v9a v9b v9c)) (w.heap.size + 2) (.int .i64 K) (.int .i64 RR) (.slice v9a v9b v9c):=Box3.set2 ⟨⟨o0,o1,o2⟩,g0,g1,g2⟩ _
   have qz10 : Box3 (w9.setCell ⟨w.heap.size + 2,2,none⟩ (.slice v9a v9b v9c)) (w.heap.size + 1) (.int .i64 0) (.int .i64 0) (.slice none 0 0):=qz9.far (by omega) _ _
   have qr10 : Box3 (w9.setCell ⟨w.heap.size + 2,2,none⟩ (.slice v9a v9b v9c)) w.heap.size (.int .i64 K) (.int .i64 R) (.slice va vn vc):=qr9.far (by omega) _ _
   have ho10:=ho9.out.setBelowBase (a:=⟨w.heap.size + 2,2,none⟩) (by simp) (.slice v9a v9b v9c)
   have b10 : Below w.heap.size w (w9.setCell ⟨w.heap.size + 2,2,none⟩ (.slice v9a v9b v9c)):=b99.setCell (show w.heap.size ≤ (⟨w.heap.size + 2,2,none⟩ : Addr).block from Nat.le_add_right _ _) _
   have s10 : w.heap.size + 3 ≤ (w9.setCell ⟨w.heap.size + 2,2,none⟩ (.slice v9a v9b v9c)).heap.size:=by simp [World.setCell]; omega
   replace qo10:=Lib.hid qo10
   replace qz10:=Lib.hid qz10
   replace qr10:=Lib.hid qr10
   replace qz9:=Lib.hid qz9
   replace qr9:=Lib.hid qr9
   replace ho10:=Lib.hid ho10
   clear hS hS1 hS9
   go_wp2
   refine NoPanic.normal ?_
   go_wp2
   go_roundw
   case measure => simp [intOf]; omega
   case rel => exact ⟨i + 1,by omega,by go_num,⟨_,_,_,ho10.out,qo10.out⟩,qz10.out,qr10.out,b10,s10⟩
  ·have dlt : decide ((i : Int) < (M : Int)) = false:=decide_eq_false (by omega)
   have hfin : (wideT K R d T).take i = wideT K R d T:=List.take_of_length_le (by rw [wideT_length,hM.out]; omega)
   have hO':=hO.out
   rw [hfin] at hO'
   have qo0:=qo.out
   have qz0:=qz.out
   obtain ⟨⟨o0,o1,o2⟩,-,-,-⟩:=qo0
   obtain ⟨⟨y0,y1,y2⟩,f0,f1,f2⟩:=qz0
   replace hO':=Lib.hid hO'
   replace hfin:=Lib.hid hfin
   clear z0 z1 z2 hwd hdg
   go_wp2
   refine bodyPost_ret (v:=.agg #[.int .i64 K,.int .i64 RR,.slice oa on oc]) (by simp [results,Tryz.results165,go_sem,y0,y1,y2]) rfl ⟨_,rfl,below_set3 hB (Nat.le_succ _) _ _ _,oa,on,oc,rfl,?_⟩
   exact (((hO'.out.setBelowBase (a:=⟨w.heap.size + 1,0,none⟩) (by simp) _).setBelowBase (a:=⟨w.heap.size + 1,1,none⟩) (by simp) _).setBelowBase (a:=⟨w.heap.size + 1,2,none⟩) (by simp) _).mono (by omega)
set_option maxHeartbeats 2000000 in
theorem ref_widen (K R d : Nat) (va : Option Addr) (vn vc : Nat) (T : List Int) (w : World) (h : IntsAt w (.slice va vn vc) T) (hr : RuleOk K R T) (hd : R + d ≤ 3) (RR : Int) (hRR : RR = ((R + d : Nat) : Int)) :
 Calls Tryz.prog 138 #[.agg #[.int .i64 K,.int .i64 R,.slice va vn vc],.int .i64 RR] w (Ret2 (fun x y w' => y = .agg #[.int .i64 0,.slice none 0 0,.slice none 0 0] ∧ ∃ a n c,x = .agg #[.int .i64 K,.int .i64 RR,.slice a n c] ∧ OwnI w.heap.size w' (.slice a n c) (wideT K R d T)) w):=by
 have b0 : Below w.heap.size w (((w.alloc (.cells #[.int .i64 K,.int .i64 R,.slice va vn vc] 24)).alloc (.cells #[.int .i64 0,.int .i64 0,.slice none 0 0] 24)).alloc (.cells #[.int .i64 0,.slice none 0 0,.slice none 0 0] 37)):=Below.step (belowAlloc w (.cells #[.int .i64 K,.int .i64 R,.slice va vn vc] 24)) (Below.step (belowAlloc _ (.cells #[.int .i64 0,.int .i64 0,.slice none 0 0] 24)) (belowAlloc _ (.cells #[.int .i64 0,.slice none 0 0,.slice none 0 0] 37)))
 have qr : Box3 (((w.alloc (.cells #[.int .i64 K,.int .i64 R,.slice va vn vc] 24)).alloc (.cells #[.int .i64 0,.int .i64 0,.slice none 0 0] 24)).alloc (.cells #[.int .i64 0,.slice none 0 0,.slice none 0 0] 37)) w.heap.size (.int .i64 K) (.int .i64 R) (.slice va vn vc):=by simp [Box3,go_sem]
 have qz : Box3 (((w.alloc (.cells #[.int .i64 K,.int .i64 R,.slice va vn vc] 24)).alloc (.cells #[.int .i64 0,.int .i64 0,.slice none 0 0] 24)).alloc (.cells #[.int .i64 0,.slice none 0 0,.slice none 0 0] 37)) (w.heap.size + 1) (.int .i64 0) (.int .i64 0) (.slice none 0 0):=by simp [Box3,go_sem]
 have qe : Box3 (((w.alloc (.cells #[.int .i64 K,.int .i64 R,.slice va vn vc] 24)).alloc (.cells #[.int .i64 0,.int .i64 0,.slice none 0 0] 24)).alloc (.cells #[.int .i64 0,.slice none 0 0,.slice none 0 0] 37)) (w.heap.size + 2) (.int .i64 0) (.slice none 0 0) (.slice none 0 0):=by simp [Box3,go_sem]
 have s0 : (((w.alloc (.cells #[.int .i64 K,.int .i64 R,.slice va vn vc] 24)).alloc (.cells #[.int .i64 0,.int .i64 0,.slice none 0 0] 24)).alloc (.cells #[.int .i64 0,.slice none 0 0,.slice none 0 0] 37)).heap.size = w.heap.size + 3:=by simp
 have hf:=f05_fault 0 K R va vn vc T (((w.alloc (.cells #[.int .i64 K,.int .i64 R,.slice va vn vc] 24)).alloc (.cells #[.int .i64 0,.int .i64 0,.slice none 0 0] 24)).alloc (.cells #[.int .i64 0,.slice none 0 0,.slice none 0 0] 37)) (h.below b0)
 rw [hr.check] at hf
 have hR3:=hr.r3
 obtain ⟨W0,hW0⟩ : ∃ W : World,(((w.alloc (.cells #[.int .i64 K,.int .i64 R,.slice va vn vc] 24)).alloc (.cells #[.int .i64 0,.int .i64 0,.slice none 0 0] 24)).alloc (.cells #[.int .i64 0,.slice none 0 0,.slice none 0 0] 37)) = W:=⟨_,rfl⟩
 rw [hW0] at b0 qr qz qe s0 hf
 have hwide:=fun (w' : World) (h' : IntsAt w' (.slice va vn vc) T) => ref_wide K R d va vn vc T w' h' hr hd RR hRR
 replace hf:=Lib.hid hf
 replace hwide:=Lib.hid hwide
 replace h:=Lib.hid h
 replace hr:=Lib.hid hr
 replace hW0:=Lib.hid hW0
 have e1 : (R : Int) ≤ RR:=by omega
 have e2 : RR ≤ 3:=by omega
 have e3 : decide (RR < (R : Int)) = false:=decide_eq_false (by omega)
 have e4 : decide ((3 : Int) < RR) = false:=decide_eq_false (by omega)
 clear hRR
 have qr0:=qr
 obtain ⟨⟨z0,z1,z2⟩,-,-,-⟩:=qr0
 go_enter Tryz.func138,Tryz.ntmps138
 go_upto_region 1 with fail
 rw [hW0.out]
 go_wp2_with fail
 refine hf.out.mono ?_
 rintro e w1 ⟨x,rfl,b1,he⟩
 obtain rfl : x = .agg #[.int .i64 0,.slice none 0 0,.slice none 0 0]:=he
 obtain ⟨be,⟨⟨y0,y1,y2⟩,-,-,-⟩⟩:=err_box8 w1 (.int .i64 0) (.slice none 0 0) (.slice none 0 0)
 have c1e:=Below.step b1 be
 obtain ⟨W2,hW2⟩ : ∃ W2 : World,w1.alloc (.cells #[.int .i64 0,.slice none 0 0,.slice none 0 0] 37) = W2:=⟨_,rfl⟩
 rw [hW2] at be c1e y0 y1 y2
 replace hW2:=Lib.hid hW2
 clear z0 z1 z2
 go_upto_region 2 with fail
 rw [hW2.out]
 go_wp2_with fail
 refine (err_bad _ _ _ _ _ _ _ W2).mono ?_
 rintro e w3 ⟨_,rfl,b3,rfl⟩
 rw [show ((0 : Int) != 0) = false from rfl]
 have c3:=Below.step c1e b3
 obtain ⟨⟨z0,z1,z2⟩,-,-,-⟩:=qr.below c3
 clear y0 y1 y2
 have b03:=Below.step b0 c3
 go_wp2_with fail
 refine (hwide.out w3 (h.out.below b03)).mono ?_
 rintro e w4 ⟨x,rfl,b4,a,n,c,rfl,ho⟩
 have c4:=Below.step c3 b4
 have b04:=Below.step b03 b4
 obtain ⟨⟨z0',z1',z2'⟩,f0,f1,f2⟩:=qz.below c4
 obtain ⟨⟨y0,y1,y2⟩,g0,g1,g2⟩:=qe.below c4
 have s3:=c3.size
 replace ho:=Lib.hid ho
 clear z0 z1 z2
 go_wp2
 refine bodyPost_ret (v:=.tuple #[.agg #[.int .i64 K,.int .i64 RR,.slice a n c],.agg #[.int .i64 0,.slice none 0 0,.slice none 0 0]]) (by simp [results,Tryz.results138,go_sem,z0',z1',z2',y0,y1,y2]) rfl ⟨_,_,rfl,below_set3 (below_set3 b04 (Nat.le_succ _) _ _ _) (by omega) _ _ _,rfl,a,n,c,rfl,?_⟩
 refine OwnI.mono ((((((ho.out.setBelowBase (a:=⟨w.heap.size + 1,0,none⟩) ?_ _).setBelowBase (a:=⟨w.heap.size + 1,1,none⟩) ?_ _).setBelowBase (a:=⟨w.heap.size + 1,2,none⟩) ?_ _).setBelowBase (a:=⟨w.heap.size + 2,0,none⟩) ?_ _).setBelowBase (a:=⟨w.heap.size + 2,1,none⟩) ?_ _).setBelowBase (a:=⟨w.heap.size + 2,2,none⟩) ?_ _) ?_ <;> (try show _ < w3.heap.size) <;> (try simp only []) <;> omega
set_option maxHeartbeats 2000000 in
theorem ref_working (K R : Nat) (va : Option Addr) (vn vc : Nat) (T : List Int) (w : World) (h : IntsAt w (.slice va vn vc) T) (hr : RuleOk K R T) :
 Calls Tryz.prog 109 #[.agg #[.int .i64 K,.int .i64 R,.slice va vn vc]] w (Ret1 (fun x w' => ∃ a n c,x = .agg #[.int .i64 K,.int .i64 (wkR R),.slice a n c] ∧ IntsAt w' (.slice a n c) (wkT K R T)) w):=by
 have b0 : Below w.heap.size w ((w.alloc (.cells #[.int .i64 K,.int .i64 R,.slice va vn vc] 24)).alloc (.cells #[.int .i64 0,.int .i64 0,.slice none 0 0] 24)):=Below.step (belowAlloc w (.cells #[.int .i64 K,.int .i64 R,.slice va vn vc] 24)) (belowAlloc _ (.cells #[.int .i64 0,.int .i64 0,.slice none 0 0] 24))
 have qr : Box3 ((w.alloc (.cells #[.int .i64 K,.int .i64 R,.slice va vn vc] 24)).alloc (.cells #[.int .i64 0,.int .i64 0,.slice none 0 0] 24)) w.heap.size (.int .i64 K) (.int .i64 R) (.slice va vn vc):=by simp [Box3,go_sem]
 have qz : Box3 ((w.alloc (.cells #[.int .i64 K,.int .i64 R,.slice va vn vc] 24)).alloc (.cells #[.int .i64 0,.int .i64 0,.slice none 0 0] 24)) (w.heap.size + 1) (.int .i64 0) (.int .i64 0) (.slice none 0 0):=by simp [Box3,go_sem]
 have s0 : ((w.alloc (.cells #[.int .i64 K,.int .i64 R,.slice va vn vc] 24)).alloc (.cells #[.int .i64 0,.int .i64 0,.slice none 0 0] 24)).heap.size = w.heap.size + 2:=by simp
 have hlow : ∀ j,j < T.length → (valAt (.slice va vn vc) j).block < w.heap.size:=fun j hj => World.block_lt_of_cell? _ _ (h.cellD j hj)
 by_cases hR : R = 0
 ·subst hR
  clear b0 qr qz s0
  have b0 : Below w.heap.size w ((w.alloc (.cells #[.int .i64 K,.int .i64 0,.slice va vn vc] 24)).alloc (.cells #[.int .i64 0,.int .i64 0,.slice none 0 0] 24)):=Below.step (belowAlloc w (.cells #[.int .i64 K,.int .i64 0,.slice va vn vc] 24)) (belowAlloc _ (.cells #[.int .i64 0,.int .i64 0,.slice none 0 0] 24))
  have qr : Box3 ((w.alloc (.cells #[.int .i64 K,.int .i64 0,.slice va vn vc] 24)).alloc (.cells #[.int .i64 0,.int .i64 0,.slice none 0 0] 24)) w.heap.size (.int .i64 K) (.int .i64 0) (.slice va vn vc):=by simp [Box3,go_sem]
  have qz : Box3 ((w.alloc (.cells #[.int .i64 K,.int .i64 0,.slice va vn vc] 24)).alloc (.cells #[.int .i64 0,.int .i64 0,.slice none 0 0] 24)) (w.heap.size + 1) (.int .i64 0) (.int .i64 0) (.slice none 0 0):=by simp [Box3,go_sem]
  have s0 : ((w.alloc (.cells #[.int .i64 K,.int .i64 0,.slice va vn vc] 24)).alloc (.cells #[.int .i64 0,.int .i64 0,.slice none 0 0] 24)).heap.size = w.heap.size + 2:=by simp
  obtain ⟨W0,hW0⟩ : ∃ W : World,((w.alloc (.cells #[.int .i64 K,.int .i64 0,.slice va vn vc] 24)).alloc (.cells #[.int .i64 0,.int .i64 0,.slice none 0 0] 24)) = W:=⟨_,rfl⟩
  have hwd:=fun (w' : World) (h' : IntsAt w' (.slice va vn vc) T) => ref_widen K 0 1 va vn vc T w' h' hr (by decide) 1 rfl
  rw [hW0] at b0 qr qz s0
  replace hwd:=Lib.hid hwd
  replace h:=Lib.hid h
  replace hr:=Lib.hid hr
  replace hlow:=Lib.hid hlow
  replace hW0:=Lib.hid hW0
  have qr0:=qr
  obtain ⟨⟨z0,z1,z2⟩,-,-,-⟩:=qr0
  go_enter Tryz.func109,Tryz.ntmps109
  go_upto_region 1 with fail
  rw [hW0.out]
  go_wp2_with fail
  refine (hwd.out W0 (h.out.below b0)).mono ?_
  rintro e w1 ⟨_,_,rfl,b1,rfl,a,n,c,rfl,ho⟩
  have c1:=Below.step b1 (Below.step (belowAlloc w1 (.cells #[.int .i64 K,.int .i64 1,.slice a n c] 24)) (belowAlloc _ (.cells #[.int .i64 0,.slice none 0 0,.slice none 0 0] 37)))
  have qx : Box3 ((w1.alloc (.cells #[.int .i64 K,.int .i64 1,.slice a n c] 24)).alloc (.cells #[.int .i64 0,.slice none 0 0,.slice none 0 0] 37)) w1.heap.size (.int .i64 K) (.int .i64 1) (.slice a n c):=by simp [Box3,go_sem]
  obtain ⟨⟨y0,y1,y2⟩,f0,f1,f2⟩:=qz.below c1
  have ho2:=(ho.alloc (.cells #[.int .i64 K,.int .i64 1,.slice a n c] 24)).alloc (.cells #[.int .i64 0,.slice none 0 0,.slice none 0 0] 37)
  have bE:=Below.step b0 c1
  clear z0 z1 z2
  replace ho:=Lib.hid ho
  replace ho2:=Lib.hid ho2
  go_wp2
  refine bodyPost_ret (v:=.agg #[.int .i64 K,.int .i64 1,.slice a n c]) (by simp [results,Tryz.results109,go_sem,y0,y1,y2]) rfl ⟨_,rfl,below_set3 bE (Nat.le_succ _) _ _ _,a,n,c,rfl,?_⟩
  refine OwnI.at (B:=w.heap.size + 2) ?_
  rw [s0] at ho2
  exact ((ho2.out.setBelowBase (a:=⟨w.heap.size + 1,0,none⟩) (by simp) _).setBelowBase (a:=⟨w.heap.size + 1,1,none⟩) (by simp) _).setBelowBase (a:=⟨w.heap.size + 1,2,none⟩) (by simp) _
 ·have e1 : decide ((0 : Int) < (R : Int)) = true:=decide_eq_true (by omega)
  have hk : wkR R = R:=if_neg hR
  have hkT : wkT K R T = T:=if_neg hR
  obtain ⟨W0,hW0⟩ : ∃ W : World,((w.alloc (.cells #[.int .i64 K,.int .i64 R,.slice va vn vc] 24)).alloc (.cells #[.int .i64 0,.int .i64 0,.slice none 0 0] 24)) = W:=⟨_,rfl⟩
  rw [hW0] at b0 qr qz s0
  rw [hk,hkT]
  have b1:=below_set3 b0 (Nat.le_succ _) (.int .i64 K) (.int .i64 R) (.slice va vn vc)
  have hE:=h.below b1
  replace h:=Lib.hid h
  replace hE:=Lib.hid hE
  replace hr:=Lib.hid hr
  replace hlow:=Lib.hid hlow
  replace hW0:=Lib.hid hW0
  clear hk hkT
  obtain ⟨⟨z0,z1,z2⟩,-,-,-⟩:=qr
  obtain ⟨⟨y0,y1,y2⟩,f0,f1,f2⟩:=qz
  go_enter Tryz.func109,Tryz.ntmps109
  go_upto_region 1 with fail
  rw [hW0.out]
  go_wp2
  refine bodyPost_ret (v:=.agg #[.int .i64 K,.int .i64 R,.slice va vn vc]) (by simp [results,Tryz.results109,go_sem,y0,y1,y2]) rfl ⟨_,rfl,b1,va,vn,vc,rfl,hE.out⟩
theorem ref_count (K R : Nat) (va : Option Addr) (vn vc : Nat) (w : World) (hk1 : 1 ≤ K) (hk4 : K ≤ 4) (hR3 : R ≤ 3) :
 Calls Tryz.prog 135 #[.agg #[.int .i64 K,.int .i64 R,.slice va vn vc]] w (Ret1 (fun x _ => x = .int .i64 (pw K (2 * R) : Nat)) w):=by
 have b0:=belowAlloc w (.cells #[.int .i64 K,.int .i64 R,.slice va vn vc] 24)
 have hp:=ref_power K (2 * (R : Int)) K (2 * R) (w.alloc (.cells #[.int .i64 K,.int .i64 R,.slice va vn vc] 24)) rfl (by omega) hk1 hk4 (by omega)
 replace hp:=Lib.hid hp
 go_enter Tryz.func135,Tryz.ntmps135
 go_wp2_with fail
 refine hp.out.mono ?_
 rintro e w1 ⟨rfl,rfl⟩
 go_wp2
 go_ret
 exact ⟨_,rfl,b0,rfl⟩
end Go.Proofs.YtjiadfblphdchaaGreatDoor
namespace Go.Proofs.YtjiadfblphdchaaGreatDoor
open Go.RowKit
set_option maxRecDepth 100000
theorem sort_ints (B : Nat) (v : Value) (xs : List Int) (w : World) (h : OwnI B w v xs) (hl : xs.length ≤ 17592186044416) (hB : B ≤ w.heap.size) :
 Calls Tryz.prog 163 #[v] w fun e w' => e = .returned (.tuple #[]) ∧ OwnI B w' v (srt xs) ∧ Below B w w':=by
 have hs:=sort_own B v xs w h hl hB
 replace hs:=Lib.hid hs
 go_enter Tryz.func163,Tryz.ntmps163
 go_wp2_with fail
 refine hs.out.mono ?_
 rintro e w1 ⟨rfl,ho,hb⟩
 replace ho:=Lib.hid ho
 go_wp2
 go_end0
 exact ⟨rfl,ho.out,hb⟩
theorem uks_lt {N K u s : Nat} (hu : u < N) (hs : s < K) : u * K + s < N * K:=by
 have:=Nat.mul_le_mul_right K (show u + 1 ≤ N by omega)
 rw [Nat.add_mul] at this
 omega
set_option maxHeartbeats 8000000 in
theorem ref_all (K R : Nat) (va : Option Addr) (vn vc : Nat) (T : List Int) (w : World) (h : IntsAt w (.slice va vn vc) T) (hr : RuleOk K R T) (hR : 1 ≤ R) (hl : T.length ≤ 256) :
 Calls Tryz.prog 137 #[.agg #[.int .i64 K,.int .i64 R,.slice va vn vc]] w (Ret1 (fun x w' => ListsFrom w.heap.size w' x (pairG K (pw K (2 * R)) T)) w):=by
 have b0:=belowAlloc w (.cells #[.int .i64 K,.int .i64 R,.slice va vn vc] 24)
 have q : Box3 (w.alloc (.cells #[.int .i64 K,.int .i64 R,.slice va vn vc] 24)) w.heap.size (.int .i64 K) (.int .i64 R) (.slice va vn vc):=by simp [Box3,go_sem]
 have hk1:=hr.k1
 have hk4:=hr.k4
 have hR3:=hr.r3
 have hN81:=nodes_le hr hR hl
 have hN1:=pw_pos (K:=K) (2 * R) hk1
 obtain ⟨hdiv,hlen⟩:=hr.half
 have hNK : pw K (2 * R) * K ≤ 256:=by rw [← hlen]; exact hl
 have hcnt:=fun (w' : World) => ref_count K R va vn vc w' hk1 hk4 hR3
 generalize hN9 : pw K (2 * R) = N at *
 obtain ⟨M,hM⟩ : ∃ M,N * N = M:=⟨_,rfl⟩
 have hM6 : M ≤ 6561:=by rw [← hM]; exact Nat.mul_le_mul hN81 hN81
 have hNN : (N : Int) * (N : Int) = (M : Int):=by rw [← hM]; simp
 replace h:=Lib.hid (h.below b0)
 replace hr:=Lib.hid hr
 replace hcnt:=Lib.hid hcnt
 replace hN9:=Lib.hid hN9
 replace hM:=Lib.hid hM
 replace hlen:=Lib.hid hlen
 have hNK2:=Lib.hid hNK
 clear hdiv
 have q0:=q
 obtain ⟨⟨z0,z1,z2⟩,-,-,-⟩:=q0
 go_enter Tryz.func137,Tryz.ntmps137
 go_wp2_with fail
 refine (hcnt.out _).mono ?_
 rintro e W1 ⟨_,rfl,b1,rfl⟩
 have q1:=q.below b1
 have h1:=h.out.below b1
 have b01:=Below.step b0 b1
 replace h1:=Lib.hid h1
 obtain ⟨ov,w2,mk,hov,hb2⟩:=run_makeW oneLists (M : Int) M W1 rfl (by omega)
 obtain ⟨f2,hr2,g2⟩:=WN.made M hb2 (Nat.le_refl _) hov
 obtain ⟨oa,on,oc,rfl⟩:=hov.shape
 replace hov:=Lib.hid hov
 replace hr2:=Lib.hid hr2
 clear z0 z1 z2
 go_wp2_with fail
 clear mk
 go_loopw [5] (fun uv wr => ∃ (u : Nat) (f : Names) (vals : List Value),u ≤ N ∧ uv = .int .i64 u ∧ Rows W1.heap.size wr f ∧ Below W1.heap.size W1 wr ∧ WN f (.slice oa on oc) vals M (pairTo K N T (u * N))) (fun uv _ => N - (intOf uv).toNat)
 case atStart => exact ⟨0,f2,_,Nat.zero_le _,rfl,hr2.out,hb2,by rw [Nat.zero_mul,pairTo_zero]; exact g2⟩
 case round =>
  clear g2 hr2 hov
  obtain ⟨u,f3,vals,hu,rfl,hr3,b3,g3⟩:=hrel
  obtain ⟨w3,rfl⟩ : ∃ wo : World,wo = wr:=⟨_,rfl⟩
  by_cases hul : u < N
  ·have duN : decide ((u : Int) < (N : Int)) = true:=decide_eq_true (by omega)
   replace hr3:=Lib.hid hr3
   go_wp2_with fail
   go_loopw [6] (fun vv wr => ∃ (v : Nat) (f : Names) (vals : List Value),v ≤ N ∧ vv = .int .i64 v ∧ Rows W1.heap.size wr f ∧ Below W1.heap.size W1 wr ∧ WN f (.slice oa on oc) vals M (pairTo K N T (u * N + v))) (fun vv _ => N - (intOf vv).toNat)
   case atStart => exact ⟨0,f3,_,Nat.zero_le _,rfl,hr3.out,b3,g3⟩
   case round =>
    clear g3 hr3 b3
    obtain ⟨v,f4,vals,hv,rfl,hr4,b4,g4⟩:=hrel
    obtain ⟨wo,rfl⟩ : ∃ wo : World,wo = wr:=⟨_,rfl⟩
    by_cases hvl : v < N
    ·have dvN : decide ((v : Int) < (N : Int)) = true:=decide_eq_true (by omega)
     have hkM : u * N + v < M:=by rw [← hM.out]; exact pair_lt hul hvl
     have ba:=belowAlloc wo (.cells #[] 3)
     have hlit:=OwnI.lit wo.heap.size wo (Nat.le_refl _) [] (by unfold maxLen; simp) #[] rfl 0 rfl
     replace hr4:=Lib.hid hr4
     replace hlit:=Lib.hid hlit
     have hlit2:=hlit
     go_wp2_with fail
     go_loopw [7,8] (fun sv cv wr => ∃ (s : Nat) (sw : Value),sw = sv ∧ cv = .int .i64 s ∧ s ≤ K ∧ OwnI wo.heap.size wr sw (castI (rawP K N T u v s)) ∧ Below wo.heap.size wo wr) (fun _ cv _ => K - (intOf cv).toNat)
     case atStart => exact ⟨0,_,rfl,rfl,Nat.zero_le _,hlit.out,ba⟩
     case round =>
      clear hlit hlit2 ba
      obtain ⟨s,sw,rfl,rfl,hs,hsO,bS⟩:=hrel
      obtain ⟨ws,rfl⟩ : ∃ wo : World,wo = wr:=⟨_,rfl⟩
      have b5:=b4.trans (bS.mono b4.size)
      obtain ⟨⟨z0,z1,z2⟩,-,-,-⟩:=q1.below b5
      replace hsO:=Lib.hid hsO
      by_cases hsl : s < K
      ·have dsK : decide ((s : Int) < (K : Int)) = true:=decide_eq_true (by omega)
       go_wp2_with fail
       clear z0 z1 z2
       go_loopw [7,9] (fun sv cv wr => ∃ (t : Nat) (sw : Value),sw = sv ∧ cv = .int .i64 t ∧ t ≤ K ∧ OwnI wo.heap.size wr sw (castI (rawP K N T u v s ++ rawS K N T u v s t)) ∧ Below wo.heap.size wo wr) (fun _ cv _ => K - (intOf cv).toNat)
       case atStart => exact ⟨0,_,rfl,rfl,Nat.zero_le _,by simpa [rawS] using hsO.out,bS⟩
       case round =>
        clear hsO bS b5
        obtain ⟨t,sw,rfl,rfl,ht,hsO,bT⟩:=hrel
        obtain ⟨wt,rfl⟩ : ∃ wo : World,wo = wr:=⟨_,rfl⟩
        have b5:=b4.trans (bT.mono b4.size)
        have qt:=q1.below b5
        obtain ⟨⟨z0,z1,z2⟩,-,-,-⟩:=qt
        replace hsO:=Lib.hid hsO
        by_cases htl : t < K
        ·have dtK : decide ((t : Int) < (K : Int)) = true:=decide_eq_true (by omega)
         obtain ⟨W,hW⟩ : ∃ W : World,wt.drew = W:=⟨_,rfl⟩
         have b5W : Below W1.heap.size W1 W:=by rw [← hW]; exact b5.drew
         have bTW : Below wo.heap.size wo W:=by rw [← hW]; exact bT.drew
         have hsW : OwnI wo.heap.size W sw (castI (rawP K N T u v s ++ rawS K N T u v s t)):=by rw [← hW]; exact hsO.out
         have hTt:=h1.out.below b5W
         have hA : u * K + s < T.length:=by rw [hlen.out]; exact uks_lt hul hsl
         have hB : v * K + t < T.length:=by rw [hlen.out]; exact uks_lt hvl htl
         have iA:=fun w' => hTt.idx _ hA w'
         have cA:=hTt.cellD _ hA
         have iB:=fun w' => hTt.idx _ hB w'
         have cB:=hTt.cellD _ hB
         have hlA : labN K T u s = T.getD (u * K + s) 0:=rfl
         have hlB : labN K T v t = T.getD (v * K + t) 0:=rfl
         have haA : u * K + s ≤ 256:=by have:=hl; omega
         have haB : v * K + t ≤ 256:=by have:=hl; omega
         have hrt : rawT K N T u v s t = if labN K T u s = labN K T v t then [toN K N u s * N + toN K N v t] else []:=rfl
         have hrs:=rawS_succ K N T u v s t
         rw [hlA,hlB] at hrt
         generalize T.getD (u * K + s) 0 = y1 at *
         generalize T.getD (v * K + t) 0 = y2 at *
         generalize valAt (.slice va vn vc) (u * K + s) = ta at *
         generalize valAt (.slice va vn vc) (v * K + t) = tb at *
         have ea : (u : Int) * (K : Int) + (s : Int) = ((u * K + s : Nat) : Int):=by simp
         have eb : (v : Int) * (K : Int) + (t : Int) = ((v * K + t : Nat) : Int):=by simp
         have ea2 : (u : Int) * (K : Int) = ((u * K : Nat) : Int):=by simp
         have eb2 : (v : Int) * (K : Int) = ((v * K : Nat) : Int):=by simp
         have wa1 : IntKind.i64.wrap ((u : Int) * (K : Int)) = (u : Int) * (K : Int):=wrapK (by omega) (by omega)
         have wb1 : IntKind.i64.wrap ((v : Int) * (K : Int)) = (v : Int) * (K : Int):=wrapK (by omega) (by omega)
         have wa2 : IntKind.i64.wrap ((u : Int) * (K : Int) + (s : Int)) = ((u * K + s : Nat) : Int):=by rw [ea]; exact wrapK (by omega) (by omega)
         have wb2 : IntKind.i64.wrap ((v : Int) * (K : Int) + (t : Int)) = ((v * K + t : Nat) : Int):=by rw [eb]; exact wrapK (by omega) (by omega)
         have htoA : toN K N u s = (u * K + s) % N:=rfl
         have htoB : toN K N v t = (v * K + t) % N:=rfl
         generalize u * K + s = A at *
         generalize v * K + t = B at *
         have hS : W.cell? ⟨w.heap.size,0,none⟩ = some (.int .i64 K) ∧ W.cell? ⟨w.heap.size,2,none⟩ = some (.slice va vn vc) ∧ W.cell? ta = some (.int .i64 y1) ∧ W.cell? tb = some (.int .i64 y2):=by
          obtain ⟨⟨p0,p1,p2⟩,-,-,-⟩:=q1.below b5W
          exact ⟨p0,p2,cA,cB⟩
         replace hTt:=Lib.hid hTt
         replace hsW:=Lib.hid hsW
         replace hlA:=Lib.hid hlA
         replace hlB:=Lib.hid hlB
         replace hrt:=Lib.hid hrt
         replace hrs:=Lib.hid hrs
         replace htoA:=Lib.hid htoA
         replace htoB:=Lib.hid htoB
         replace hW:=Lib.hid hW
         replace ea:=Lib.hid ea
         replace eb:=Lib.hid eb
         replace ea2:=Lib.hid ea2
         replace eb2:=Lib.hid eb2
         clear cA cB
         go_upto_region 16 with fail
         refine wp_region_plan (fun w' => w'.cell? ⟨w.heap.size,0,none⟩ = some (.int .i64 K) ∧ w'.cell? ⟨w.heap.size,2,none⟩ = some (.slice va vn vc) ∧ w'.cell? ta = some (.int .i64 y1) ∧ w'.cell? tb = some (.int .i64 y2)) 20 [(0,true),(1,true),(2,true),(3,true),(4,true),(5,true),(6,true),(7,true),(8,true),(9,true),(10,true),(11,true),(12,true),(13,true),(14,true),(15,true),(16,true),(17,true),(18,true),(19,true)] (by kernel_rfl) (by kernel_rfl) ?_
         rw [hW.out]
         clear z0 z1 z2
         refine pqY 41 hS ?_
         refine pqY 42 hS ?_
         refine pqY 43 hS ?_
         refine pqY 44 hS ?_
         refine pqY 45 hS ?_
         refine pqY 46 hS ?_
         refine pqY 47 hS ?_
         refine pqY 48 hS ?_
         refine pqY 49 hS ?_
         refine pqY 50 hS ?_
         refine pqY 51 hS ?_
         refine pqY 52 hS ?_
         refine pqY 53 hS ?_
         refine pqY 54 hS ?_
         refine pqY 55 hS ?_
         refine pqY 56 hS ?_
         refine pqY 57 hS ?_
         refine pqY 58 hS ?_
         refine pqY 59 hS ?_
         refine pqY 60 hS ?_
         refine head0 ?_
         simp only [List.drop_succ_cons,List.drop_zero]
         by_cases hy : y1 = y2
         ·have heq : (y1 == y2) = true:=by rw [beq_iff_eq]; exact hy
          replace hy:=Lib.hid hy
          go_wp2
          refine NoPanic.normal ?_
          obtain ⟨V,hV⟩ : ∃ V : World,W.drew = V:=⟨_,rfl⟩
          have b5V : Below W1.heap.size W1 V:=by rw [← hV]; exact b5W.drew
          have bTV : Below wo.heap.size wo V:=by rw [← hV]; exact bTW.drew
          have hsV : OwnI wo.heap.size V sw (castI (rawP K N T u v s ++ rawS K N T u v s t)):=by rw [← hV]; exact hsW.out
          have hSV : V.cell? ⟨w.heap.size,0,none⟩ = some (.int .i64 K):=by rw [← hV]; exact hS.1
          replace hV:=Lib.hid hV
          replace hsV:=Lib.hid hsV
          have hN0 : ((N : Int) == 0) = false:=by rw [beq_eq_false_iff_ne]; omega
          have hN2 : ¬ (N : Int) = 0:=by omega
          have hN3 : ¬ N = 0:=by omega
          have hP:=Nat.mod_lt A (show N > 0 by omega)
          have hQ:=Nat.mod_lt B (show N > 0 by omega)
          have hmA : (A : Int).tmod (N : Int) = ((A % N : Nat) : Int):=by rw [Int.tmod_eq_emod_of_nonneg (Int.natCast_nonneg A)]; exact (Int.natCast_emod A N).symm
          have hmB : (B : Int).tmod (N : Int) = ((B % N : Nat) : Int):=by rw [Int.tmod_eq_emod_of_nonneg (Int.natCast_nonneg B)]; exact (Int.natCast_emod B N).symm
          have htA:=htoA.out
          have htB:=htoB.out
          generalize A % N = P at *
          generalize B % N = Q at *
          have hPQ : P * N + Q < M:=by rw [← hM.out]; exact pair_lt hP hQ
          have hZ : (P : Int) * (N : Int) + (Q : Int) = ((P * N + Q : Nat) : Int):=by simp
          have hZ2 : (P : Int) * (N : Int) = ((P * N : Nat) : Int):=by simp
          have wz1 : IntKind.i64.wrap ((P : Int) * (N : Int)) = (P : Int) * (N : Int):=by rw [hZ2]; exact wrapK (by omega) (by omega)
          have wz2 : IntKind.i64.wrap ((P : Int) * (N : Int) + (Q : Int)) = ((P * N + Q : Nat) : Int):=by rw [hZ]; exact wrapK (by omega) (by omega)
          have hcat : castI (rawP K N T u v s ++ rawS K N T u v s t) ++ [((P * N + Q : Nat) : Int)] = castI (rawP K N T u v s ++ rawS K N T u v s (t + 1)):=by
           rw [hrs.out,hrt.out,if_pos hy.out,htA,htB]; simp [castI]
          have hln : (castI (rawP K N T u v s ++ rawS K N T u v s t)).length ≤ 1000:=by
           rw [castI_len,List.length_append]
           have e1:=rawP_len K N T u v s
           have e2:=rawS_len K N T u v s t
           have e3:=Nat.mul_le_mul hs hk4
           omega
          generalize P * N + Q = Z at *
          have bl:=belowAlloc V (.cells #[.int .i64 (Z : Int)] 3)
          have hlit:=OwnI.lit V.heap.size V (Nat.le_refl _) [(Z : Int)] (by simp [maxLen]) #[.int .i64 (Z : Int)] rfl 1 rfl
          have hOl:=hsV.out.below bl
          have sV:=bTV.size
          have hBl : wo.heap.size ≤ (V.alloc (.cells #[.int .i64 (Z : Int)] 3)).heap.size:=by simp; omega
          have hSl : (V.alloc (.cells #[.int .i64 (Z : Int)] 3)).cell? ⟨w.heap.size,0,none⟩ = some (.int .i64 K):=(bl.cell (World.block_lt_of_cell? _ _ hSV)).trans hSV
          replace hcat:=Lib.hid hcat
          replace hlit:=Lib.hid hlit
          replace hOl:=Lib.hid hOl
          replace htA:=Lib.hid htA
          replace htB:=Lib.hid htB
          replace hZ:=Lib.hid hZ
          replace hZ2:=Lib.hid hZ2
          go_upto_region 17 with fail
          refine wp_region_plan (fun w' => w'.cell? ⟨w.heap.size,0,none⟩ = some (.int .i64 K)) 22 [(0,true),(1,true),(2,true),(3,true),(4,true),(5,true),(6,true),(7,true),(8,true),(9,true),(10,true),(11,true),(12,true),(13,true),(14,true),(15,true),(16,true),(17,true),(18,true),(19,true),(20,false),(21,false)] (by kernel_rfl) (by kernel_rfl) ?_
          rw [hV.out]
          clear hS
          refine pqY 62 hSV ?_
          refine pqY 63 hSV ?_
          refine pqY 64 hSV ?_
          refine pqY 65 hSV ?_
          refine pqY 66 hSV ?_
          refine pqY 67 hSV ?_
          refine pqY 68 hSV ?_
          refine pqY 69 hSV ?_
          refine pqY 70 hSV ?_
          refine pqY 71 hSV ?_
          refine pqY 72 hSV ?_
          refine pqY 73 hSV ?_
          refine pqY 74 hSV ?_
          refine pqY 75 hSV ?_
          refine pqY 76 hSV ?_
          refine pqY 77 hSV ?_
          refine pqY 78 hSV ?_
          refine pqY 79 hSV ?_
          refine pqY 80 hSV ?_
          refine pqY 81 hSV ?_
          refine headC rfl (fun KK hK => ?_)
          go_simp
          refine hK _ _ hSl ?_
          clear hK KK
          refine headC rfl (fun KK hK => ?_)
          refine step_appI rfl _ _ rfl wo.heap.size sw (.slice (some ⟨V.heap.size,0,none⟩) 1 1) _ [(Z : Int)] rfl rfl hOl.out hlit.out.at (by simp only [List.length_cons,List.length_nil]; omega) hBl ?_
          intro v9 w9 ho9 b9
          rw [hcat.out] at ho9
          obtain ⟨v9a,v9b,v9c,rfl⟩:=ho9.at.shape
          have bT9 : Below wo.heap.size wo w9:=(bTV.trans (bl.mono sV)).trans b9
          have hS9 : w9.cell? ⟨w.heap.size,0,none⟩ = some (.int .i64 K):=by
           obtain ⟨⟨p0,p1,p2⟩,-,-,-⟩:=q1.below (b4.trans (bT9.mono b4.size))
           exact p0
          replace ho9:=Lib.hid ho9
          refine hK _ _ hS9 ?_
          clear hK KK
          refine head0 ?_
          simp only [List.drop_succ_cons,List.drop_zero]
          clear hSV hSl hS9
          go_wp2
          refine NoPanic.normal ?_
          go_wp2
          go_roundw
          case measure => simp [intOf]; omega
          case rel => exact ⟨t + 1,_,rfl,by go_num,by omega,ho9.out,bT9⟩
         ·have heq : (y1 == y2) = false:=by rw [beq_eq_false_iff_ne]; exact hy
          have hcat : castI (rawP K N T u v s ++ rawS K N T u v s t) = castI (rawP K N T u v s ++ rawS K N T u v s (t + 1)):=by
           rw [hrs.out,hrt.out,if_neg hy]; simp
          have hs9:=hsW.out
          rw [hcat] at hs9
          replace hs9:=Lib.hid hs9
          replace hcat:=Lib.hid hcat
          replace hy:=Lib.hid hy
          clear hS
          go_wp2
          refine NoPanic.normal ?_
          go_wp2
          go_roundw
          case measure => simp [intOf]; omega
          case rel => exact ⟨t + 1,_,rfl,by go_num,by omega,hs9.out,bTW⟩
        ·obtain rfl : t = K:=by omega
         have hs9:=hsO.out
         rw [← rawP_succ] at hs9
         have dtK : decide ((t : Int) < (t : Int)) = false:=decide_eq_false (by omega)
         replace hs9:=Lib.hid hs9
         go_wp2
         go_roundw
         case measure => simp [intOf]; omega
         case rel => exact ⟨s + 1,_,rfl,by go_num,by omega,hs9.out,bT⟩
      ·obtain rfl : s = K:=by omega
       have dsK : decide ((s : Int) < (s : Int)) = false:=decide_eq_false (by omega)
       have hlT : (castI (rawP s N T u v s)).length ≤ 1000:=by
        rw [castI_len]
        have e1:=rawP_len s N T u v s
        have e3:=Nat.mul_le_mul hk4 hk4
        omega
       have hsort:=sort_ints wo.heap.size sw _ ws hsO.out (by omega) bS.size
       have hded : ded (srt (castI (rawP s N T u v s))) (srt (castI (rawP s N T u v s))).length = castI (pairL s N T (u * N + v)):=by
        refine ded_pair (by omega) (srt_sorted _) (fun x => ?_)
        rw [srt_mem,pair_div hvl,pair_mod hvl]; rfl
       have hzl : (srt (castI (rawP s N T u v s))).length ≤ 1000:=by rw [srt_length]; exact hlT
       generalize srt (castI (rawP s N T u v s)) = zs at *
       replace hsort:=Lib.hid hsort
       replace hded:=Lib.hid hded
       go_wp2_with fail
       refine hsort.out.mono ?_
       rintro e w8 ⟨rfl,hz8,b8⟩
       have bS8:=bS.trans b8
       have lZ:=hz8.at.len
       have ba:=belowAlloc w8 (.cells #[] 3)
       have hlit:=OwnI.lit w8.heap.size w8 (Nat.le_refl _) [] (by unfold maxLen; simp) #[] rfl 0 rfl
       obtain ⟨swa,swb,swc,rfl⟩:=hz8.at.shape
       replace hz8:=Lib.hid hz8
       replace hlit:=Lib.hid hlit
       clear z0 z1 z2 hsort
       go_wp2_with fail
       go_loopw [10,11] (fun lv iv wr => ∃ (i : Nat) (lw : Value),lw = lv ∧ iv = .int .i64 i ∧ i ≤ zs.length ∧ OwnI w8.heap.size wr lw (ded zs i) ∧ Below w8.heap.size w8 wr) (fun _ iv _ => zs.length - (intOf iv).toNat)
       case atStart => exact ⟨0,_,rfl,rfl,Nat.zero_le _,hlit.out,ba⟩
       case round =>
        clear hlit ba
        obtain ⟨i,lw,rfl,rfl,hi,hlO,bL⟩:=hrel
        obtain ⟨wl,rfl⟩ : ∃ wo : World,wo = wr:=⟨_,rfl⟩
        have hzL:=hz8.out.at.below bL
        have hdl:=ded_len zs i
        replace hlO:=Lib.hid hlO
        by_cases hil : i < zs.length
        ·have diL : decide ((i : Int) < (zs.length : Int)) = true:=decide_eq_true (by omega)
         obtain ⟨V,hV⟩ : ∃ V : World,wl.drew = V:=⟨_,rfl⟩
         have bLV : Below w8.heap.size w8 V:=by rw [← hV]; exact bL.drew
         have hlV : OwnI w8.heap.size V lw (ded zs i):=by rw [← hV]; exact hlO.out
         have hzV:=hz8.out.at.below bLV
         have iI:=fun w' => hzV.idx i hil w'
         have cI:=hzV.cellD i hil
         have hds : ded zs (i + 1) = ded zs i ++ if i = 0 ∨ zs.getD i 0 ≠ zs.getD (i - 1) 0 then [zs.getD i 0] else []:=rfl
         have bLs:=bLV.size
         by_cases hi0 : i = 0
         ·have di0 : ((i : Int) == 0) = true:=by rw [beq_iff_eq]; omega
          rw [if_pos (.inl hi0)] at hds
          generalize zs.getD i 0 = x at *
          generalize valAt (.slice swa swb swc) i = xa at *
          have hS : True:=trivial
          replace hds:=Lib.hid hds
          replace hV:=Lib.hid hV
          replace hlV:=Lib.hid hlV
          replace hzV:=Lib.hid hzV
          replace hzL:=Lib.hid hzL
          replace hi0:=Lib.hid hi0
          go_upto_region 23 with fail
          refine wp_region_plan (fun _ => True) 13 [(0,true),(1,true),(2,true),(3,true),(4,true),(5,true),(6,true),(7,true),(8,true),(9,true),(10,true),(11,true),(12,true)] (by kernel_rfl) (by kernel_rfl) ?_
          rw [hV.out]
          refine pqY 93 hS ?_
          refine pqY 94 hS ?_
          refine pqY 95 hS ?_
          refine pqN 96 hS ?_
          refine pqN 97 hS ?_
          refine pqN 98 hS ?_
          refine pqN 99 hS ?_
          refine pqN 100 hS ?_
          refine pqN 101 hS ?_
          refine pqN 102 hS ?_
          refine pqN 103 hS ?_
          refine pqN 104 hS ?_
          refine pqN 105 hS ?_
          refine head0 ?_
          simp only [List.drop_succ_cons,List.drop_zero]
          go_wp2
          refine NoPanic.normal ?_
          go_wp2_with (at_builtin; refine wpl_app1 rfl _ _ rfl w8.heap.size lw (ded zs i) x hlV.out rfl rfl (by omega) bLs ?_)
          intro v' w7 ho7 b7 _
          rw [← hds.out] at ho7
          obtain ⟨v7a,v7b,v7c,rfl⟩:=ho7.at.shape
          replace ho7:=Lib.hid ho7
          go_wp2
          go_roundw
          case measure => simp [intOf]; omega
          case rel => exact ⟨i + 1,_,rfl,by go_num,by omega,ho7.out,bLV.trans b7⟩
         ·have di0 : ((i : Int) == 0) = false:=by rw [beq_eq_false_iff_ne]; omega
          have wi : IntKind.i64.wrap ((i : Int) - 1) = (i : Int) - 1:=wrapK (by omega) (by omega)
          have iP : ∀ w',(Instr.indexAt 22 (.slice swa swb swc) (.int .i64 ((i : Int) - 1))).run Tryz.prog w' = .ok (.pointer (some (valAt (.slice swa swb swc) (i - 1)))) w':=by
           intro w'
           have:=hzV.idx (i - 1) (by omega) w'
           rwa [show (((i - 1 : Nat) : Nat) : Int) = (i : Int) - 1 by omega] at this
          have cP:=hzV.cellD (i - 1) (by omega)
          generalize zs.getD i 0 = x at *
          generalize zs.getD (i - 1) 0 = x' at *
          generalize valAt (.slice swa swb swc) i = xa at *
          generalize valAt (.slice swa swb swc) (i - 1) = xb at *
          have hS : V.cell? xa = some (.int .i64 x) ∧ V.cell? xb = some (.int .i64 x'):=⟨cI,cP⟩
          replace hV:=Lib.hid hV
          replace hlV:=Lib.hid hlV
          replace hzV:=Lib.hid hzV
          replace hzL:=Lib.hid hzL
          replace hds:=Lib.hid hds
          go_upto_region 23 with fail
          refine wp_region_plan (fun w' => w'.cell? xa = some (.int .i64 x) ∧ w'.cell? xb = some (.int .i64 x')) 13 [(0,true),(1,true),(2,true),(3,true),(4,true),(5,true),(6,true),(7,true),(8,true),(9,true),(10,true),(11,true),(12,true)] (by kernel_rfl) (by kernel_rfl) ?_
          rw [hV.out]
          refine pqY 93 hS ?_
          refine pqY 94 hS ?_
          refine pqY 95 hS ?_
          refine pqY 96 hS ?_
          refine pqY 97 hS ?_
          refine pqY 98 hS ?_
          refine pqY 99 hS ?_
          refine pqY 100 hS ?_
          refine pqY 101 hS ?_
          refine pqY 102 hS ?_
          refine pqY 103 hS ?_
          refine pqY 104 hS ?_
          refine pqY 105 hS ?_
          refine head0 ?_
          simp only [List.drop_succ_cons,List.drop_zero]
          clear hS
          by_cases hxx : x = x'
          ·have hne : (x != x') = false:=by simp [hxx]
           have hds2:=hds.out
           rw [if_neg (by rintro (q | q); exact hi0 q; exact q hxx),List.append_nil] at hds2
           have hl2:=hlV.out
           rw [← hds2] at hl2
           replace hl2:=Lib.hid hl2
           replace hds2:=Lib.hid hds2
           replace hxx:=Lib.hid hxx
           go_wp2
           refine NoPanic.normal ?_
           go_wp2
           go_roundw
           case measure => simp [intOf]; omega
           case rel => exact ⟨i + 1,_,rfl,by go_num,by omega,hl2.out,bLV⟩
          ·have hne : (x != x') = true:=by rw [bne_iff_ne]; exact hxx
           have hds2:=hds.out
           rw [if_pos (.inr hxx)] at hds2
           replace hds2:=Lib.hid hds2
           replace hxx:=Lib.hid hxx
           go_wp2
           refine NoPanic.normal ?_
           go_wp2_with (at_builtin; refine wpl_app1 rfl _ _ rfl w8.heap.size lw (ded zs i) x hlV.out rfl rfl (by omega) bLs ?_)
           intro v' w7 ho7 b7 _
           rw [← hds2.out] at ho7
           obtain ⟨v7a,v7b,v7c,rfl⟩:=ho7.at.shape
           replace ho7:=Lib.hid ho7
           go_wp2
           go_roundw
           case measure => simp [intOf]; omega
           case rel => exact ⟨i + 1,_,rfl,by go_num,by omega,ho7.out,bLV.trans b7⟩
        ·obtain rfl : i = zs.length:=by omega
         have diL : decide ((zs.length : Int) < (zs.length : Int)) = false:=decide_eq_false (by omega)
         have hl2:=hlO.out
         rw [hded.out] at hl2
         have bT9 : Below wo.heap.size wo wl:=bS8.trans (bL.mono bS8.size)
         have hnew:=g4.new hr4.out (u * N + v) bT9 b4.size (hl2.mono bS8.size)
         obtain ⟨y1,y2,y3,f8,hr8,h8,_⟩:=g4.put hkM hnew
         rw [pairTo_step] at h8
         have iO:=fun w' => ((hr4.out.ownV g4.outer).at).idx oneLists (u * N + v) (by rw [g4.len]; exact hkM) w'
         have ek : (u : Int) * (N : Int) + (v : Int) = ((u * N + v : Nat) : Int):=by simp
         have ek2 : (u : Int) * (N : Int) = ((u * N : Nat) : Int):=by simp
         have wk1 : IntKind.i64.wrap ((u : Int) * (N : Int)) = (u : Int) * (N : Int):=by rw [ek2]; exact wrapK (by omega) (by omega)
         have wk2 : IntKind.i64.wrap ((u : Int) * (N : Int) + (v : Int)) = ((u * N + v : Nat) : Int):=by rw [ek]; exact wrapK (by omega) (by omega)
         have hk9 : u * N + (v + 1) = u * N + v + 1:=by omega
         rw [← hk9] at h8
         generalize valAt (.slice oa on oc) (u * N + v) = ka at *
         obtain ⟨xa,xn,xc,rfl⟩:=hl2.at.shape
         have b39:=b4.trans (bT9.mono b4.size)
         replace hr8:=Lib.hid hr8
         replace hl2:=Lib.hid hl2
         replace hnew:=Lib.hid hnew
         replace hzL:=Lib.hid hzL
         replace hk9:=Lib.hid hk9
         generalize hkk : u * N + v = kk at *
         replace hkk:=Lib.hid hkk
         replace ek:=Lib.hid ek
         replace ek2:=Lib.hid ek2
         go_wp2
         go_roundw
         case measure => simp [intOf]; omega
         case rel => exact ⟨v + 1,f8,_,by omega,by go_num,hr8.out,b39.setCell y3 _,h8⟩
    ·obtain rfl : v = N:=by omega
     have dvN : decide ((v : Int) < (v : Int)) = false:=decide_eq_false (by omega)
     have g5:=g4
     rw [show u * v + v = (u + 1) * v by rw [Nat.add_mul]; omega] at g5
     replace hr4:=Lib.hid hr4
     go_wp2
     go_roundw
     case measure => simp [intOf]; omega
     case rel => exact ⟨u + 1,f4,_,by omega,by go_num,hr4.out,b4,g5⟩
  ·obtain rfl : u = N:=by omega
   have duN : decide ((u : Int) < (u : Int)) = false:=decide_eq_false (by omega)
   have g5 : WN f3 (.slice oa on oc) vals (u * u) (fun p => castI (pairL K u T p)):=by
    rw [hM.out]
    exact ⟨g3.outer,g3.len,fun z hz => by rw [g3.rows z hz]; unfold pairTo; rw [if_pos (by rw [hM.out]; exact hz)]⟩
   have hL:=g5.from (hr3.monoB b01.size)
   have bE:=Below.step b01 b3
   replace hr3:=Lib.hid hr3
   replace hL:=Lib.hid hL
   go_wp2
   go_ret
   exact ⟨_,rfl,bE,hL.out⟩
end Go.Proofs.YtjiadfblphdchaaGreatDoor
namespace Go.Proofs.YtjiadfblphdchaaGreatDoor
open Go.RowKit
set_option maxRecDepth 100000
theorem sorted_len9 : ∀ {L : List Nat} {lo n : Nat},L.Pairwise (· < ·) → (∀ v ∈ L,lo ≤ v ∧ v < n) → L.length ≤ n - lo
 | [],_,_,_,_ => by simp
 | a :: L,lo,n,h,k => by
  have h1:=k a (by simp)
  have h2:=List.pairwise_cons.1 h
  have:=sorted_len9 (lo:=a + 1) (n:=n) h2.2 (fun v hv => ⟨h2.1 v hv,(k v (by simp [hv])).2⟩)
  simp; omega
theorem live_len9 {n : Nat} {adj : Nat → List Nat} {L : List Nat} (h : LiveList n adj L) : L.length ≤ n :=
 Nat.le_trans (sorted_len9 (lo:=0) (n:=n) h.sorted (fun v hv => ⟨Nat.zero_le _,((h.mem v).1 hv).1⟩)) (by omega)
theorem ListsFrom.shape {B : Nat} {w : World} {v : Value} {G : List (List Int)} (h : ListsFrom B w v G) : ∃ a c,v = .slice a G.length c:=h.at.shape
theorem ListsFrom.mono {B B' : Nat} {w : World} {v : Value} {G : List (List Int)} (h : ListsFrom B w v G) (hB : B' ≤ B) : ListsFrom B' w v G:=by
 obtain ⟨vs,h1,h2,h3⟩:=h
 exact ⟨vs,h1.mono hB,h2,fun i hi => (h3 i hi).mono hB⟩
theorem ListsFrom.set3 {B b : Nat} {w : World} {v : Value} {G : List (List Int)} (h : ListsFrom B w v G) (hb : b < B) (x y z : Value) : ListsFrom B (((w.setCell ⟨b,0,none⟩ x).setCell ⟨b,1,none⟩ y).setCell ⟨b,2,none⟩ z) v G :=
 ((h.set (a:=⟨b,0,none⟩) hb x).set (a:=⟨b,1,none⟩) hb y).set (a:=⟨b,2,none⟩) hb z
theorem diag_bne (N p : Nat) : (((p / N : Nat) : Int) != ((p % N : Nat) : Int)) = !decide (Diag N p):=by
 by_cases e : p / N = p % N
 ·rw [decide_eq_true (show Diag N p from e),e]; simp
 ·rw [decide_eq_false (show ¬ Diag N p from e)]
  generalize p / N = a at *
  generalize p % N = b at *
  simp only [Bool.not_false,bne_iff_ne]
  omega
theorem dm9 (p N : Nat) (hp : p ≤ 100000000) : (p : Int).tdiv (N : Int) = ((p / N : Nat) : Int) ∧ (p : Int).tmod (N : Int) = ((p % N : Nat) : Int) ∧ (p : Int) / (N : Int) = ((p / N : Nat) : Int) ∧ (p : Int) % (N : Int) = ((p % N : Nat) : Int) ∧
 IntKind.i64.wrap ((p / N : Nat) : Int) = ((p / N : Nat) : Int) ∧ IntKind.i64.wrap ((p % N : Nat) : Int) = ((p % N : Nat) : Int):=by
 have h1 : p / N ≤ p:=Nat.div_le_self _ _
 have h2 : p % N ≤ p:=Nat.mod_le _ _
 refine ⟨by rw [Int.tdiv_eq_ediv_of_nonneg (by omega)]; simp,by rw [Int.tmod_eq_emod_of_nonneg (by omega)]; simp,by simp,by simp,?_,?_⟩
 ·generalize p / N = a at *; exact wrapK (by omega) (by omega)
 ·generalize p % N = a at *; exact wrapK (by omega) (by omega)
theorem pairG_small {K N : Nat} {T : List Int} (hk4 : K ≤ 4) : ∀ k,k < (pairG K N T).length → ((pairG K N T).getD k []).length ≤ 17592186044416:=fun k hk => by
 rw [pairG_len] at hk
 rw [pairG_row hk,castI_len]
 have:=pairL_len K N T k
 have:=Nat.mul_le_mul hk4 hk4
 omega
set_option maxHeartbeats 4000000 in
theorem ref_odd (K R : Nat) (va : Option Addr) (vn vc : Nat) (T : List Int) (w : World) (h : IntsAt w (.slice va vn vc) T) (hr : RuleOk K R T) (hR : 1 ≤ R) (hl : T.length ≤ 256) :
 Calls Tryz.prog 108 #[.agg #[.int .i64 K,.int .i64 R,.slice va vn vc]] w (Ret1 (fun x w' => ∃ L,LiveList (pw K (2 * R) * pw K (2 * R)) (adjOf (pairG K (pw K (2 * R)) T)) L ∧ OwnI w.heap.size w' x (castI (L.filter fun p => !decide (Diag (pw K (2 * R)) p)))) w):=by
 have b0:=belowAlloc w (.cells #[.int .i64 K,.int .i64 R,.slice va vn vc] 24)
 have q : Box3 (w.alloc (.cells #[.int .i64 K,.int .i64 R,.slice va vn vc] 24)) w.heap.size (.int .i64 K) (.int .i64 R) (.slice va vn vc):=by simp [Box3,go_sem]
 have hk1:=hr.k1
 have hk4:=hr.k4
 have hR3:=hr.r3
 have hN81:=nodes_le hr hR hl
 have hN1:=pw_pos (K:=K) (2 * R) hk1
 obtain ⟨hdiv,hlen⟩:=hr.half
 have hNK : pw K (2 * R) * K ≤ 256:=by rw [← hlen]; exact hl
 have hck:=pairG_check (K:=K) (N:=pw K (2 * R)) (T:=T) (by omega) hN81 hNK
 have hcnt:=fun (w' : World) => ref_count K R va vn vc w' hk1 hk4 hR3
 have hall:=fun (w' : World) (h' : IntsAt w' (.slice va vn vc) T) => ref_all K R va vn vc T w' h' hr hR hl
 have hlive:=fun (ga : Option Addr) (gc : Nat) (w' : World) (h' : ListsAt w' (.slice ga (pairG K (pw K (2 * R)) T).length gc) (pairG K (pw K (2 * R)) T)) => ref12_live ga gc (pairG K (pw K (2 * R)) T) w' h' (pairG_small hk4)
 have hgl:=pairG_len (K:=K) (N:=pw K (2 * R)) (T:=T)
 rw [hck] at hlive
 rw [hgl] at hlive
 generalize hN9 : pw K (2 * R) = N at *
 generalize hG : pairG K N T = G at *
 generalize hM : N * N = M at *
 have hM6 : M ≤ 6561:=by rw [← hM]; exact Nat.mul_le_mul hN81 hN81
 replace h:=Lib.hid (h.below b0)
 replace hr:=Lib.hid hr
 replace hcnt:=Lib.hid hcnt
 replace hall:=Lib.hid hall
 replace hlive:=Lib.hid hlive
 replace hN9:=Lib.hid hN9
 replace hM:=Lib.hid hM
 replace hG:=Lib.hid hG
 replace hgl:=Lib.hid hgl
 replace hck:=Lib.hid hck
 clear hdiv hlen hNK
 have q0:=q
 obtain ⟨⟨z0,z1,z2⟩,-,-,-⟩:=q0
 go_enter Tryz.func108,Tryz.ntmps108
 go_wp2_with fail
 refine (hcnt.out _).mono ?_
 rintro e W1 ⟨_,rfl,b1,rfl⟩
 clear z0 z1 z2
 obtain ⟨⟨z0,z1,z2⟩,-,-,-⟩:=q.below b1
 have b01:=Below.step b0 b1
 go_wp2_with fail
 refine (hall.out W1 (h.out.below b1)).mono ?_
 rintro e W2 ⟨gv,rfl,b2,hgv⟩
 obtain ⟨ga,gc,rfl⟩:=hgv.shape
 replace hgv:=hgv.at
 rw [hgl.out] at hgv
 rw [hgl.out]
 have b02:=Below.step b01 b2
 replace hgv:=Lib.hid hgv
 clear z0 z1 z2
 go_wp2_with fail
 refine (hlive.out ga gc W2 hgv.out).mono ?_
 rintro e W3 ⟨lv,y,rfl,b3,hE,hL,-⟩
 obtain rfl : y = .agg #[.int .i64 0,.slice none 0 0,.slice none 0 0]:=hE
 obtain ⟨L,hLL,hlo⟩:=hL rfl
 have b03:=Below.step b02 b3
 have hlow : ∀ p ∈ L,p < M:=fun p hp => ((hLL.mem p).1 hp).1
 have ba:=belowAlloc W3 (.cells #[.int .i64 0,.slice none 0 0,.slice none 0 0] 37)
 obtain ⟨W4,hW4⟩ : ∃ W : World,W3.alloc (.cells #[.int .i64 0,.slice none 0 0,.slice none 0 0] 37) = W:=⟨_,rfl⟩
 have hl4 : IntsAt W4 lv (castI L):=by rw [← hW4]; exact hlo.at.below ba
 have b04 : Below w.heap.size w W4:=by rw [← hW4]; exact Below.step b03 ba
 have lL:=hl4.len
 rw [castI_len] at lL
 have hLs : L.length ≤ 100000:=by
  have:=live_len9 hLL
  omega
 obtain ⟨la,ln,lc,rfl⟩:=hl4.shape
 replace hLL:=Lib.hid hLL
 replace hlow:=Lib.hid hlow
 replace hl4:=Lib.hid hl4
 replace hW4:=Lib.hid hW4
 clear hlo ba
 go_upto_region 3 with fail
 rw [hW4.out]
 go_wp2_with fail
 go_loopw [6,7] (fun ov iv wr => ∃ (i : Nat) (ow : Value),ow = ov ∧ iv = .int .i64 i ∧ i ≤ L.length ∧ OwnI W4.heap.size wr ow (castI ((L.take i).filter fun p => !decide (Diag N p))) ∧ Below W4.heap.size W4 wr) (fun _ iv _ => L.length - (intOf iv).toNat)
 case atStart => exact ⟨0,_,rfl,rfl,Nat.zero_le _,OwnI.nil _ _,Below.refl _ _⟩
 case round =>
  obtain ⟨i,ow,rfl,rfl,hi,hO,hB⟩:=hrel
  obtain ⟨wo,rfl⟩ : ∃ wo : World,wo = wr:=⟨_,rfl⟩
  by_cases hil : i < L.length
  ·have diL : decide ((i : Int) < (L.length : Int)) = true:=decide_eq_true (by omega)
   obtain ⟨p,hp⟩ : ∃ p,L[i]? = some p:=⟨_,List.getElem?_eq_getElem hil⟩
   have hpM:=hlow.out p (List.mem_of_getElem? hp)
   obtain ⟨V,hV⟩ : ∃ V : World,wo.drew = V:=⟨_,rfl⟩
   have hBV : Below W4.heap.size W4 V:=by rw [← hV]; exact hB.drew
   have hOV : OwnI W4.heap.size V ow (castI ((L.take i).filter fun p => !decide (Diag N p))):=by rw [← hV]; exact hO
   have hlV:=hl4.out.below hBV
   have iL:=fun w' => hlV.idx i (by rw [castI_len]; exact hil) w'
   have cL:=hlV.cellD i (by rw [castI_len]; exact hil)
   rw [castI_get hp] at cL
   have htk : L.take (i + 1) = L.take i ++ [p]:=by rw [List.take_add_one,hp]; rfl
   have hfl : ((L.take i).filter fun p => !decide (Diag N p)).length ≤ i:=Nat.le_trans (List.length_filter_le _ _) (by rw [List.length_take]; omega)
   obtain ⟨e1,e2,e3,e4,e5,e6⟩:=dm9 p N (by omega)
   have hN3 : ¬ N = 0:=by omega
   have hN4 : ((N : Int) == 0) = false:=by rw [beq_eq_false_iff_ne]; omega
   have hne:=diag_bne N p
   have bVs:=hBV.size
   generalize valAt (.slice la ln lc) i = xa at *
   have hS : V.cell? xa = some (.int .i64 p):=cL
   generalize p / N = pd at *
   generalize p % N = pm at *
   replace hV:=Lib.hid hV
   replace hOV:=Lib.hid hOV
   replace hO:=Lib.hid hO
   replace hlV:=Lib.hid hlV
   replace hp:=Lib.hid hp
   replace htk:=Lib.hid htk
   replace hne:=Lib.hid hne
   go_upto_region 7 with fail
   refine wp_region_plan (fun w' => w'.cell? xa = some (.int .i64 p)) 12 [(0,true),(1,true),(2,true),(3,true),(4,true),(5,true),(6,true),(7,true),(8,true),(9,true),(10,true),(11,true)] (by kernel_rfl) (by kernel_rfl) ?_
   rw [hV.out]
   refine pqY 22 hS ?_
   refine pqY 23 hS ?_
   refine pqY 24 hS ?_
   refine pqY 25 hS ?_
   refine pqY 26 hS ?_
   refine pqY 27 hS ?_
   refine pqY 28 hS ?_
   refine pqY 29 hS ?_
   refine pqY 30 hS ?_
   refine pqY 31 hS ?_
   refine pqY 32 hS ?_
   refine pqY 33 hS ?_
   refine head0 ?_
   simp only [List.drop_succ_cons,List.drop_zero]
   clear hS
   by_cases hd : Diag N p
   ·have hne2:=hne.out
    rw [decide_eq_true hd] at hne2
    replace hne2 : ((pd : Int) != (pm : Int)) = false:=hne2
    have hO2:=hOV.out
    have : ((L.take (i + 1)).filter fun p => !decide (Diag N p)) = (L.take i).filter fun p => !decide (Diag N p):=by rw [htk.out,List.filter_append]; simp [hd]
    rw [← this] at hO2
    replace this:=Lib.hid this
    replace hO2:=Lib.hid hO2
    replace hd:=Lib.hid hd
    go_wp2
    refine NoPanic.normal ?_
    go_wp2
    go_roundw
    case measure => simp [intOf]; omega
    case rel => exact ⟨i + 1,_,rfl,by go_num,by omega,hO2.out,hBV⟩
   ·have hne2:=hne.out
    rw [decide_eq_false hd] at hne2
    replace hne2 : ((pd : Int) != (pm : Int)) = true:=hne2
    have : castI ((L.take i).filter fun p => !decide (Diag N p)) ++ [(p : Int)] = castI ((L.take (i + 1)).filter fun p => !decide (Diag N p)):=by rw [htk.out,List.filter_append]; simp [hd,castI]
    replace this:=Lib.hid this
    replace hd:=Lib.hid hd
    go_wp2
    refine NoPanic.normal ?_
    go_wp2_with (at_builtin; refine wpl_app1 rfl _ _ rfl W4.heap.size ow _ p hOV.out rfl rfl (by rw [castI_len]; omega) bVs ?_)
    intro v' w7 ho7 b7 _
    rw [this.out] at ho7
    obtain ⟨v7a,v7b,v7c,rfl⟩:=ho7.at.shape
    replace ho7:=Lib.hid ho7
    go_wp2
    go_roundw
    case measure => simp [intOf]; omega
    case rel => exact ⟨i + 1,_,rfl,by go_num,by omega,ho7.out,hBV.trans b7⟩
  ·obtain rfl : i = L.length:=by omega
   have diL : decide ((L.length : Int) < (L.length : Int)) = false:=decide_eq_false (by omega)
   rw [List.take_length] at hO
   obtain ⟨oa,on,oc,rfl⟩:=hO.at.shape
   have bE:=b04.trans (hB.mono b04.size)
   replace hO:=Lib.hid hO
   go_wp2
   go_ret
   exact ⟨_,rfl,bE,L,hLL.out,hO.out.mono b04.size⟩
set_option maxHeartbeats 2000000 in
theorem ref13_apart_bad (k R : Int) (va : Option Addr) (vn vc : Nat) (T : List Int) (t : Int × List (ByteArray × Int)) (w : World) (h : IntsAt w (.slice va vn vc) T) (hc : smallP k R T = some t) :
 Calls Tryz.prog 68 #[.agg #[.int .i64 k,.int .i64 R,.slice va vn vc]] w (Ret2 (fun x y w' => x = .slice none 0 0 ∧ EOwn w.heap.size w' (under sPairs 0 (some t)) y) w):=by
 have bA:=Below.step (belowAlloc w (.cells #[.int .i64 k,.int .i64 R,.slice va vn vc] 24)) (belowAlloc _ (.cells #[.int .i64 0,.slice none 0 0,.slice none 0 0] 37))
 have qA : Box3 ((w.alloc (.cells #[.int .i64 k,.int .i64 R,.slice va vn vc] 24)).alloc (.cells #[.int .i64 0,.slice none 0 0,.slice none 0 0] 37)) w.heap.size (.int .i64 k) (.int .i64 R) (.slice va vn vc):=by simp [Box3,go_sem]
 have q4 : Box3 ((w.alloc (.cells #[.int .i64 k,.int .i64 R,.slice va vn vc] 24)).alloc (.cells #[.int .i64 0,.slice none 0 0,.slice none 0 0] 37)) (w.heap.size + 1) (.int .i64 0) (.slice none 0 0) (.slice none 0 0):=by simp [Box3,go_sem]
 have s0 : ((w.alloc (.cells #[.int .i64 k,.int .i64 R,.slice va vn vc] 24)).alloc (.cells #[.int .i64 0,.slice none 0 0,.slice none 0 0] 37)).heap.size = w.heap.size + 2:=by simp
 obtain ⟨WA,hWA⟩ : ∃ W : World,((w.alloc (.cells #[.int .i64 k,.int .i64 R,.slice va vn vc] 24)).alloc (.cells #[.int .i64 0,.slice none 0 0,.slice none 0 0] 37)) = W:=⟨_,rfl⟩
 replace h:=h.below bA
 rw [hWA] at h bA qA q4 s0
 replace h:=Lib.hid h
 replace s0:=Lib.hid s0
 replace hWA:=Lib.hid hWA
 have qA0:=qA
 obtain ⟨⟨z0,z1,z2⟩,-,-,-⟩:=qA0
 replace hc:=Lib.hid hc
 go_enter Tryz.func68,Tryz.ntmps68
 go_upto_region 1 with fail
 rw [hWA.out]
 go_wp2_with fail
 refine (ref08_fault _ k R va vn vc T WA h.out).mono ?_
 rintro e w1 ⟨x,rfl,b1,he⟩
 rw [hc.out] at he
 obtain ⟨n,l⟩:=t
 have hn:=smallP_num hc.out
 have he':=he
 obtain ⟨a1,n1,c1,a2,n2,c2,rfl,_,_⟩:=he'
 obtain ⟨be,⟨⟨y0,y1,y2⟩,-,-,-⟩⟩:=err_box8 w1 (.int .i64 n) (.slice a1 n1 c1) (.slice a2 n2 c2)
 have c1e:=Below.step b1 be
 have hs1:=b1.size
 rw [s0.out] at hs1
 have hn0 : (n != 0) = true:=by rw [bne_iff_ne]; omega
 have heb:=he.below be
 obtain ⟨W2,hW2⟩ : ∃ W2 : World,w1.alloc (.cells #[.int .i64 n,.slice a1 n1 c1,.slice a2 n2 c2] 37) = W2:=⟨_,rfl⟩
 rw [hW2] at be c1e heb y0 y1 y2
 replace hW2:=Lib.hid hW2
 replace he:=Lib.hid he
 replace heb:=Lib.hid heb
 clear z0 z1 z2
 go_upto_region 2 with fail
 rw [hW2.out]
 go_wp2_with fail
 refine (err_bad _ _ _ _ _ _ _ W2).mono ?_
 rintro e w3 ⟨_,rfl,b3,rfl⟩
 rw [hn0]
 have hey:=heb.out.below b3
 have c3:=Below.step c1e b3
 obtain ⟨W,hW⟩ : ∃ W : World,w3.drew = W:=⟨_,rfl⟩
 have c4 : Below WA.heap.size WA W:=by rw [← hW]; exact c3.drew
 have heW : EOwn WA.heap.size W (under sPairs 0 (some (n,l))) (.agg #[.int .i64 n,.slice a1 n1 c1,.slice a2 n2 c2]):=by rw [← hW]; exact hey.drew
 have hS : W.cell? ⟨w1.heap.size,0,none⟩ = some (.int .i64 n) ∧ W.cell? ⟨w1.heap.size,1,none⟩ = some (.slice a1 n1 c1) ∧ W.cell? ⟨w1.heap.size,2,none⟩ = some (.slice a2 n2 c2):=by
  rw [← hW]
  exact ⟨(b3.cell (World.block_lt_of_cell? _ _ y0)).trans y0,(b3.cell (World.block_lt_of_cell? _ _ y1)).trans y1,(b3.cell (World.block_lt_of_cell? _ _ y2)).trans y2⟩
 obtain ⟨⟨u0,u1,u2⟩,f0,f1,f2⟩:=q4.below c4
 have sW:=c4.size
 rw [s0.out] at sW
 replace hW:=Lib.hid hW
 replace hey:=Lib.hid hey
 replace heW:=Lib.hid heW
 clear y0 y1 y2
 go_upto_region 3 with fail
 refine wp_region_plan (fun w' => w'.cell? ⟨w1.heap.size,0,none⟩ = some (.int .i64 n) ∧ w'.cell? ⟨w1.heap.size,1,none⟩ = some (.slice a1 n1 c1) ∧ w'.cell? ⟨w1.heap.size,2,none⟩ = some (.slice a2 n2 c2)) 2 [(0,true),(1,true)] (by kernel_rfl) (by kernel_rfl) ?_
 rw [hW.out]
 refine pqY 9 hS ?_
 refine pqY 2 hS ?_
 refine head0 ?_
 simp only [List.drop_succ_cons,List.drop_zero]
 clear hS
 go_wp2
 refine NoPanic.normal ?_
 go_wp2
 (try simp only [Exit.inBlock,Exit.then])
 refine bodyPost_ret (v:=.tuple #[.slice none 0 0,.agg #[.int .i64 n,.slice a1 n1 c1,.slice a2 n2 c2]]) (by simp [results,Tryz.results68,go_sem,u0,u1,u2]) rfl ⟨_,_,rfl,below_set3 (Below.step bA c4) (by omega) _ _ _,rfl,?_⟩
 have:=s0.out
 exact (heW.out.set3 (by omega) _ _ _).mono (by omega)
set_option maxHeartbeats 2000000 in
theorem ref13_apart_ok (K R : Nat) (va : Option Addr) (vn vc : Nat) (T : List Int) (w : World) (h : IntsAt w (.slice va vn vc) T) (hr : RuleOk K R T) (hl : T.length ≤ 256) :
 Calls Tryz.prog 68 #[.agg #[.int .i64 K,.int .i64 R,.slice va vn vc]] w (Ret2 (fun x y w' => y = .agg #[.int .i64 0,.slice none 0 0,.slice none 0 0] ∧ ∃ L,LiveList (pw K (2 * wkR R) * pw K (2 * wkR R)) (adjOf (pairG K (pw K (2 * wkR R)) (wkT K R T))) L ∧ OwnI w.heap.size w' x (castI (L.filter fun p => !decide (Diag (pw K (2 * wkR R)) p)))) w):=by
 have bA:=Below.step (belowAlloc w (.cells #[.int .i64 K,.int .i64 R,.slice va vn vc] 24)) (belowAlloc _ (.cells #[.int .i64 0,.slice none 0 0,.slice none 0 0] 37))
 have qA : Box3 ((w.alloc (.cells #[.int .i64 K,.int .i64 R,.slice va vn vc] 24)).alloc (.cells #[.int .i64 0,.slice none 0 0,.slice none 0 0] 37)) w.heap.size (.int .i64 K) (.int .i64 R) (.slice va vn vc):=by simp [Box3,go_sem]
 have q4 : Box3 ((w.alloc (.cells #[.int .i64 K,.int .i64 R,.slice va vn vc] 24)).alloc (.cells #[.int .i64 0,.slice none 0 0,.slice none 0 0] 37)) (w.heap.size + 1) (.int .i64 0) (.slice none 0 0) (.slice none 0 0):=by simp [Box3,go_sem]
 have s0 : ((w.alloc (.cells #[.int .i64 K,.int .i64 R,.slice va vn vc] 24)).alloc (.cells #[.int .i64 0,.slice none 0 0,.slice none 0 0] 37)).heap.size = w.heap.size + 2:=by simp
 obtain ⟨WA,hWA⟩ : ∃ W : World,((w.alloc (.cells #[.int .i64 K,.int .i64 R,.slice va vn vc] 24)).alloc (.cells #[.int .i64 0,.slice none 0 0,.slice none 0 0] 37)) = W:=⟨_,rfl⟩
 replace h:=h.below bA
 rw [hWA] at h bA qA q4 s0
 replace h:=Lib.hid h
 replace s0:=Lib.hid s0
 replace hWA:=Lib.hid hWA
 have qA0:=qA
 obtain ⟨⟨z0,z1,z2⟩,-,-,-⟩:=qA0
 have hsm : smallP K R T = none:=by rw [smallP_ok hr,if_neg (by omega)]
 have hwork:=fun (w' : World) (h' : IntsAt w' (.slice va vn vc) T) => ref_working K R va vn vc T w' h' hr
 have hcall:=fun (a : Option Addr) (n c : Nat) (w' : World) (h' : IntsAt w' (.slice a n c) (wkT K R T)) => ref_odd K (wkR R) a n c (wkT K R T) w' h' (wk_ok hr) (wk_pos R) (wk_small hr hl)
 replace hsm:=Lib.hid hsm
 replace hwork:=Lib.hid hwork
 replace hcall:=Lib.hid hcall
 replace hr:=Lib.hid hr
 go_enter Tryz.func68,Tryz.ntmps68
 go_upto_region 1 with fail
 rw [hWA.out]
 go_wp2_with fail
 refine (ref08_fault _ K R va vn vc T WA h.out).mono ?_
 rintro e w1 ⟨x,rfl,b1,he⟩
 rw [hsm.out] at he
 obtain rfl : x = .agg #[.int .i64 0,.slice none 0 0,.slice none 0 0]:=he
 obtain ⟨be,⟨⟨y0,y1,y2⟩,-,-,-⟩⟩:=err_box8 w1 (.int .i64 0) (.slice none 0 0) (.slice none 0 0)
 have c1e:=Below.step b1 be
 obtain ⟨W2,hW2⟩ : ∃ W2 : World,w1.alloc (.cells #[.int .i64 0,.slice none 0 0,.slice none 0 0] 37) = W2:=⟨_,rfl⟩
 rw [hW2] at be c1e y0 y1 y2
 replace hW2:=Lib.hid hW2
 clear z0 z1 z2
 go_upto_region 2 with fail
 rw [hW2.out]
 go_wp2_with fail
 refine (err_bad _ _ _ _ _ _ _ W2).mono ?_
 rintro e w3 ⟨_,rfl,b3,rfl⟩
 rw [show ((0 : Int) != 0) = false from rfl]
 have c3:=Below.step c1e b3
 clear y0 y1 y2
 obtain ⟨⟨z0,z1,z2⟩,-,-,-⟩:=qA.below c3
 go_wp2_with fail
 refine (hwork.out w3 (h.out.below c3)).mono ?_
 rintro e w4 ⟨_,rfl,b4,a,n,c,rfl,hT⟩
 have c4:=Below.step c3 b4
 replace hT:=Lib.hid hT
 clear z0 z1 z2
 go_wp2_with fail
 refine (hcall.out a n c w4 hT.out).mono ?_
 rintro e w5 ⟨x,rfl,b5,hx⟩
 have c5:=Below.step c4 b5
 obtain ⟨⟨u0,u1,u2⟩,f0,f1,f2⟩:=q4.below c5
 have sW:=c5.size
 rw [s0.out] at sW
 obtain ⟨L,hLL,hxI⟩:=hx
 obtain ⟨xa,xn,xc,rfl⟩:=hxI.at.shape
 have sE:=c4.size
 rw [s0.out] at sE
 have hx9:=(hxI.set3 (b:=w.heap.size + 1) (by omega) (.int .i64 0) (.slice none 0 0) (.slice none 0 0)).mono (B':=w.heap.size) (by omega)
 replace hLL:=Lib.hid hLL
 replace hxI:=Lib.hid hxI
 replace hx9:=Lib.hid hx9
 go_wp2
 (try simp only [Exit.inBlock,Exit.then])
 refine bodyPost_ret (v:=.tuple #[.slice xa xn xc,.agg #[.int .i64 0,.slice none 0 0,.slice none 0 0]]) (by simp [results,Tryz.results68,go_sem,u0,u1,u2]) rfl ⟨_,_,rfl,below_set3 (Below.step bA c5) (by omega) _ _ _,rfl,L,hLL.out,hx9.out⟩
end Go.Proofs.YtjiadfblphdchaaGreatDoor
namespace Go.Proofs.YtjiadfblphdchaaGreatDoor
open Go.RowKit
set_option maxRecDepth 100000
theorem pw_big {K i : Nat} (h4 : K ≤ 4) (hi : i ≤ 12) : pw K i ≤ 16777216 :=
 Nat.le_trans (Nat.pow_le_pow_left h4 i) (Nat.le_trans (Nat.pow_le_pow_right (by omega) hi) (by decide))
theorem ref_power12 (K n : Nat) (w : World) (_h1 : 1 ≤ K) (h4 : K ≤ 4) (hn : n ≤ 12) :
 Calls Tryz.prog 58 #[.int .i64 K,.int .i64 n] w fun e w' => e = .returned (.int .i64 (pw K n)) ∧ w = w':=by
 go_enter Tryz.func58,Tryz.ntmps58
 go_wp2
 go_loop [5,6] (fun x i => ∃ j : Nat,j ≤ n ∧ i = .int .i64 j ∧ x = .int .i64 (pw K j)) (fun _ i => n - (intOf i).toNat)
 case atStart => exact ⟨0,by omega,rfl,rfl⟩
 case round =>
  obtain ⟨j,hj,rfl,rfl⟩:=hrel
  by_cases hlt : j < n
  ·have hb:=pw_big (i:=j + 1) h4 (by omega)
   have hs : ((pw K (j + 1) : Nat) : Int) = (pw K j : Int) * (K : Int):=by rw [pw_succ]; simp
   have hb1 : 0 ≤ (pw K j : Int) * (K : Int):=by rw [← hs]; omega
   have hb2 : (pw K j : Int) * (K : Int) ≤ 16777216:=by rw [← hs]; omega
   replace hs:=Lib.hid hs
   go_wp2
   go_round
   case rel => exact ⟨j + 1,by omega,by go_num,by rw [hs.out]⟩
   case measure => simp [intOf]; omega
  ·obtain rfl : j = n:=by omega
   go_wp2
   go_ret
   exact ⟨rfl,rfl⟩
end Go.Proofs.YtjiadfblphdchaaGreatDoor
namespace Go.Proofs.YtjiadfblphdchaaGreatDoor
open Go.RowKit
set_option maxRecDepth 100000
theorem OwnI.far {B : Nat} {w : World} {v : Value} {xs : List Int} (h : OwnI B w v xs) {b : Nat} (hne : v.ownBlock = none ∨ v.ownBlock ≠ some b) (i : Nat) (u : Value) : OwnI B (w.setCell ⟨b,i,none⟩ u) v xs :=
 World.ownsRow.kept h (row:=some b) ⟨rfl,rfl,rfl,by simp [World.setCell],fun k _ hk => Below.heap_setCell _ _ _ _ (by simp at hk; omega)⟩ hne
theorem num_take (K : Nat) (l : List Int) (t : Nat) (ht : t < l.length) : numW K (l.take (t + 1)) = numW K (l.take t) * K + (l.getD t 0).toNat:=by
 rw [take_snoc l t ht,numW_snoc]; simp [List.getD,ht]
theorem next_lt {K n x : Nat} (hK : 1 ≤ K) (hx : x < pw K n) (u : List Int) (a : Int) (j : Nat) (h : digs K n x = u ++ [a] ++ List.replicate j ((K : Int) - 1)) (ha : a < (K : Int) - 1) : x + 1 < pw K n :=
 Classical.byContradiction fun hc => by
  have e : x = numW K (List.replicate n ((K : Int) - 1)):=by have:=numW_rep_max hK n; omega
  have hs : Syms K (List.replicate n ((K : Int) - 1)):=fun y hy => by have:=List.eq_of_mem_replicate hy; omega
  have e2:=digs_numW hK _ hs
  rw [List.length_replicate,← e,h] at e2
  have hm : a ∈ List.replicate n ((K : Int) - 1):=by rw [← e2]; simp
  have:=List.eq_of_mem_replicate hm
  omega
theorem below_drewN {B : Nat} {w w' : World} (h : Below B w w') (hs : B ≤ w'.heap.size) (n : Nat) : Below B w (w'.drewN n):=h.grown (drewN_grown w' n none) hs (fun k hk => by cases hk)
/-- What taken leaves. -/
def TakenPost (w : World) (K R d : Nat) (T : List Int) (x y : Value) (w' : World) : Prop :=
 ((tryF K R T d).1 = false ∧ y = .bool false ∧ x = zR) ∨ ((tryF K R T d).1 = true ∧ y = .bool true ∧ ∃ a n c,x = .agg #[.int .i64 K,.int .i64 d,.slice a n c] ∧ OwnI w.heap.size w' (.slice a n c) (tryF K R T d).2)
set_option maxHeartbeats 4000000 in
theorem taken_any (K R d : Nat) (va : Option Addr) (vn vc : Nat) (T : List Int) (w : World) (h : IntsAt w (.slice va vn vc) T) (hr : RuleOk K R T) (hd : d ≤ 3) :
 Calls Tryz.prog 36 #[.agg #[.int .i64 K,.int .i64 R,.slice va vn vc],.int .i64 d] w (Ret2 (TakenPost w K R d T) w):=by
 have b0:=Below.step (belowAlloc w (.cells #[.int .i64 K,.int .i64 R,.slice va vn vc] 24)) (belowAlloc _ (.cells #[.int .i64 0,.int .i64 0,.slice none 0 0] 24))
 have q:=(show Box3 ((w.alloc (.cells #[.int .i64 K,.int .i64 R,.slice va vn vc] 24)).alloc (.cells #[.int .i64 0,.int .i64 0,.slice none 0 0] 24)) w.heap.size (.int .i64 K) (.int .i64 R) (.slice va vn vc) by simp [Box3,go_sem])
 have qz:=(show Box3 ((w.alloc (.cells #[.int .i64 K,.int .i64 R,.slice va vn vc] 24)).alloc (.cells #[.int .i64 0,.int .i64 0,.slice none 0 0] 24)) (w.heap.size + 1) (.int .i64 0) (.int .i64 0) (.slice none 0 0) by simp [Box3,go_sem])
 have hk1:=hr.k1
 have hk4:=hr.k4
 have hR3:=hr.r3
 have hblk0:=fun i hi => h.blk i hi
 have hs0 : ((w.alloc (.cells #[.int .i64 K,.int .i64 R,.slice va vn vc] 24)).alloc (.cells #[.int .i64 0,.int .i64 0,.slice none 0 0] 24)).heap.size = w.heap.size + 2:=by simp
 replace h:=Lib.hid (h.below b0)
 replace hr:=Lib.hid hr
 replace hblk0:=Lib.hid hblk0
 obtain ⟨w0,hw0⟩ : ∃ W0 : World,(w.alloc (.cells #[.int .i64 K,.int .i64 R,.slice va vn vc] 24)).alloc (.cells #[.int .i64 0,.int .i64 0,.slice none 0 0] 24) = W0:=⟨_,rfl⟩
 rw [hw0] at b0 q qz hs0 h
 obtain ⟨n,hn⟩ : ∃ n,2 * (R + d) + 1 = n:=⟨_,rfl⟩
 have hw1 : (2 : Int) * ((R : Int) + (d : Int)) + 1 = (n : Int):=by omega
 have hnb : n ≤ 13:=by omega
 obtain ⟨m,hm⟩ : ∃ m,2 * d + 1 = m:=⟨_,rfl⟩
 have hm1 : (2 : Int) * (d : Int) + 1 = (m : Int):=by omega
 have hmb : m ≤ 7:=by omega
 have hwm : IntKind.i64.wrap (IntKind.i64.wrap (2 * (d : Int)) + 1) = (m : Int):=by
  rw [wrapK (x:=2 * (d : Int)) (by omega) (by omega),hm1,wrapK (by omega) (by omega)]
 replace hwm:=Lib.hid hwm
 obtain ⟨N,hN⟩ : ∃ N,pw K m = N:=⟨_,rfl⟩
 have hNb : N ≤ 16384:=by rw [← hN]; exact pw_le hk1 hk4 hmb
 have hN1 : 1 ≤ N:=by rw [← hN]; exact pw_pos _ hk1
 replace hn:=Lib.hid hn
 replace hm:=Lib.hid hm
 replace hN:=Lib.hid hN
 go_enter Tryz.func36,Tryz.ntmps36
 obtain ⟨⟨z0,z1,z2⟩,-,-,-⟩:=id q
 go_upto_region 2 with fail
 replace hw0:=Lib.hid hw0
 go_cut [7] from 22 (fun s7 wx => ∃ (g tb tn tc : Nat),s7 = .pointer (some ⟨g,0,none⟩) ∧ Below w0.heap.size w0 wx ∧ w0.heap.size ≤ g ∧ w0.heap.size ≤ tb ∧ g ≠ tb ∧ Box3 wx g (.int .i64 K) (.int .i64 d) (.slice (some ⟨tb,0,none⟩) tn tc) ∧ OwnI w0.heap.size wx (.slice (some ⟨tb,0,none⟩) tn tc) (List.replicate N 0))
 case first =>
  obtain ⟨W0,hW0⟩ : ∃ W0 : World,W0 = w0.drew:=⟨_,rfl⟩
  have bW0 : Below w0.heap.size w0 W0:=by rw [hW0]; exact (Below.refl _ _).drew
  have hS0 : W0.cell? ⟨w.heap.size,0,none⟩ = some (.int .i64 K):=by rw [hW0]; exact z0
  have hB0:=bW0.size
  refine wp_region_noPanic ?_
  refine wp_region_any (by kernel_rfl) ?_
  change wpAny _ _ _ _ _ _ _ (World.drew _)
  rw [← hW0]
  clear hW0 z0 z1 z2
  refine wpAny_of_held (S:=fun w' => w'.cell? ⟨w.heap.size,0,none⟩ = some (.int .i64 K)) _ _ _ _ ?_
  refine pqD 0 22 hS0 ?_
  refine pqD 1 23 hS0 ?_
  refine pqD 2 24 hS0 ?_
  refine pqD 3 25 hS0 ?_
  refine pqD 4 26 hS0 ?_
  refine pqD 5 27 hS0 ?_
  refine pqD 6 28 hS0 ?_
  refine pqD 7 29 hS0 ?_
  refine wpAnyH_ready (rs:=[8,11]) (by kernel_rfl) (by simp) (AllReadyH.cons rfl (fun KK hK => ?_) (AllReadyH.cons rfl (fun KK hK => ?_) AllReadyH.nil))
  ·go_simp
   rw [hwm.out]
   refine (ref_power12 K m W0 hk1 hk4 (by omega)).mono ?_
   rintro e _ ⟨rfl,rfl⟩
   rw [hN.out]
   refine hK.out _ _ hS0 fun _ => ?_
   clear hK KK
   refine wpAnyH_ready (rs:=[9,11]) (by kernel_rfl) (by simp) (AllReadyH.cons rfl (fun KK hK => ?_) (AllReadyH.cons rfl (fun KK hK => ?_) AllReadyH.nil))
   ·obtain ⟨tv,W2,mk,OT,bb⟩:=run_makeI (N : Int) N W0 rfl (by omega)
    go_simp
    try rw [mk]
    try simp only [Result.andThen]
    clear mk
    obtain ⟨tb,tn,tc,rfl,lt0,lt1⟩:=OT.open (by intro e; have:=congrArg List.length e; simp at this; omega)
    have lt : w0.heap.size ≤ tb:=Nat.le_trans hB0 lt0
    replace OT:=OT.mono hB0
    have bW2:=bW0.trans (bb.mono hB0)
    have hB2:=bW2.size
    have hS2 : W2.cell? ⟨w.heap.size,0,none⟩ = some (.int .i64 K):=(q.below bW2).1.1
    clear lt0 bb
    refine hK.out _ _ hS2 fun _ => ?_
    clear hK KK
    refine pqD 10 32 hS2 ?_
    refine wpAnyH_ready (rs:=[11]) (by kernel_rfl) (by simp) (AllReadyH.cons rfl (fun KK hK => ?_) AllReadyH.nil)
    ·go_simp
     have bb:=belowAlloc W2 (.cells #[.int .i64 0,.int .i64 0,.slice none 0 0] 24)
     have QB : Box3 (W2.alloc (.cells #[.int .i64 0,.int .i64 0,.slice none 0 0] 24)) W2.heap.size (.int .i64 0) (.int .i64 0) (.slice none 0 0):=by simp [Box3,go_sem]
     obtain ⟨g,hgb⟩ : ∃ g,W2.heap.size = g:=⟨_,rfl⟩
     have lg : w0.heap.size ≤ g:=by rw [← hgb]; exact hB2
     obtain ⟨W3,hW3⟩ : ∃ W' : World,W2.alloc (.cells #[.int .i64 0,.int .i64 0,.slice none 0 0] 24) = W':=⟨_,rfl⟩
     have gs : g < W3.heap.size:=by rw [← hW3,← hgb]; simp
     rw [hW3] at QB bb
     rw [hgb] at QB
     have bW3:=bW2.trans (bb.mono hB2)
     have hB3:=bW3.size
     have hS3 : W3.cell? ⟨w.heap.size,0,none⟩ = some (.int .i64 K):=(q.below bW3).1.1
     have neT : g ≠ tb:=by omega
     have hgt : (Value.slice (some ⟨tb,0,none⟩) tn tc).ownBlock = none ∨ (Value.slice (some ⟨tb,0,none⟩) tn tc).ownBlock ≠ some g:=.inr (fun e => neT (Option.some.inj e).symm)
     replace OT:=OT.below bb
     rw [hW3,hgb]
     replace hW3:=Lib.hid hW3
     replace hgb:=Lib.hid hgb
     refine hK.out _ _ hS3 fun _ => ?_
     clear hK KK bb
     obtain ⟨⟨t0,t1,t2⟩,ft0,ft1,ft2⟩:=id QB
     have QB2:=QB.st3 (.int .i64 K) (.int .i64 d) (.slice (some ⟨tb,0,none⟩) tn tc)
     have bb:=below_set3 bW3 lg (.int .i64 K) (.int .i64 d) (.slice (some ⟨tb,0,none⟩) tn tc)
     have OT2:=((OT.far (b:=g) hgt 0 (.int .i64 K)).far hgt 1 (.int .i64 d)).far hgt 2 (.slice (some ⟨tb,0,none⟩) tn tc)
     obtain ⟨W4,hW4⟩ : ∃ W' : World,((W3.setCell ⟨g,0,none⟩ (.int .i64 K)).setCell ⟨g,1,none⟩ (.int .i64 d)).setCell ⟨g,2,none⟩ (.slice (some ⟨tb,0,none⟩) tn tc) = W':=⟨_,rfl⟩
     unfold st3 at QB2
     rw [hW4] at QB2 bb OT2
     have hS4 : W4.cell? ⟨w.heap.size,0,none⟩ = some (.int .i64 K):=(q.below bb).1.1
     replace hW4:=Lib.hid hW4
     refine wpAnyH_ready (rs:=[12]) (by kernel_rfl) (by simp) (AllReadyH.cons rfl (fun KK hK => ?_) AllReadyH.nil)
     go_simp
     rw [hW4.out]
     refine hK.out _ _ hS4 fun _ => ?_
     clear hK KK t0 t1 t2 ft0 ft1 ft2 QB OT
     refine wpAnyH_done (by kernel_rfl) ?_ _
     refine NoPanic.normal ?_
     replace QB2:=Lib.hid QB2
     replace OT2:=Lib.hid OT2
     replace hgt:=Lib.hid hgt
     go_wp2
     go_meet
     case rel => exact ⟨g,tb,tn,tc,rfl,bb,lg,lt,neT,QB2.out,OT2.out⟩
   ·go_simp
    have bb:=belowAlloc W0 (.cells #[.int .i64 0,.int .i64 0,.slice none 0 0] 24)
    have QB : Box3 (W0.alloc (.cells #[.int .i64 0,.int .i64 0,.slice none 0 0] 24)) W0.heap.size (.int .i64 0) (.int .i64 0) (.slice none 0 0):=by simp [Box3,go_sem]
    obtain ⟨g,hgb⟩ : ∃ g,W0.heap.size = g:=⟨_,rfl⟩
    have lg : w0.heap.size ≤ g:=by rw [← hgb]; exact hB0
    obtain ⟨W5,hW5⟩ : ∃ W' : World,W0.alloc (.cells #[.int .i64 0,.int .i64 0,.slice none 0 0] 24) = W':=⟨_,rfl⟩
    have gs : g < W5.heap.size:=by rw [← hW5,← hgb]; simp
    rw [hW5] at QB bb
    rw [hgb] at QB
    have bW5:=bW0.trans (bb.mono hB0)
    have hB5:=bW5.size
    have hS5 : W5.cell? ⟨w.heap.size,0,none⟩ = some (.int .i64 K):=(q.below bW5).1.1
    rw [hW5,hgb]
    replace hW5:=Lib.hid hW5
    replace hgb:=Lib.hid hgb
    refine hK.out _ _ hS5 fun _ => ?_
    clear hK KK bb
    refine wpAnyH_ready (rs:=[9]) (by kernel_rfl) (by simp) (AllReadyH.cons rfl (fun KK hK => ?_) AllReadyH.nil)
    ·obtain ⟨tv,W6,mk,OT,bb⟩:=run_makeI (N : Int) N W5 rfl (by omega)
     go_simp
     try rw [mk]
     try simp only [Result.andThen]
     clear mk
     obtain ⟨tb,tn,tc,rfl,lt0,lt1⟩:=OT.open (by intro e; have:=congrArg List.length e; simp at this; omega)
     have lt : w0.heap.size ≤ tb:=Nat.le_trans hB5 lt0
     replace OT:=OT.mono hB5
     have bW6:=bW5.trans (bb.mono hB5)
     have hB6:=bW6.size
     have hS6 : W6.cell? ⟨w.heap.size,0,none⟩ = some (.int .i64 K):=(q.below bW6).1.1
     have neT : g ≠ tb:=by omega
     have hgt : (Value.slice (some ⟨tb,0,none⟩) tn tc).ownBlock = none ∨ (Value.slice (some ⟨tb,0,none⟩) tn tc).ownBlock ≠ some g:=.inr (fun e => neT (Option.some.inj e).symm)
     replace QB:=QB.below bb
     clear lt0 bb
     refine hK.out _ _ hS6 fun _ => ?_
     clear hK KK
     refine pqD 10 32 hS6 ?_
     obtain ⟨⟨t0,t1,t2⟩,ft0,ft1,ft2⟩:=id QB
     have QB2:=QB.st3 (.int .i64 K) (.int .i64 d) (.slice (some ⟨tb,0,none⟩) tn tc)
     have bb:=below_set3 bW6 lg (.int .i64 K) (.int .i64 d) (.slice (some ⟨tb,0,none⟩) tn tc)
     have OT2:=((OT.far (b:=g) hgt 0 (.int .i64 K)).far hgt 1 (.int .i64 d)).far hgt 2 (.slice (some ⟨tb,0,none⟩) tn tc)
     obtain ⟨W7,hW7⟩ : ∃ W' : World,((W6.setCell ⟨g,0,none⟩ (.int .i64 K)).setCell ⟨g,1,none⟩ (.int .i64 d)).setCell ⟨g,2,none⟩ (.slice (some ⟨tb,0,none⟩) tn tc) = W':=⟨_,rfl⟩
     unfold st3 at QB2
     rw [hW7] at QB2 bb OT2
     have hS7 : W7.cell? ⟨w.heap.size,0,none⟩ = some (.int .i64 K):=(q.below bb).1.1
     replace hW7:=Lib.hid hW7
     refine wpAnyH_ready (rs:=[12]) (by kernel_rfl) (by simp) (AllReadyH.cons rfl (fun KK hK => ?_) AllReadyH.nil)
     go_simp
     rw [hW7.out]
     refine hK.out _ _ hS7 fun _ => ?_
     clear hK KK t0 t1 t2 ft0 ft1 ft2 QB OT
     refine wpAnyH_done (by kernel_rfl) ?_ _
     refine NoPanic.normal ?_
     replace QB2:=Lib.hid QB2
     replace OT2:=Lib.hid OT2
     replace hgt:=Lib.hid hgt
     go_wp2
     go_meet
     case rel => exact ⟨g,tb,tn,tc,rfl,bb,lg,lt,neT,QB2.out,OT2.out⟩
  ·go_simp
   have bb:=belowAlloc W0 (.cells #[.int .i64 0,.int .i64 0,.slice none 0 0] 24)
   have QB : Box3 (W0.alloc (.cells #[.int .i64 0,.int .i64 0,.slice none 0 0] 24)) W0.heap.size (.int .i64 0) (.int .i64 0) (.slice none 0 0):=by simp [Box3,go_sem]
   obtain ⟨g,hgb⟩ : ∃ g,W0.heap.size = g:=⟨_,rfl⟩
   have lg : w0.heap.size ≤ g:=by rw [← hgb]; exact hB0
   obtain ⟨W8,hW8⟩ : ∃ W' : World,W0.alloc (.cells #[.int .i64 0,.int .i64 0,.slice none 0 0] 24) = W':=⟨_,rfl⟩
   have gs : g < W8.heap.size:=by rw [← hW8,← hgb]; simp
   rw [hW8] at QB bb
   rw [hgb] at QB
   have bW8:=bW0.trans (bb.mono hB0)
   have hB8:=bW8.size
   have hS8 : W8.cell? ⟨w.heap.size,0,none⟩ = some (.int .i64 K):=(q.below bW8).1.1
   rw [hW8,hgb]
   replace hW8:=Lib.hid hW8
   replace hgb:=Lib.hid hgb
   refine hK.out _ _ hS8 fun _ => ?_
   clear hK KK bb
   refine wpAnyH_ready (rs:=[8]) (by kernel_rfl) (by simp) (AllReadyH.cons rfl (fun KK hK => ?_) AllReadyH.nil)
   ·go_simp
    rw [hwm.out]
    refine (ref_power12 K m W8 hk1 hk4 (by omega)).mono ?_
    rintro e _ ⟨rfl,rfl⟩
    rw [hN.out]
    refine hK.out _ _ hS8 fun _ => ?_
    clear hK KK
    refine wpAnyH_ready (rs:=[9]) (by kernel_rfl) (by simp) (AllReadyH.cons rfl (fun KK hK => ?_) AllReadyH.nil)
    ·obtain ⟨tv,W10,mk,OT,bb⟩:=run_makeI (N : Int) N W8 rfl (by omega)
     go_simp
     try rw [mk]
     try simp only [Result.andThen]
     clear mk
     obtain ⟨tb,tn,tc,rfl,lt0,lt1⟩:=OT.open (by intro e; have:=congrArg List.length e; simp at this; omega)
     have lt : w0.heap.size ≤ tb:=Nat.le_trans hB8 lt0
     replace OT:=OT.mono hB8
     have bW10:=bW8.trans (bb.mono hB8)
     have hB10:=bW10.size
     have hS10 : W10.cell? ⟨w.heap.size,0,none⟩ = some (.int .i64 K):=(q.below bW10).1.1
     have neT : g ≠ tb:=by omega
     have hgt : (Value.slice (some ⟨tb,0,none⟩) tn tc).ownBlock = none ∨ (Value.slice (some ⟨tb,0,none⟩) tn tc).ownBlock ≠ some g:=.inr (fun e => neT (Option.some.inj e).symm)
     replace QB:=QB.below bb
     clear lt0 bb
     refine hK.out _ _ hS10 fun _ => ?_
     clear hK KK
     refine pqD 10 32 hS10 ?_
     obtain ⟨⟨t0,t1,t2⟩,ft0,ft1,ft2⟩:=id QB
     have QB2:=QB.st3 (.int .i64 K) (.int .i64 d) (.slice (some ⟨tb,0,none⟩) tn tc)
     have bb:=below_set3 bW10 lg (.int .i64 K) (.int .i64 d) (.slice (some ⟨tb,0,none⟩) tn tc)
     have OT2:=((OT.far (b:=g) hgt 0 (.int .i64 K)).far hgt 1 (.int .i64 d)).far hgt 2 (.slice (some ⟨tb,0,none⟩) tn tc)
     obtain ⟨W11,hW11⟩ : ∃ W' : World,((W10.setCell ⟨g,0,none⟩ (.int .i64 K)).setCell ⟨g,1,none⟩ (.int .i64 d)).setCell ⟨g,2,none⟩ (.slice (some ⟨tb,0,none⟩) tn tc) = W':=⟨_,rfl⟩
     unfold st3 at QB2
     rw [hW11] at QB2 bb OT2
     have hS11 : W11.cell? ⟨w.heap.size,0,none⟩ = some (.int .i64 K):=(q.below bb).1.1
     replace hW11:=Lib.hid hW11
     refine wpAnyH_ready (rs:=[12]) (by kernel_rfl) (by simp) (AllReadyH.cons rfl (fun KK hK => ?_) AllReadyH.nil)
     go_simp
     rw [hW11.out]
     refine hK.out _ _ hS11 fun _ => ?_
     clear hK KK t0 t1 t2 ft0 ft1 ft2 QB OT
     refine wpAnyH_done (by kernel_rfl) ?_ _
     refine NoPanic.normal ?_
     replace QB2:=Lib.hid QB2
     replace OT2:=Lib.hid OT2
     replace hgt:=Lib.hid hgt
     go_wp2
     go_meet
     case rel => exact ⟨g,tb,tn,tc,rfl,bb,lg,lt,neT,QB2.out,OT2.out⟩
 case rest =>
  obtain ⟨g,tb,tn,tc,rfl,bc,lg,lt,neT,QB,OT⟩:=hcut
  have N0 : OwnI w0.heap.size wc (.slice (some ⟨tb,0,none⟩) tn tc) (List.replicate 0 (-1) ++ List.replicate (N - 0) 0):=OT
  have lz:=OT.at.len
  rw [List.length_replicate] at lz
  replace OT:=Lib.hid OT
  clear z0 z1 z2
  replace neT:=Lib.hid neT
  replace N0:=Lib.hid N0
  go_wp2_with fail
  go_loopw [8] (fun jv wr => ∃ j : Nat,j ≤ N ∧ jv = .int .i64 j ∧ OwnI w0.heap.size wr (.slice (some ⟨tb,0,none⟩) tn tc) (List.replicate j (-1) ++ List.replicate (N - j) 0) ∧ Box3 wr g (.int .i64 K) (.int .i64 d) (.slice (some ⟨tb,0,none⟩) tn tc) ∧ Below w0.heap.size w0 wr) (fun jv _ => N - (intOf jv).toNat)
  case atStart => exact ⟨0,Nat.zero_le _,rfl,N0.out,QB,bc⟩
  case round =>
   clear bc QB
   obtain ⟨j,hj,rfl,hO,hQ,hB⟩:=hrel
   obtain ⟨wi,rfl⟩ : ∃ wo : World,wo = wr:=⟨_,rfl⟩
   obtain ⟨⟨g0,g1,g2⟩,-,-,-⟩:=id hQ
   by_cases hjn : j < N
   ·have dj : decide ((j : Int) < (N : Int)) = true:=decide_eq_true (by omega)
    have hOl : (List.replicate j (-1 : Int) ++ List.replicate (N - j) 0).length = N:=by simp; omega
    have iO:=fun w' => hO.at.idx j (by rw [hOl]; exact hjn) w'
    have fO:=hO.frz j (by rw [hOl]; exact hjn)
    obtain ⟨c0,cO⟩ : ∃ z,wi.cell? (valAt (.slice (some ⟨tb,0,none⟩) tn tc) j) = some z:=⟨_,hO.at.cell j (by rw [hOl]; exact hjn)⟩
    have hset:=hO.set j (by rw [hOl]; exact hjn) (-1)
    have hbs:=hO.setBelow hB j (by rw [hOl]; exact hjn) (.int .i64 (-1))
    rw [minus_step j N hjn] at hset
    have hq2:=hQ.far (b':=tb) neT.out.symm j (.int .i64 (-1))
    rw [← show valAt (.slice (some ⟨tb,0,none⟩) tn tc) j = ⟨tb,j,none⟩ from valAt_row ..] at hq2
    obtain ⟨p,hp⟩ : ∃ p,valAt (.slice (some ⟨tb,0,none⟩) tn tc) j = p:=⟨_,rfl⟩
    rw [hp] at iO fO cO hset hbs hq2
    replace hset:=Lib.hid hset
    replace hbs:=Lib.hid hbs
    replace hq2:=Lib.hid hq2
    replace hO:=Lib.hid hO
    replace hp:=Lib.hid hp
    replace hOl:=Lib.hid hOl
    replace hQ:=Lib.hid hQ
    go_wp2
    go_roundw
    case measure => simp [intOf]; omega
    case rel => exact ⟨j + 1,by omega,by go_num,hset.out,hq2.out,hbs.out⟩
   ·obtain rfl : j = N:=by omega
    have dj : decide ((j : Int) < (j : Int)) = false:=decide_eq_false (by omega)
    rw [Nat.sub_self,List.replicate_zero,List.append_nil] at hO
    obtain ⟨wv,w3,mk,hW,b3⟩:=run_makeI (n : Int) n wi rfl (by omega)
    obtain ⟨wb,wn,wl,rfl,lb0,lb1⟩:=hW.open (by intro e; have:=congrArg List.length e; simp at this; omega)
    have htb : tb < wi.heap.size:=hO.lt tb rfl |>.2
    have neW : wb ≠ tb:=by omega
    have hgl:=World.block_lt_of_cell? _ _ g0
    have neG : g ≠ wb:=by have : g < wi.heap.size:=hgl; omega
    have hO3:=hO.below b3
    have hQ3:=hQ.below b3
    have hB3:=hB.trans (b3.mono hB.size)
    have hW3 : OwnI w0.heap.size w3 (.slice (some ⟨wb,0,none⟩) wn wl) (digs K n 0):=by rw [digs_zero]; exact hW.mono hB.size
    clear lb0 lb1 b3 hW hgl htb
    replace hO:=Lib.hid hO
    replace hQ:=Lib.hid hQ
    replace hO3:=Lib.hid hO3
    replace hQ3:=Lib.hid hQ3
    replace hW3:=Lib.hid hW3
    replace neW:=Lib.hid neW
    replace neG:=Lib.hid neG
    go_wp2_with fail
    clear mk
    have hrr:=hr.out
    have hTl:=hrr.len
    have hnm : n = 2 * R + m:=by rw [← hn.out,← hm.out]; omega
    have hhalf : n / 2 = R + d:=by rw [← hn.out]; omega
    have htw : tryF K R T d = fillL (leafF K R n T) (List.range (pw K n)) (List.replicate j (-1)):=by
     rw [try_words hrr d,hn.out,hm.out,hN.out]
    have hp1 : 1 ≤ pw K n:=pw_pos _ hk1
    replace htw:=Lib.hid htw
    replace hnm:=Lib.hid hnm
    replace hhalf:=Lib.hid hhalf
    replace hTl:=Lib.hid hTl
    clear hrr g0 g1 g2 lz
    go_loopg [] (pw K n) (fun k wr => ∃ (i : Nat) (tab : List Int),k + i = pw K n ∧ 1 ≤ k ∧ fillL (leafF K R n T) (List.range i) (List.replicate j (-1)) = (true,tab) ∧ tab.length = j ∧ OwnI w0.heap.size wr (.slice (some ⟨tb,0,none⟩) tn tc) tab ∧ OwnI w0.heap.size wr (.slice (some ⟨wb,0,none⟩) wn wl) (digs K n i) ∧ Box3 wr g (.int .i64 K) (.int .i64 d) (.slice (some ⟨tb,0,none⟩) tn tc) ∧ Below w0.heap.size w0 wr)
    case atStart => exact ⟨0,_,rfl,hp1,rfl,by simp,hO3.out,hW3.out,hQ3.out,hB3⟩
    case round =>
     clear hB3
     obtain ⟨i,tab,hki,hk1',hft,htl,hT,hW,hQ,hB⟩:=hrel
     obtain ⟨wo,rfl⟩ : ∃ wo : World,wo = wr:=⟨_,rfl⟩
     obtain ⟨u,hu⟩ : ∃ u,digs K n i = u:=⟨_,rfl⟩
     have hul : u.length = n:=by rw [← hu,digs_length]
     have hus : Syms K u:=by rw [← hu]; exact digs_syms hk1 n i
     rw [hu] at hW
     obtain ⟨⟨z0,z1,z2⟩,-,-,-⟩:=q.below hB
     have hTr:=h.out.below hB
     have lT:=hTr.len
     obtain ⟨U,hU⟩ : ∃ U,imgP K R T u = U:=⟨_,rfl⟩
     have hUl : U.length = m:=by rw [← hU,imgP_length,hul,hnm.out]; omega
     have hUs : Syms K U:=by rw [← hU]; exact imgP_syms hk1 hr.out.syms
     have hUg : ∀ x,x < m → U.getD x 0 = T.getD (numW K ((u.drop x).take (2 * R + 1))) 0:=fun x hx => by
      rw [← hU]; exact imgP_getD K R T u x (by rw [hul,hnm.out]; omega)
     have hnm' : (n : Int) = 2 * (R : Int) + (m : Int):=by rw [hnm.out]; omega
     replace hu:=Lib.hid hu
     replace hul:=Lib.hid hul
     replace hus:=Lib.hid hus
     replace hU:=Lib.hid hU
     replace hUl:=Lib.hid hUl
     replace hUs:=Lib.hid hUs
     replace hUg:=Lib.hid hUg
     replace hnm':=Lib.hid hnm'
     replace hft:=Lib.hid hft
     replace hki:=Lib.hid hki
     replace htl:=Lib.hid htl
     replace hT:=Lib.hid hT
     replace hW:=Lib.hid hW
     replace hQ:=Lib.hid hQ
     replace hTr:=Lib.hid hTr
     go_wp2_with fail
     go_loopw [10,11] (fun av bv wr => ∃ x M : Nat,x ≤ m ∧ bv = .int .i64 x ∧ av = .int .i64 (numW K (U.take x)) ∧ wr = wo.drewN M) (fun _ bv _ => m - (intOf bv).toNat)
     case atStart => exact ⟨0,0,Nat.zero_le _,rfl,rfl,rfl⟩
     case round =>
      obtain ⟨x,M,hx,rfl,rfl,rfl⟩:=hrel
      by_cases hxm : x < m
      ·have dx : decide ((x : Int) + 2 * (R : Int) < (n : Int)) = true:=decide_eq_true (by rw [hnm'.out]; omega)
       go_wp2_with fail
       go_loopw [12,13] (fun av bv wr => ∃ p M : Nat,x ≤ p ∧ p ≤ x + (2 * R + 1) ∧ bv = .int .i64 p ∧ av = .int .i64 (numW K ((u.drop x).take (p - x))) ∧ wr = wo.drewN M) (fun _ bv _ => x + (2 * R + 1) - (intOf bv).toNat)
       case atStart => exact ⟨x,M,Nat.le_refl _,by omega,rfl,by simp [numW],rfl⟩
       case round =>
        obtain ⟨p,M',hp1',hp2,rfl,rfl,rfl⟩:=hrel
        by_cases hpx : p < x + (2 * R + 1)
        ·have dp : decide ((p : Int) ≤ (x : Int) + 2 * (R : Int)) = true:=decide_eq_true (by omega)
         have hpn : p < u.length:=by rw [hul.out,hnm.out]; omega
         have iW:=fun w' => hW.out.at.idx p hpn w'
         have cW:=hW.out.at.cellD p hpn
         have sW:=getD_syms hus.out hpn
         have hv:=num_take K (u.drop x) (p - x) (by rw [List.length_drop]; omega)
         rw [show (u.drop x).getD (p - x) 0 = u.getD p 0 by simp [List.getD_eq_getElem?_getD,show x + (p - x) = p by omega],show p - x + 1 = p + 1 - x by omega] at hv
         have hvb : numW K ((u.drop x).take (p - x)) ≤ 16384:=by
          have h1:=numW_lt ((u.drop x).take (p - x)) (fun y hy => hus.out y (List.mem_of_mem_drop (List.mem_of_mem_take hy)))
          have h2:=pw_le (K:=K) hk1 hk4 (i:=((u.drop x).take (p - x)).length) (by simp; omega)
          omega
         generalize u.getD p 0 = c at cW sW hv
         obtain ⟨V,hV⟩ : ∃ V,numW K ((u.drop x).take (p - x)) = V:=⟨_,rfl⟩
         rw [hV] at hv hvb
         rw [hV]
         have hm1' : 0 ≤ (V : Int) * (K : Int):=Int.mul_nonneg (by omega) (by omega)
         have hm2' : (V : Int) * (K : Int) ≤ 65536:=by
          have : V * K ≤ 65536:=Nat.mul_le_mul hvb hk4
          have h2:=Int.ofNat_le.2 this
          rw [Int.natCast_mul] at h2
          exact h2
         replace hv:=Lib.hid hv
         replace hV:=Lib.hid hV
         go_wp2_with fail
         go_quiet (fail)
         go_wp2
         go_roundw
         case measure => simp [intOf]; omega
         case rel => exact ⟨p + 1,_,by omega,by omega,by go_num,by rw [hv.out]; go_num,rfl⟩
        ·have dp : decide ((p : Int) ≤ (x : Int) + 2 * (R : Int)) = false:=decide_eq_false (by omega)
         obtain ⟨V,hV⟩ : ∃ V,numW K ((u.drop x).take (p - x)) = V:=⟨_,rfl⟩
         rw [hV]
         rw [show p - x = 2 * R + 1 by omega] at hV
         have hVl : V < T.length:=by
          have h1:=numW_lt ((u.drop x).take (2 * R + 1)) (fun y hy => hus.out y (List.mem_of_mem_drop (List.mem_of_mem_take hy)))
          rw [hV,List.length_take,List.length_drop,hul.out,Nat.min_eq_left (by rw [hnm.out]; omega),← hTl.out] at h1
          exact h1
         have iT:=fun w' => hTr.out.idx V hVl w'
         have cT:=hTr.out.cellD V hVl
         have sT:=getD_syms hr.out.syms hVl
         have hA:=num_take K U x (by rw [hUl.out]; exact hxm)
         rw [hUg.out x hxm,hV] at hA
         have hvb : numW K (U.take x) ≤ 16384:=by
          have h1:=numW_lt (U.take x) (fun y hy => hUs.out y (List.mem_of_mem_take hy))
          have h2:=pw_le (K:=K) hk1 hk4 (i:=(U.take x).length) (by simp; omega)
          omega
         generalize T.getD V 0 = c at cT sT hA
         obtain ⟨A,hA0⟩ : ∃ A,numW K (U.take x) = A:=⟨_,rfl⟩
         rw [hA0] at hA hvb
         rw [hA0]
         have hm1' : 0 ≤ (A : Int) * (K : Int):=Int.mul_nonneg (by omega) (by omega)
         have hm2' : (A : Int) * (K : Int) ≤ 65536:=by
          have : A * K ≤ 65536:=Nat.mul_le_mul hvb hk4
          have h2:=Int.ofNat_le.2 this
          rw [Int.natCast_mul] at h2
          exact h2
         replace hA:=Lib.hid hA
         replace hA0:=Lib.hid hA0
         replace hV:=Lib.hid hV
         go_wp2_with fail
         go_quiet (fail)
         go_wp2
         go_roundw
         case measure => simp [intOf]; omega
         case rel => exact ⟨x + 1,_,by omega,by go_num,by rw [hA.out]; go_num,rfl⟩
      ·obtain rfl : x = m:=by omega
       have dx : decide ((x : Int) + 2 * (R : Int) < (n : Int)) = false:=decide_eq_false (by rw [hnm'.out]; omega)
       obtain ⟨W6,hW6⟩ : ∃ W : World,wo.drewN M = W:=⟨_,rfl⟩
       have hT6 : OwnI w0.heap.size W6 (.slice (some ⟨tb,0,none⟩) tn tc) tab:=by rw [← hW6]; exact hT.out
       have hW6' : OwnI w0.heap.size W6 (.slice (some ⟨wb,0,none⟩) wn wl) u:=by rw [← hW6]; exact hW.out
       have hQ6 : Box3 W6 g (.int .i64 K) (.int .i64 d) (.slice (some ⟨tb,0,none⟩) tn tc):=by rw [← hW6]; exact hQ.out
       have hB6 : Below w0.heap.size w0 W6:=by rw [← hW6]; exact below_drewN hB hB.size M
       rw [hW6]
       replace hW6:=Lib.hid hW6
       obtain ⟨⟨z0,z1,z2⟩,-,-,-⟩:=q.below hB6
       obtain ⟨⟨g0,g1,g2⟩,gf0,gf1,gf2⟩:=id hQ6
       obtain ⟨A,hA0⟩ : ∃ A,numW K (U.take x) = A:=⟨_,rfl⟩
       rw [hA0]
       rw [List.take_of_length_le (by rw [hUl.out]; exact Nat.le_refl _)] at hA0
       have hAl : A < tab.length:=by
        have h1:=numW_lt U hUs.out
        rw [hA0,hUl.out,hN.out] at h1
        rw [htl.out]; exact h1
       have hcn : R + d < u.length:=by rw [hul.out,← hn.out]; omega
       have iC : ∀ w',(Instr.indexAt 22 (.slice (some ⟨wb,0,none⟩) wn wl) (.int .i64 ((R : Int) + (d : Int)))).run Tryz.prog w' = .ok (.pointer (some (valAt (.slice (some ⟨wb,0,none⟩) wn wl) (R + d)))) w':=by
        intro w'
        have:=hW6'.at.idxI ((R : Int) + (d : Int)) (by omega) (by omega) w'
        rwa [show ((R : Int) + (d : Int)).toNat = R + d by omega] at this
       have cC:=hW6'.at.cellD (R + d) hcn
       have iT:=fun w' => hT6.at.idx A hAl w'
       have cT:=hT6.at.cellD A hAl
       have fT:=hT6.frz A hAl
       have hF : leafF K R n T i tab = if 0 ≤ tab.getD A 0 ∧ tab.getD A 0 ≠ u.getD (R + d) 0 then (false,tab) else (true,tab.set A (u.getD (R + d) 0)):=by
        unfold leafF; rw [hu.out,hU.out,hA0,hhalf.out]
       have hilt : i < pw K n:=by have:=hki.out; omega
       obtain ⟨y,hy⟩ : ∃ y,tab.getD A 0 = y:=⟨_,rfl⟩
       obtain ⟨c,hc⟩ : ∃ c,u.getD (R + d) 0 = c:=⟨_,rfl⟩
       rw [hy] at cT hF
       rw [hc] at cC hF
       have hset:=hT6.set A hAl c
       have hsetW:=hW6'.setOther hT6 (by intro e; exact neW.out (Option.some.inj e)) A hAl (.int .i64 c)
       have hsetB:=hT6.setBelow hB6 A hAl (.int .i64 c)
       have hsetQ:=hQ6.far (b':=tb) neT.out.symm A (.int .i64 c)
       rw [← show valAt (.slice (some ⟨tb,0,none⟩) tn tc) A = ⟨tb,A,none⟩ from valAt_row ..] at hsetQ
       obtain ⟨p,hp⟩ : ∃ p,valAt (.slice (some ⟨tb,0,none⟩) tn tc) A = p:=⟨_,rfl⟩
       rw [hp] at iT cT fT hset hsetW hsetB hsetQ
       obtain ⟨pc,hpc⟩ : ∃ pc,valAt (.slice (some ⟨wb,0,none⟩) wn wl) (R + d) = pc:=⟨_,rfl⟩
       have iC':=iC
       rw [hpc] at cC
       simp only [hpc] at iC'
       clear iC
       obtain ⟨W7,hW7⟩ : ∃ W : World,W6.setCell p (.int .i64 c) = W:=⟨_,rfl⟩
       rw [hW7] at hset hsetW hsetB hsetQ
       replace hW7:=Lib.hid hW7
       replace hA0:=Lib.hid hA0
       replace hF:=Lib.hid hF
       replace hy:=Lib.hid hy
       replace hc:=Lib.hid hc
       replace hp:=Lib.hid hp
       replace hpc:=Lib.hid hpc
       replace hset:=Lib.hid hset
       replace hsetW:=Lib.hid hsetW
       replace hsetQ:=Lib.hid hsetQ
       replace hT6:=Lib.hid hT6
       replace hW6':=Lib.hid hW6'
       replace hQ6:=Lib.hid hQ6
       by_cases hyc : 0 ≤ y ∧ y ≠ c
       ·have d0 : decide ((0 : Int) ≤ y) = true:=decide_eq_true hyc.1
        have d1 : (y != c) = true:=by rw [bne_iff_ne]; exact hyc.2
        have hno : (tryF K R T d).1 = false:=by
         rw [htw.out,fillL_stop hilt hft.out (by rw [hF.out,if_pos hyc]),hF.out,if_pos hyc]
        obtain ⟨⟨y0,y1,y2⟩,f0,f1,f2⟩:=qz.below hB6
        have bE:=Below.step b0 hB6
        replace hno:=Lib.hid hno
        clear hsetB
        go_wp2
        rw [setCell_self3 y0 y1 y2]
        exact bodyPost_ret (v:=.tuple #[zR,.bool false]) (by simp [results,Tryz.results36,go_sem,y0,y1,y2]) rfl ⟨_,_,rfl,bE,.inl ⟨hno.out,rfl,rfl⟩⟩
       ·have hst : fillL (leafF K R n T) (List.range (i + 1)) (List.replicate j (-1)) = (true,tab.set A c):=by
         rw [fillL_succ hft.out,hF.out,if_neg hyc]
        replace hst:=Lib.hid hst
        have hgo : ∃ b : Bool,(decide ((0 : Int) ≤ y) = b) ∧ (b = true → (y != c) = false):=⟨_,rfl,fun hb => by
         have h0:=of_decide_eq_true hb
         by_cases e : y = c
         ·rw [e]; simp
         ·exact absurd ⟨h0,e⟩ hyc⟩
        obtain ⟨b,d0,d1⟩:=hgo
        cases b with
        | false =>
         go_wp2_with fail
         rw [hW7.out]
         clear cC cT fT iT iC'
         go_loopw [15] (fun iv wr => ∃ e : Nat,e ≤ n ∧ iv = .int .i64 ((e : Int) - 1) ∧ u.drop e = List.replicate (n - e) ((K : Int) - 1) ∧ OwnI w0.heap.size wr (.slice (some ⟨wb,0,none⟩) wn wl) (u.take e ++ List.replicate (n - e) 0) ∧ OwnI w0.heap.size wr (.slice (some ⟨tb,0,none⟩) tn tc) (tab.set A c) ∧ Box3 wr g (.int .i64 K) (.int .i64 d) (.slice (some ⟨tb,0,none⟩) tn tc) ∧ Below w0.heap.size w0 wr) (fun iv _ => (intOf iv + 1).toNat)
         case atStart => exact ⟨n,Nat.le_refl _,rfl,by rw [Nat.sub_self]; exact List.drop_of_length_le (by rw [hul.out]; exact Nat.le_refl _),by rw [Nat.sub_self,List.replicate_zero,List.append_nil,List.take_of_length_le (by rw [hul.out]; exact Nat.le_refl _)]; exact hsetW.out,hset.out,hsetQ.out,hsetB⟩
         case round =>
          clear hsetB z0 z1 z2 g0 g1 g2 gf0 gf1 gf2 hB6
          obtain ⟨e,he,rfl,hd',hO,hT7,hQ7,hB7⟩:=hrel
          obtain ⟨wi,rfl⟩ : ∃ wi : World,wi = wr:=⟨_,rfl⟩
          obtain ⟨⟨z0,z1,z2⟩,-,-,-⟩:=q.below hB7
          cases e with
          | zero =>
           rw [show ((0 : Nat) : Int) - 1 = -1 from rfl]
           rw [List.drop_zero,Nat.sub_zero] at hd'
           have hlast : i + 1 = pw K n:=digs_last hk1 hilt (by rw [hu.out]; exact hd')
           have hyes : tryF K R T d = (true,tab.set A c):=by rw [htw.out,← hlast]; exact hst.out
           replace hd':=Lib.hid hd'
           replace hO:=Lib.hid hO
           replace hlast:=Lib.hid hlast
           replace hyes:=Lib.hid hyes
           go_upto_region 23 with fail
           go_quiet (fail)
           obtain ⟨W8,hW8⟩ : ∃ W : World,wi.drewN nq = W:=⟨_,rfl⟩
           have hT8 : OwnI w0.heap.size W8 (.slice (some ⟨tb,0,none⟩) tn tc) (tab.set A c):=by rw [← hW8]; exact hT7
           have hQ8 : Box3 W8 g (.int .i64 K) (.int .i64 d) (.slice (some ⟨tb,0,none⟩) tn tc):=by rw [← hW8]; exact hQ7
           have hB8 : Below w0.heap.size w0 W8:=by rw [← hW8]; exact below_drewN hB7 hB7.size nq
           rw [hW8]
           clear hT7 hQ7 hB7 z0 z1 z2
           replace hW8:=Lib.hid hW8
           obtain ⟨⟨g0,g1,g2⟩,-,-,-⟩:=id hQ8
           obtain ⟨⟨y0,y1,y2⟩,f0,f1,f2⟩:=qz.below hB8
           have bE:=Below.step b0 hB8
           replace hT8:=Lib.hid hT8
           replace hQ8:=Lib.hid hQ8
           go_wp2
           exact bodyPost_ret (v:=.tuple #[.agg #[.int .i64 K,.int .i64 d,.slice (some ⟨tb,0,none⟩) tn tc],.bool true]) (by simp [results,Tryz.results36,go_sem,y0,y1,y2]) rfl ⟨_,_,rfl,below_set3 bE (Nat.le_succ _) _ _ _,.inr ⟨by rw [hyes.out],rfl,_,_,_,rfl,by rw [hyes.out]; exact (hT8.out.set3 (b:=w.heap.size + 1) (by omega) _ _ _).mono (by omega)⟩⟩
          | succ e =>
           rw [show ((e + 1 : Nat) : Int) - 1 = (e : Int) by omega]
           have hel : e < u.length:=by rw [hul.out]; omega
           have ge0 : decide ((0 : Int) ≤ (e : Int)) = true:=decide_eq_true (by omega)
           have hol : e < (u.take (e + 1) ++ List.replicate (n - (e + 1)) (0 : Int)).length:=by have:=hul.out; simp; omega
           have iE:=fun w' => hO.at.idx e hol w'
           have cE:=hO.at.cellD e hol
           have fE:=hO.frz e hol
           have hx:=getD_syms hus.out hel
           have hge : (u.take (e + 1) ++ List.replicate (n - (e + 1)) (0 : Int)).getD e 0 = u.getD e 0:=by
            have : e < (u.take (e + 1)).length:=by simp; omega
            simp only [List.getD_eq_getElem?_getD]
            rw [List.getElem?_append_left this,List.getElem?_take_of_lt (by omega)]
           rw [hge] at cE
           have hgd : u.getD e 0 = u[e]:=by simp [List.getD,hel]
           have htk : u.take (e + 1) = u.take e ++ [u.getD e 0]:=by rw [hgd]; exact take_snoc u e hel
           have hset' : ∀ y,(u.take (e + 1) ++ List.replicate (n - (e + 1)) (0 : Int)).set e y = u.take e ++ [y] ++ List.replicate (n - (e + 1)) 0:=by
            intro y
            have hul' : (u.take e).length = e:=by simp; omega
            have:=set_here (u.take e) (u.getD e 0) y (List.replicate (n - (e + 1)) 0)
            rw [htk,← this,hul']
           have hDu : u = u.take e ++ [u.getD e 0] ++ List.replicate (n - (e + 1)) ((K : Int) - 1):=by
            rw [← hd',← htk,List.take_append_drop]
           have hdn : u.drop e = u.getD e 0 :: List.replicate (n - (e + 1)) ((K : Int) - 1):=by
            rw [← hd',hgd]; exact List.drop_eq_getElem_cons hel
           obtain ⟨s,hs⟩ : ∃ s,u.getD e 0 = s:=⟨_,rfl⟩
           rw [hs] at cE hx hDu hdn
           have hneT : (Value.slice (some ⟨tb,0,none⟩) tn tc).ownBlock ≠ (Value.slice (some ⟨wb,0,none⟩) wn wl).ownBlock:=fun h => neW.out (Option.some.inj h).symm
           obtain ⟨pe,hpe⟩ : ∃ pe,valAt (.slice (some ⟨wb,0,none⟩) wn wl) e = pe:=⟨_,rfl⟩
           have mk8 : ∀ y,OwnI w0.heap.size (wi.setCell pe (.int .i64 y)) (.slice (some ⟨wb,0,none⟩) wn wl) (u.take e ++ [y] ++ List.replicate (n - (e + 1)) 0) ∧ OwnI w0.heap.size (wi.setCell pe (.int .i64 y)) (.slice (some ⟨tb,0,none⟩) tn tc) (tab.set A c) ∧ Box3 (wi.setCell pe (.int .i64 y)) g (.int .i64 K) (.int .i64 d) (.slice (some ⟨tb,0,none⟩) tn tc) ∧ Below w0.heap.size w0 (wi.setCell pe (.int .i64 y)):=fun y => by
            have h1:=hO.set e hol y
            rw [hset'] at h1
            have h2:=hT7.setOther hO hneT e hol (.int .i64 y)
            have h3:=hQ7.far (b':=wb) neG.out.symm e (.int .i64 y)
            rw [← show valAt (.slice (some ⟨wb,0,none⟩) wn wl) e = ⟨wb,e,none⟩ from valAt_row ..] at h3
            have h4:=hO.setBelow hB7 e hol (.int .i64 y)
            rw [hpe] at h1 h2 h3 h4
            exact ⟨h1,h2,h3,h4⟩
           rw [hpe] at cE fE
           simp only [hpe] at iE
           replace mk8:=Lib.hid mk8
           replace hset':=Lib.hid hset'
           replace hDu:=Lib.hid hDu
           replace hdn:=Lib.hid hdn
           replace hs:=Lib.hid hs
           replace hpe:=Lib.hid hpe
           replace hd':=Lib.hid hd'
           replace hO:=Lib.hid hO
           replace hT7:=Lib.hid hT7
           replace hQ7:=Lib.hid hQ7
           clear htk hge hgd hneT
           by_cases hlt : s < (K : Int) - 1
           ·have hsk : (s == (K : Int) - 1) = false:=by rw [beq_eq_false_iff_ne]; omega
            have hnx:=next_word hk1 hilt _ _ _ (hu.out.trans hDu.out) hlt
            have hn2:=next_lt hk1 hilt _ _ _ (hu.out.trans hDu.out) hlt
            have h8:=mk8.out (s + 1)
            rw [← hnx] at h8
            replace hnx:=Lib.hid hnx
            replace hn2:=Lib.hid hn2
            replace h8:=Lib.hid h8
            go_upto_region 23 with fail
            go_quiet (fail)
            go_wp2
            have h80:=hki.out
            go_roundg (gk - 1)
            case measure => omega
            case rel => exact ⟨i + 1,tab.set A c,by have:=hki.out; omega,by have:=hki.out; have:=hn2.out; omega,hst.out,by rw [List.length_set]; exact htl.out,h8.out.2.1,h8.out.1,h8.out.2.2.1,below_drewN h8.out.2.2.2 h8.out.2.2.2.size nq⟩
           ·obtain rfl : s = (K : Int) - 1:=by omega
            have h8:=mk8.out 0
            replace h8:=Lib.hid h8
            go_upto_region 23 with fail
            go_quiet (fail)
            go_wp2
            go_roundw
            case measure => simp [intOf]
            case rel =>
             have e1 : n - e = n - (e + 1) + 1:=by omega
             refine ⟨e,by omega,by go_num,?_,?_,h8.out.2.1,h8.out.2.2.1,below_drewN h8.out.2.2.2 h8.out.2.2.2.size nq⟩
             ·rw [hdn.out,e1,List.replicate_succ]
             ·rw [e1,List.replicate_succ]
              have h81:=h8.out.1
              rw [List.append_assoc,List.singleton_append] at h81
              exact h81
        | true =>
         have d2:=d1 rfl
         clear d1
         go_wp2_with fail
         rw [hW7.out]
         clear cC cT fT iT iC'
         go_loopw [15] (fun iv wr => ∃ e : Nat,e ≤ n ∧ iv = .int .i64 ((e : Int) - 1) ∧ u.drop e = List.replicate (n - e) ((K : Int) - 1) ∧ OwnI w0.heap.size wr (.slice (some ⟨wb,0,none⟩) wn wl) (u.take e ++ List.replicate (n - e) 0) ∧ OwnI w0.heap.size wr (.slice (some ⟨tb,0,none⟩) tn tc) (tab.set A c) ∧ Box3 wr g (.int .i64 K) (.int .i64 d) (.slice (some ⟨tb,0,none⟩) tn tc) ∧ Below w0.heap.size w0 wr) (fun iv _ => (intOf iv + 1).toNat)
         case atStart => exact ⟨n,Nat.le_refl _,rfl,by rw [Nat.sub_self]; exact List.drop_of_length_le (by rw [hul.out]; exact Nat.le_refl _),by rw [Nat.sub_self,List.replicate_zero,List.append_nil,List.take_of_length_le (by rw [hul.out]; exact Nat.le_refl _)]; exact hsetW.out,hset.out,hsetQ.out,hsetB⟩
         case round =>
          clear hsetB z0 z1 z2 g0 g1 g2 gf0 gf1 gf2 hB6
          obtain ⟨e,he,rfl,hd',hO,hT7,hQ7,hB7⟩:=hrel
          obtain ⟨wi,rfl⟩ : ∃ wi : World,wi = wr:=⟨_,rfl⟩
          obtain ⟨⟨z0,z1,z2⟩,-,-,-⟩:=q.below hB7
          cases e with
          | zero =>
           rw [show ((0 : Nat) : Int) - 1 = -1 from rfl]
           rw [List.drop_zero,Nat.sub_zero] at hd'
           have hlast : i + 1 = pw K n:=digs_last hk1 hilt (by rw [hu.out]; exact hd')
           have hyes : tryF K R T d = (true,tab.set A c):=by rw [htw.out,← hlast]; exact hst.out
           replace hd':=Lib.hid hd'
           replace hO:=Lib.hid hO
           replace hlast:=Lib.hid hlast
           replace hyes:=Lib.hid hyes
           go_upto_region 23 with fail
           go_quiet (fail)
           obtain ⟨W8,hW8⟩ : ∃ W : World,wi.drewN nq = W:=⟨_,rfl⟩
           have hT8 : OwnI w0.heap.size W8 (.slice (some ⟨tb,0,none⟩) tn tc) (tab.set A c):=by rw [← hW8]; exact hT7
           have hQ8 : Box3 W8 g (.int .i64 K) (.int .i64 d) (.slice (some ⟨tb,0,none⟩) tn tc):=by rw [← hW8]; exact hQ7
           have hB8 : Below w0.heap.size w0 W8:=by rw [← hW8]; exact below_drewN hB7 hB7.size nq
           rw [hW8]
           clear hT7 hQ7 hB7 z0 z1 z2
           replace hW8:=Lib.hid hW8
           obtain ⟨⟨g0,g1,g2⟩,-,-,-⟩:=id hQ8
           obtain ⟨⟨y0,y1,y2⟩,f0,f1,f2⟩:=qz.below hB8
           have bE:=Below.step b0 hB8
           replace hT8:=Lib.hid hT8
           replace hQ8:=Lib.hid hQ8
           go_wp2
           exact bodyPost_ret (v:=.tuple #[.agg #[.int .i64 K,.int .i64 d,.slice (some ⟨tb,0,none⟩) tn tc],.bool true]) (by simp [results,Tryz.results36,go_sem,y0,y1,y2]) rfl ⟨_,_,rfl,below_set3 bE (Nat.le_succ _) _ _ _,.inr ⟨by rw [hyes.out],rfl,_,_,_,rfl,by rw [hyes.out]; exact (hT8.out.set3 (b:=w.heap.size + 1) (by omega) _ _ _).mono (by omega)⟩⟩
          | succ e =>
           rw [show ((e + 1 : Nat) : Int) - 1 = (e : Int) by omega]
           have hel : e < u.length:=by rw [hul.out]; omega
           have ge0 : decide ((0 : Int) ≤ (e : Int)) = true:=decide_eq_true (by omega)
           have hol : e < (u.take (e + 1) ++ List.replicate (n - (e + 1)) (0 : Int)).length:=by have:=hul.out; simp; omega
           have iE:=fun w' => hO.at.idx e hol w'
           have cE:=hO.at.cellD e hol
           have fE:=hO.frz e hol
           have hx:=getD_syms hus.out hel
           have hge : (u.take (e + 1) ++ List.replicate (n - (e + 1)) (0 : Int)).getD e 0 = u.getD e 0:=by
            have : e < (u.take (e + 1)).length:=by simp; omega
            simp only [List.getD_eq_getElem?_getD]
            rw [List.getElem?_append_left this,List.getElem?_take_of_lt (by omega)]
           rw [hge] at cE
           have hgd : u.getD e 0 = u[e]:=by simp [List.getD,hel]
           have htk : u.take (e + 1) = u.take e ++ [u.getD e 0]:=by rw [hgd]; exact take_snoc u e hel
           have hset' : ∀ y,(u.take (e + 1) ++ List.replicate (n - (e + 1)) (0 : Int)).set e y = u.take e ++ [y] ++ List.replicate (n - (e + 1)) 0:=by
            intro y
            have hul' : (u.take e).length = e:=by simp; omega
            have:=set_here (u.take e) (u.getD e 0) y (List.replicate (n - (e + 1)) 0)
            rw [htk,← this,hul']
           have hDu : u = u.take e ++ [u.getD e 0] ++ List.replicate (n - (e + 1)) ((K : Int) - 1):=by
            rw [← hd',← htk,List.take_append_drop]
           have hdn : u.drop e = u.getD e 0 :: List.replicate (n - (e + 1)) ((K : Int) - 1):=by
            rw [← hd',hgd]; exact List.drop_eq_getElem_cons hel
           obtain ⟨s,hs⟩ : ∃ s,u.getD e 0 = s:=⟨_,rfl⟩
           rw [hs] at cE hx hDu hdn
           have hneT : (Value.slice (some ⟨tb,0,none⟩) tn tc).ownBlock ≠ (Value.slice (some ⟨wb,0,none⟩) wn wl).ownBlock:=fun h => neW.out (Option.some.inj h).symm
           obtain ⟨pe,hpe⟩ : ∃ pe,valAt (.slice (some ⟨wb,0,none⟩) wn wl) e = pe:=⟨_,rfl⟩
           have mk8 : ∀ y,OwnI w0.heap.size (wi.setCell pe (.int .i64 y)) (.slice (some ⟨wb,0,none⟩) wn wl) (u.take e ++ [y] ++ List.replicate (n - (e + 1)) 0) ∧ OwnI w0.heap.size (wi.setCell pe (.int .i64 y)) (.slice (some ⟨tb,0,none⟩) tn tc) (tab.set A c) ∧ Box3 (wi.setCell pe (.int .i64 y)) g (.int .i64 K) (.int .i64 d) (.slice (some ⟨tb,0,none⟩) tn tc) ∧ Below w0.heap.size w0 (wi.setCell pe (.int .i64 y)):=fun y => by
            have h1:=hO.set e hol y
            rw [hset'] at h1
            have h2:=hT7.setOther hO hneT e hol (.int .i64 y)
            have h3:=hQ7.far (b':=wb) neG.out.symm e (.int .i64 y)
            rw [← show valAt (.slice (some ⟨wb,0,none⟩) wn wl) e = ⟨wb,e,none⟩ from valAt_row ..] at h3
            have h4:=hO.setBelow hB7 e hol (.int .i64 y)
            rw [hpe] at h1 h2 h3 h4
            exact ⟨h1,h2,h3,h4⟩
           rw [hpe] at cE fE
           simp only [hpe] at iE
           replace mk8:=Lib.hid mk8
           replace hset':=Lib.hid hset'
           replace hDu:=Lib.hid hDu
           replace hdn:=Lib.hid hdn
           replace hs:=Lib.hid hs
           replace hpe:=Lib.hid hpe
           replace hd':=Lib.hid hd'
           replace hO:=Lib.hid hO
           replace hT7:=Lib.hid hT7
           replace hQ7:=Lib.hid hQ7
           clear htk hge hgd hneT
           by_cases hlt : s < (K : Int) - 1
           ·have hsk : (s == (K : Int) - 1) = false:=by rw [beq_eq_false_iff_ne]; omega
            have hnx:=next_word hk1 hilt _ _ _ (hu.out.trans hDu.out) hlt
            have hn2:=next_lt hk1 hilt _ _ _ (hu.out.trans hDu.out) hlt
            have h8:=mk8.out (s + 1)
            rw [← hnx] at h8
            replace hnx:=Lib.hid hnx
            replace hn2:=Lib.hid hn2
            replace h8:=Lib.hid h8
            go_upto_region 23 with fail
            go_quiet (fail)
            go_wp2
            have h80:=hki.out
            go_roundg (gk - 1)
            case measure => omega
            case rel => exact ⟨i + 1,tab.set A c,by have:=hki.out; omega,by have:=hki.out; have:=hn2.out; omega,hst.out,by rw [List.length_set]; exact htl.out,h8.out.2.1,h8.out.1,h8.out.2.2.1,below_drewN h8.out.2.2.2 h8.out.2.2.2.size nq⟩
           ·obtain rfl : s = (K : Int) - 1:=by omega
            have h8:=mk8.out 0
            replace h8:=Lib.hid h8
            go_upto_region 23 with fail
            go_quiet (fail)
            go_wp2
            go_roundw
            case measure => simp [intOf]
            case rel =>
             have e1 : n - e = n - (e + 1) + 1:=by omega
             refine ⟨e,by omega,by go_num,?_,?_,h8.out.2.1,h8.out.2.2.1,below_drewN h8.out.2.2.2 h8.out.2.2.2.size nq⟩
             ·rw [hdn.out,e1,List.replicate_succ]
             ·rw [e1,List.replicate_succ]
              have h81:=h8.out.1
              rw [List.append_assoc,List.singleton_append] at h81
              exact h81
end Go.Proofs.YtjiadfblphdchaaGreatDoor
namespace Go.Proofs.YtjiadfblphdchaaGreatDoor
def sRow : ByteArray:=⟨#[114,111,119]⟩
/-- The fault of a row. -/
def rowP (k p : Int) (L C Q : List Int) : PErr :=
 if k < 1 ∨ 4 < k then fresh sRow 0 3
 else if p < -4096 ∨ 4096 < p then fresh sRow 1 3
 else if L.length = 0 then fresh sRow 2 3
 else if Q.length = 0 then fresh sRow 3 3
 else if 8192 < L.length then fresh sRow 2 4
 else if 8192 < Q.length then fresh sRow 3 4
 else if 16384 < C.length then fresh sRow 4 4
 else if 0 ≤ idxOf (odd1 k) (L ++ C ++ Q) then fresh sRow (idxOf (odd1 k) (L ++ C ++ Q)) 2
 else none
structure RowOk (K : Nat) (p : Int) (L C Q : List Int) : Prop where
 k1 : 1 ≤ K
 k4 : K ≤ 4
 p1 : -4096 ≤ p
 p2 : p ≤ 4096
 l1 : 1 ≤ L.length
 l2 : L.length ≤ 8192
 q1 : 1 ≤ Q.length
 q2 : Q.length ≤ 8192
 c2 : C.length ≤ 16384
 sL : Syms K L
 sC : Syms K C
 sQ : Syms K Q
theorem syms_odd {k : Int} {x : List Int} : Syms k x ↔ ∀ y ∈ x,odd1 k y = false:=by
 refine ⟨fun h y hy => ?_,fun h y hy => ?_⟩
 ·have:=h y hy
  unfold odd1
  simp only [Bool.or_eq_false_iff,decide_eq_false_iff_not]
  omega
 ·have:=h y hy
  unfold odd1 at this
  simp only [Bool.or_eq_false_iff,decide_eq_false_iff_not] at this
  omega
theorem idxOf_syms {k : Int} {x : List Int} : ¬ 0 ≤ idxOf (odd1 k) x ↔ Syms k x:=by
 rw [syms_odd]
 rcases idxOf_cases (odd1 k) x with ⟨h1,h2⟩ | ⟨m,h1,h2,h3,_⟩
 ·rw [h1]; exact ⟨fun _ => h2,fun _ => by omega⟩
 ·rw [h1]
  refine ⟨fun h => by omega,fun h => ?_⟩
  have:=h _ (List.getElem_mem h2)
  rw [h3] at this; cases this
theorem RowOk.none {K : Nat} {p : Int} {L C Q : List Int} (h : RowOk K p L C Q) : rowP K p L C Q = Option.none:=by
 have hs : Syms K (L ++ C ++ Q):=fun x hx => by
  rcases List.mem_append.1 hx with hx | hx
  ·rcases List.mem_append.1 hx with hx | hx
   ·exact h.sL x hx
   ·exact h.sC x hx
  ·exact h.sQ x hx
 have h1:=h.k1
 have h2:=h.k4
 have h3:=h.p1
 have h4:=h.p2
 have h5:=h.l1
 have h6:=h.l2
 have h7:=h.q1
 have h8:=h.q2
 have h9:=h.c2
 unfold rowP
 rw [if_neg (by omega),if_neg (by omega),if_neg (by omega),if_neg (by omega),if_neg (by omega),if_neg (by omega),if_neg (by omega),if_neg (idxOf_syms.2 hs)]
/-- What twins.Check tells of two words, the rule being small. -/
def twinsP (op : ByteArray) (k : Int) (R : Nat) (img : List Int → List Int) (a b : List Int) : PErr :=
 if 16384 < a.length ∨ 16384 < b.length then fresh op 1 4
 else if 0 ≤ idxOf (odd1 k) a then fresh op (idxOf (odd1 k) a) 2
 else if 0 ≤ idxOf (odd1 k) b then fresh op (a.length + idxOf (odd1 k) b) 2
 else if a.length ≠ b.length ∨ a = b then fresh op 1 3
 else if a.length < 2 * R ∨ a.take (2 * R) ≠ b.take (2 * R) ∨ a.drop (a.length - 2 * R) ≠ b.drop (b.length - 2 * R) then fresh op 2 3
 else if img a ≠ img b then fresh op 3 3
 else none
theorem IsTwins.p {op : ByteArray} {K R : Nat} {T a b : List Int} (h : IsTwins K R T a b) (hl : a.length ≤ 16384) : twinsP op K R (imgP K R T) a b = none:=by
 have e:=h.len
 have e2:=h.low
 unfold twinsP
 rw [if_neg (by omega),if_neg (idxOf_syms.2 h.sa),if_neg (idxOf_syms.2 h.sb),if_neg (fun q => q.elim (fun q => q e) h.ne),if_neg,if_neg (fun q => q h.img)]
 rintro (q | q | q)
 ·omega
 ·exact q h.front
 ·exact q h.back
end Go.Proofs.YtjiadfblphdchaaGreatDoor
namespace Go.Proofs.YtjiadfblphdchaaGreatDoor
open Go.RowKit
set_option maxRecDepth 100000
end Go.Proofs.YtjiadfblphdchaaGreatDoor
namespace Go.Proofs.YtjiadfblphdchaaGreatDoor
open Go.RowKit
set_option maxRecDepth 100000
end Go.Proofs.YtjiadfblphdchaaGreatDoor
namespace Go.Proofs.YtjiadfblphdchaaGreatDoor
open Go.RowKit
set_option maxRecDepth 100000
/-- The error that both answer. -/
def pgE (k R : Int) (T : List Int) : PErr :=
 match smallP k R T with
 | some t => under sPairs 0 (some t)
 | none => none
/-- The pairs that both answer. -/
def pgA (k R : Int) (T : List Int) (xs : List Int) : Prop :=
 match smallP k R T with
 | some _ => xs = []
 | none => ∃ L,LiveList (pw k.toNat (2 * wkR R.toNat) * pw k.toNat (2 * wkR R.toNat)) (adjOf (pairG k.toNat (pw k.toNat (2 * wkR R.toNat)) (wkT k.toNat R.toNat T))) L ∧ xs = castI (L.filter fun p => !decide (Diag (pw k.toNat (2 * wkR R.toNat)) p))
theorem pgE_fine (k R : Int) (T : List Int) : (pgE k R T).Fine:=by
 unfold pgE
 cases h : smallP k R T with
 | some t =>
  obtain ⟨n,l⟩:=t
  have:=smallP_num h
  refine ⟨by omega,by omega,?_⟩
  simp only [List.length_cons]
  omega
 | none => trivial
theorem rapart_any (k R : Int) (va : Option Addr) (vn vc : Nat) (T : List Int) (w : World) (h : IntsAt w (.slice va vn vc) T) :
 Calls Tryz.prog 68 #[.agg #[.int .i64 k,.int .i64 R,.slice va vn vc]] w (Ret2 (fun x y w' => (∃ xs,pgA k R T xs ∧ IntsAt w' x xs) ∧ EOwn w.heap.size w' (pgE k R T) y) w):=by
 unfold pgA pgE
 cases hc : smallP k R T with
 | some t =>
  refine (ref13_apart_bad k R va vn vc T t w h hc).mono ?_
  rintro e w1 ⟨x,y,rfl,b1,rfl,hy⟩
  exact ⟨_,_,rfl,b1,⟨[],rfl,(OwnI.nil 0 _).at⟩,hy⟩
 | none =>
  obtain ⟨hck,hl⟩:=smallP_none hc
  obtain ⟨K,Q,rfl,rfl,hr⟩:=checkP_none hck
  refine (ref13_apart_ok K Q va vn vc T w h hr hl).mono ?_
  rintro e w1 ⟨x,y,rfl,b1,rfl,L,hL,ho⟩
  exact ⟨_,_,rfl,b1,⟨_,⟨L,hL,rfl⟩,ho.at⟩,rfl⟩
end Go.Proofs.YtjiadfblphdchaaGreatDoor
namespace Go.Proofs.YtjiadfblphdchaaGreatDoor
open Go.RowKit
set_option maxRecDepth 100000
/-- What edenref14.One leaves. -/
def ROne (B : Nat) (k R : Int) (T : List Int) (x y : Value) (w' : World) : Prop :=
 match pgE k R T with
 | none => y = .agg #[.int .i64 0,.slice none 0 0,.slice none 0 0] ∧ ∃ xs,pgA k R T xs ∧ x = .bool (decide (xs = []))
 | some t => x = .bool false ∧ EOwn B w' (under sInject 0 (some t)) y
set_option maxHeartbeats 4000000 in
theorem ref14_one (k R : Int) (va : Option Addr) (vn vc : Nat) (T : List Int) (w : World) (h : IntsAt w (.slice va vn vc) T) :
 Calls Tryz.prog 34 #[.agg #[.int .i64 k,.int .i64 R,.slice va vn vc]] w (Ret2 (ROne w.heap.size k R T) w):=by
 have bA:=Below.step (belowAlloc w (.cells #[.int .i64 k,.int .i64 R,.slice va vn vc] 24)) (belowAlloc _ (.cells #[.int .i64 0,.slice none 0 0,.slice none 0 0] 37))
 have qA : Box3 ((w.alloc (.cells #[.int .i64 k,.int .i64 R,.slice va vn vc] 24)).alloc (.cells #[.int .i64 0,.slice none 0 0,.slice none 0 0] 37)) w.heap.size (.int .i64 k) (.int .i64 R) (.slice va vn vc):=by simp [Box3,go_sem]
 have q4 : Box3 ((w.alloc (.cells #[.int .i64 k,.int .i64 R,.slice va vn vc] 24)).alloc (.cells #[.int .i64 0,.slice none 0 0,.slice none 0 0] 37)) (w.heap.size + 1) (.int .i64 0) (.slice none 0 0) (.slice none 0 0):=by simp [Box3,go_sem]
 have s0 : ((w.alloc (.cells #[.int .i64 k,.int .i64 R,.slice va vn vc] 24)).alloc (.cells #[.int .i64 0,.slice none 0 0,.slice none 0 0] 37)).heap.size = w.heap.size + 2:=by simp
 obtain ⟨WA,hWA⟩ : ∃ W : World,((w.alloc (.cells #[.int .i64 k,.int .i64 R,.slice va vn vc] 24)).alloc (.cells #[.int .i64 0,.slice none 0 0,.slice none 0 0] 37)) = W:=⟨_,rfl⟩
 replace h:=h.below bA
 rw [hWA] at h bA qA q4 s0
 unfold ROne
 have hf:=pgE_fine k R T
 have hap:=rapart_any k R va vn vc T WA h
 replace h:=Lib.hid h
 replace s0:=Lib.hid s0
 replace hWA:=Lib.hid hWA
 replace hap:=Lib.hid hap
 obtain ⟨⟨z0,z1,z2⟩,-,-,-⟩:=qA
 cases hc : pgE k R T with
 | some t =>
  obtain ⟨n,l⟩:=t
  rw [hc] at hf hap
  have hl : 1 ≤ l.length:=by
   unfold pgE at hc
   cases hs : smallP k R T with
   | none => rw [hs] at hc; cases hc
   | some q => rw [hs] at hc; obtain ⟨a,b⟩:=q; cases hc; simp
  replace hc:=Lib.hid hc
  go_enter Tryz.func34,Tryz.ntmps34
  go_upto_region 1 with fail
  rw [hWA.out]
  go_wp2_with fail
  refine hap.out.mono ?_
  rintro e w1 ⟨lv,x,rfl,b1,⟨xs,-,hxs⟩,he⟩
  obtain ⟨lva,lvn,lvc,rfl⟩:=hxs.shape
  have he':=he
  obtain ⟨a1,n1,c1,a2,n2,c2,rfl,_,_⟩:=he'
  obtain ⟨be,q6⟩:=err_box8 w1 (.int .i64 n) (.slice a1 n1 c1) (.slice a2 n2 c2)
  have c1e:=Below.step b1 be
  have hn0 : (n != 0) = true:=by rw [bne_iff_ne]; have:=hf.1; omega
  have heb:=he.below be
  obtain ⟨W2,hW2⟩ : ∃ W2 : World,w1.alloc (.cells #[.int .i64 n,.slice a1 n1 c1,.slice a2 n2 c2] 37) = W2:=⟨_,rfl⟩
  rw [hW2] at be c1e heb q6
  replace hW2:=Lib.hid hW2
  replace he:=Lib.hid he
  replace heb:=Lib.hid heb
  replace hxs:=Lib.hid hxs
  clear z0 z1 z2
  have q60:=q6
  obtain ⟨⟨y0,y1,y2⟩,-,-,-⟩:=q60
  go_upto_region 2 with fail
  rw [hW2.out]
  go_wp2_with fail
  refine (err_bad _ _ _ _ _ _ _ W2).mono ?_
  rintro e w3 ⟨_,rfl,b3,rfl⟩
  rw [hn0]
  have hey:=heb.out.below b3
  have c3:=Below.step c1e b3
  clear y0 y1 y2
  obtain ⟨⟨y0,y1,y2⟩,-,-,-⟩:=q6.below b3
  replace hey:=Lib.hid hey
  go_wp2_with fail
  refine (raw_under sInject 0 (some (n,l)) _ w3 hey.out.at (fun n' l' e => by cases e; exact ⟨hf.1,hl,hf.2.2⟩)).mono ?_
  rintro e w4 ⟨z,rfl,b4,hz⟩
  have c4:=Below.step c3 b4
  have hz':=hz
  obtain ⟨d1,m1,k1,d2,m2,k2,rfl,_,_⟩:=hz'
  obtain ⟨⟨g0,g1,g2⟩,f0,f1,f2⟩:=q4.below c4
  have sW:=c3.size
  rw [s0.out] at sW
  have hz9:=(hz.set3 (b:=w.heap.size + 1) (by omega) (.int .i64 n) (.slice d1 m1 k1) (.slice d2 m2 k2)).mono (B':=w.heap.size) (by omega)
  replace hz:=Lib.hid hz
  replace hz9:=Lib.hid hz9
  clear y0 y1 y2
  go_wp2
  (try simp only [Exit.inBlock,Exit.then])
  exact bodyPost_ret (v:=.tuple #[.bool false,.agg #[.int .i64 n,.slice d1 m1 k1,.slice d2 m2 k2]]) (by simp [results,Tryz.results34,go_sem,g0,g1,g2]) rfl ⟨_,_,rfl,below_set3 (Below.step bA c4) (by omega) _ _ _,rfl,hz9.out⟩
 | none =>
  rw [hc] at hap
  replace hc:=Lib.hid hc
  go_enter Tryz.func34,Tryz.ntmps34
  go_upto_region 1 with fail
  rw [hWA.out]
  go_wp2_with fail
  refine hap.out.mono ?_
  rintro e w1 ⟨lv,x,rfl,b1,⟨xs,hpa,hxs⟩,he⟩
  obtain rfl : x = .agg #[.int .i64 0,.slice none 0 0,.slice none 0 0]:=he
  have lX:=hxs.len
  obtain ⟨lva,lvn,lvc,rfl⟩:=hxs.shape
  obtain ⟨be,⟨⟨y0,y1,y2⟩,-,-,-⟩⟩:=err_box8 w1 (.int .i64 0) (.slice none 0 0) (.slice none 0 0)
  have c1e:=Below.step b1 be
  obtain ⟨W2,hW2⟩ : ∃ W2 : World,w1.alloc (.cells #[.int .i64 0,.slice none 0 0,.slice none 0 0] 37) = W2:=⟨_,rfl⟩
  rw [hW2] at be c1e y0 y1 y2
  replace hW2:=Lib.hid hW2
  replace hxs:=Lib.hid hxs
  replace hpa:=Lib.hid hpa
  clear z0 z1 z2
  go_upto_region 2 with fail
  rw [hW2.out]
  go_wp2_with fail
  refine (err_bad _ _ _ _ _ _ _ W2).mono ?_
  rintro e w3 ⟨_,rfl,b3,rfl⟩
  rw [show ((0 : Int) != 0) = false from rfl]
  have c3:=Below.step c1e b3
  clear y0 y1 y2
  obtain ⟨⟨g0,g1,g2⟩,f0,f1,f2⟩:=q4.below c3
  obtain ⟨bb,hbb⟩ : ∃ b : Bool,((xs.length : Int) == 0) = b:=⟨_,rfl⟩
  have hbb2 : decide (xs = []) = bb:=by
   rw [← hbb]
   cases xs with
   | nil => rfl
   | cons a l =>
    rw [show decide (a :: l = []) = false from decide_eq_false (by simp)]
    symm; rw [beq_eq_false_iff_ne]; simp only [List.length_cons]; omega
  replace hbb2:=Lib.hid hbb2
  go_wp2
  (try simp only [Exit.inBlock,Exit.then])
  exact bodyPost_ret (v:=.tuple #[.bool bb,.agg #[.int .i64 0,.slice none 0 0,.slice none 0 0]]) (by simp [results,Tryz.results34,go_sem,g0,g1,g2]) rfl ⟨_,_,rfl,below_set3 (Below.step bA c3) (by have:=s0.out; omega) _ _ _,rfl,xs,hpa.out,by rw [hbb2.out]⟩
end Go.Proofs.YtjiadfblphdchaaGreatDoor
