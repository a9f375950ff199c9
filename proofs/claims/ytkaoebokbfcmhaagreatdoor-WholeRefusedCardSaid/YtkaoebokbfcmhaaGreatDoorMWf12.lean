/-
  Proved: the law edentop.WholeRefused as its tied card: it returns true and never panics, for any rule. No conditions beyond the cards own.
-/
import Derived.Test.YtkaoebokbfcmhaaGreatDoorMWf11
import Derived.Test.YtkaoebokbfcmhaaGreatDoorRows
import Derived.ProofKit
import Derived.OpenShut
import Derived.ShutString
import Derived.ChangeOld
import Derived.LaidMore
import Derived.Stop.Joined
import Derived.Stop.LaidErr
import Derived.Lib.SmallJoins
import Derived.LaidHandle
import Derived.Test.YtkaoebokbfcmhaaGreatDoorCards
import Derived.Test.YtkaoebokbfcmhaaGreatDoorTie
import Derived.SevenTiedAt
namespace Go.Proofs.YtkaoebokbfcmhaaGreatDoor
open Go.RowKit
set_option maxRecDepth 100000
def ecaT (n:Nat):List Int:=(List.range 8).map fun i=>(((n >>> i) &&& 1:Nat):Int)
theorem ecaT_take (n i:Nat) (h:i<8):(ecaT n).take (i+1)=(ecaT n).take i++[(((n >>> i) &&& 1:Nat):Int)]:=by
 rw [List.take_add_one]
 congr 1
 simp [ecaT,h]
theorem eca_bit:∀ n<256,∀ i<8,bits BinOp.and IntKind.i64 (((n:Nat):Int)/2 ^ i) 1=(((n >>> i) &&& 1:Nat):Int):=by decide +kernel
theorem eca_any (n:Nat) (hn:n<256) (w:World) :
 Calls Tryz.prog 26 #[.int .i64 n] w (Ret1 (fun x w'=>∃ a c,x=.agg #[.int .i64 ((2:Nat):Int),.int .i64 ((1:Nat):Int),.slice a 8 c]∧OwnI w.heap.size w' (.slice a 8 c) (ecaT n)) w):=by
 have b0:=belowAlloc w (.cells #[.int .i64 0,.int .i64 0,.slice none 0 0] 24)
 have b1:=belowAlloc (w.alloc (.cells #[.int .i64 0,.int .i64 0,.slice none 0 0] 24)) (.cells #[.int .i64 2,.int .i64 1,.slice none 0 0] 24)
 have b01:=Below.step b0 b1
 have q1:Box3 (w.alloc (.cells #[.int .i64 0,.int .i64 0,.slice none 0 0] 24)) w.heap.size (.int .i64 0) (.int .i64 0) (.slice none 0 0):=by simp [Box3,go_sem]
 replace q1:=q1.below b1
 have q2:Box3 ((w.alloc (.cells #[.int .i64 0,.int .i64 0,.slice none 0 0] 24)).alloc (.cells #[.int .i64 2,.int .i64 1,.slice none 0 0] 24)) (w.heap.size+1) (.int .i64 2) (.int .i64 1) (.slice none 0 0):=by simp [Box3,go_sem]
 have hsz:((w.alloc (.cells #[.int .i64 0,.int .i64 0,.slice none 0 0] 24)).alloc (.cells #[.int .i64 2,.int .i64 1,.slice none 0 0] 24)).heap.size=w.heap.size+2:=by simp
 replace q1:=Hd q1
 replace q2:=Hd q2
 replace b01:=Hd b01
 go_enter Tryz.func26,Tryz.ntmps26
 go_upto_region 3 with fail
 obtain ⟨w0,hw0⟩:∃ W:World,(w.alloc (.cells #[.int .i64 0,.int .i64 0,.slice none 0 0] 24)).alloc (.cells #[.int .i64 2,.int .i64 1,.slice none 0 0] 24)=W:=⟨_,rfl⟩
 rw [hw0] at q1 q2 b01 hsz
 rw [hw0]
 clear hw0 b0 b1
 replace hsz:=Hd hsz
 go_loopw [4] (fun iv wr=>∃ (i:Nat) (v:Value),iv=.int .i64 i∧i≤8∧Box3 wr w.heap.size (.int .i64 0) (.int .i64 0) (.slice none 0 0)∧Box3 wr (w.heap.size+1) (.int .i64 2) (.int .i64 1) v∧OwnI (w.heap.size+2) wr v ((ecaT n).take i)∧Below w.heap.size w wr∧w.heap.size+2≤wr.heap.size) (fun iv _=>8-(intOf iv).toNat)
 case atStart=>exact ⟨0,_,rfl,Nat.zero_le _,q1.out,q2.out,OwnI.nil _ _,b01.out,by rw [hsz.out]; exact Nat.le_refl _⟩
 case round =>
  obtain ⟨i,v,rfl,hi,p1,p2,hO,hB,hs⟩:=hrel
  obtain ⟨wo,rfl⟩:∃ wo:World,wo=wr:=⟨_,rfl⟩
  obtain ⟨va,vn,vc,rfl⟩:=hO.at.shape
  have lv:=hO.at.len
  by_cases hlt:i<8
  ·have hl8:((ecaT n).take i).length=i:=by simp [ecaT]; omega
   have htk:=ecaT_take n i hlt
   obtain ⟨W,hW⟩:∃ W:World,wo.drew=W:=⟨_,rfl⟩
   have hBW:Below wo.heap.size wo W:=by rw [← hW]; exact (Below.refl _ _).drew
   obtain ⟨y,hy⟩:∃ y:Int,(((n >>> i) &&& 1:Nat):Int)=y:=⟨_,rfl⟩
   rw [hy] at htk
   have p1:=p1.below hBW
   have p2:=p2.below hBW
   have hO:=hO.below hBW
   have hB:=Below.step hB hBW
   replace p1:=Hd p1
   replace p2:=Hd p2
   replace hO:=Hd hO
   replace hB:=Hd hB
   replace htk:=Hd htk
   replace hl8:=Hd hl8
   replace hy:=Hd hy
   replace hW:=Hd hW
   replace hs:=Hd hs
   clear hBW
   have d1:decide ((i:Int)<8)=true:=decide_eq_true (by omega)
   go_upto_region 5 with fail
   have hS:W.cell? ⟨w.heap.size+1,2,none⟩=some (.slice va vn vc):=p2.out.1.2.2
   refine wp_region_plan (fun w'=>w'.cell? ⟨w.heap.size+1,2,none⟩=some (.slice va vn vc)) 9 [(0,true),(1,true),(2,true),(3,true),(4,true),(5,true),(6,false),(7,false),(8,true)] (by kernel_rfl) (by kernel_rfl) ?_
   rw [hW.out]
   refine pqY 10 hS ?_
   refine pqY 11 hS ?_
   refine pqY 12 hS ?_
   refine pqY 13 hS ?_
   refine pqY 14 hS ?_
   refine pqY 15 hS ?_
   rw [eca_bit n hn i hlt,hy.out]
   have bl:=belowAlloc W (.cells #[.int .i64 y] 3)
   have hlit:=OwnI.lit W.heap.size W (Nat.le_refl _) [y] (by simp [maxLen]) #[.int .i64 y] rfl 1 rfl
   have hOl:=hO.out.below bl
   have b2:=Below.step hB.out bl
   have P1:=p1.out.below bl
   have P2:=p2.out.below bl
   have hs2:w.heap.size+2≤(W.alloc (.cells #[.int .i64 y] 3)).heap.size:=by
    have:=hs.out
    have h1:wo.heap.size=W.heap.size:=by rw [← hW.out]; rfl
    simp; omega
   replace hOl:=Hd hOl
   replace hlit:=Hd hlit
   replace P1:=Hd P1
   replace b2:=Hd b2
   replace hs2:=Hd hs2
   have hS1:(W.alloc (.cells #[.int .i64 y] 3)).cell? ⟨w.heap.size+1,2,none⟩=some (.slice va vn vc):=P2.1.2.2
   replace P2:=Hd P2
   clear bl
   refine headC rfl (fun KK hK=>?_)
   go_simp
   refine hK _ _ hS1 ?_
   clear hK KK
   refine headC rfl (fun KK hK=>?_)
   refine step_appI rfl _ _ rfl (w.heap.size+2) (.slice va vn vc) (.slice (some ⟨W.heap.size,0,none⟩) 1 1) _ [y] rfl rfl hOl.out hlit.out.at (by rw [hl8.out]; simp; omega) hs2.out ?_
   intro v9 w9 ho9 b9
   rw [← htk.out] at ho9
   obtain ⟨v9a,v9n,v9c,rfl⟩:=ho9.at.shape
   have P19:=P1.out.belowB b9 (show w.heap.size<w.heap.size+2 by omega)
   have P29:=P2.out.belowB b9 (show w.heap.size+1<w.heap.size+2 by omega)
   have B29:=b2.out.trans (b9.mono (show w.heap.size≤w.heap.size+2 by omega))
   have hTn:=ho9.setBelowBase (a:=⟨w.heap.size+1,2,none⟩) (show w.heap.size+1<w.heap.size+2 by omega) (.slice v9a v9n v9c)
   have Xn:=P29.set2 (.slice v9a v9n v9c)
   have Yn:=P19.far (show w.heap.size+1≠w.heap.size by omega) 2 (.slice v9a v9n v9c)
   have Bn:=B29.setCell (p:=⟨w.heap.size+1,2,none⟩) (show w.heap.size≤w.heap.size+1 by omega) (.slice v9a v9n v9c)
   have hs9:w.heap.size+2≤(w9.setCell ⟨w.heap.size+1,2,none⟩ (.slice v9a v9n v9c)).heap.size:=by
    have:=b9.size
    have:=hs2.out
    simp at *; omega
   have hS9:w9.cell? ⟨w.heap.size+1,2,none⟩=some (.slice va vn vc):=P29.1.2.2
   obtain ⟨-,-,-,f2⟩:=P29
   replace hTn:=Hd hTn
   replace Xn:=Hd Xn
   replace Yn:=Hd Yn
   replace Bn:=Hd Bn
   replace hs9:=Hd hs9
   replace htk:=Hd htk
   clear ho9 b9 P19 B29
   refine hK _ _ hS9 ?_
   clear hK KK
   refine pqY 18 hS9 ?_
   refine head0 ?_
   simp only [List.drop_succ_cons,List.drop_zero]
   clear hS hS1
   go_wp2
   refine NoPanic.normal ?_
   go_wp2
   go_roundw
   case measure=>simp [intOf]; omega
   case rel=>exact ⟨i+1,_,by go_num,by omega,Yn.out,Xn.out,hTn.out,Bn.out,hs9.out⟩
  ·obtain rfl:i=8:=by omega
   have d1:decide (((8:Nat):Int)<8)=false:=by decide
   have hfin:(ecaT n).take 8=ecaT n:=List.take_of_length_le (by simp [ecaT])
   rw [hfin] at hO
   have l8:vn=8:=by
    have:=hO.at.len
    have h8:(ecaT n).length=8:=by simp [ecaT]
    obtain ⟨_,_,e,_⟩:=hO.at
    injection e with _ e2 _
   subst l8
   have bw:=wo.heap.size
   obtain ⟨⟨z0,z1,z2⟩,g0,g1,g2⟩:=p2
   obtain ⟨⟨y0,y1,y2⟩,h0,h1,h2⟩:=p1
   replace hO:=Hd hO
   replace hB:=Hd hB
   go_wp2
   refine bodyPost_ret (v:=.agg #[.int .i64 2,.int .i64 1,.slice va 8 vc]) (by simp [results,Tryz.results26,go_sem,y0,y1,y2]) rfl ⟨_,rfl,below_set3 hB.out (Nat.le_refl _) _ _ _,va,vc,rfl,?_⟩
   exact (((hO.out.setBelowBase (a:=⟨w.heap.size,0,none⟩) (by simp) _).setBelowBase (a:=⟨w.heap.size,1,none⟩) (by simp) _).setBelowBase (a:=⟨w.heap.size,2,none⟩) (by simp) _).mono (by omega)
theorem eca_ok (n:Nat):RuleOk 2 1 (ecaT n):=by
 refine ⟨by decide,by decide,by decide,?_,?_⟩
 ·simp [ecaT,pw]
 ·intro x hx
  simp only [ecaT,List.mem_map] at hx
  obtain ⟨i,_,rfl⟩:=hx
  have:=Nat.and_le_right (n:=n >>> i) (m:=1)
  constructor<;>omega
theorem eca_len (n:Nat):(ecaT n).length=8:=by simp [ecaT]
set_option maxHeartbeats 8000000
theorem ask_chain (n a:Int):∀ i,i<11→∃ rest,(chains (n,[(sRule,a)])).getD i none=some (n,(askBy.getD i ⟨#[]⟩,0)::rest)∧innOp ((askBy.getD i ⟨#[]⟩,0)::rest)=sRule∧innAt ((askBy.getD i ⟨#[]⟩,0)::rest)=a∧innY ((askBy.getD i ⟨#[]⟩,0)::rest)=true:=by
 intro i hi
 rcases i with _ | _ | _ | _ | _ | _ | _ | _ | _ | _ | _ | i<;>first | exact ⟨_,rfl,rfl,rfl,rfl⟩ | omega
theorem oneErrs:OneCell 71 27 .nilIface 16:=⟨by kernel_rfl,by kernel_rfl,rfl,by decide,fun _=>by kernel_rfl⟩
theorem small7:smallP 2 1 (List.replicate 7 0)=fresh sRule 2 1:=by decide +kernel
theorem wholeRefused_head (r:Nat→Addr) (k R:Int) (va:Option Addr) (vn vc:Nat) (T:List Int) (w:World) (hg:Glob r w) (hG:GlobE w) (h:IntsAt w (.slice va vn vc) T) :
 Calls Tryz.prog 6 #[.agg #[.int .i64 k,.int .i64 R,.slice va vn vc]] w (Ret1 (fun x _=>x=.bool true) w):=by
 have b0:=belowAlloc w (.cells #[.int .i64 k,.int .i64 R,.slice va vn vc] 24)
 have q:Box3 (w.alloc (.cells #[.int .i64 k,.int .i64 R,.slice va vn vc] 24)) w.heap.size (.int .i64 k) (.int .i64 R) (.slice va vn vc):=by simp [Box3,go_sem]
 obtain ⟨w0,hw0⟩:∃ W:World,w.alloc (.cells #[.int .i64 k,.int .i64 R,.slice va vn vc] 24)=W:=⟨_,rfl⟩
 rw [hw0] at b0 q
 obtain ⟨mu,w1,hmk,hmo,b1⟩:=run_makeI (7:Int) 7 w0 rfl (by decide)
 obtain ⟨ma,mn,mc,rfl⟩:=hmo.at.shape
 have c1:=Below.step b0 b1
 have hsm:=small_any r 2 1 ma mn mc _ w1 (hg.below c1) hmo.at
 rw [small7] at hsm
 replace hg:=Hd hg
 replace hG:=Hd hG
 replace h:=Hd h
 replace hsm:=Hd hsm
 replace q:=Hd (q.below b1)
 replace c1:=Hd c1
 replace hw0:=Hd hw0
 clear hmo b0 b1
 go_enter Tryz.func6,Tryz.ntmps6
 go_upto_region 1 with fail
 rw [hw0.out]
 go_wp2_with fail
 refine hsm.out.mono ?_
 rintro e w2 ⟨x,rfl,b2,hx⟩
 have c2:=Below.step c1.out b2
 obtain ⟨T2,p2,rfl⟩:=hx.some_shape
 replace hx:=Hd hx
 replace q:=Hd (q.out.below b2)
 replace c2:=Hd c2
 clear hsm hmk b2 c1
 go_wp2_with fail
 refine (eca_any 90 (by decide) w2).mono ?_
 rintro e w3 ⟨_,rfl,b3,a3,m3,rfl,h3⟩
 have c3:=Below.step c2.out b3
 have look:=look_ok r 2 1 a3 8 m3 (ecaT 90) w3 (hg.out.below c3) (hG.out.below c3) h3.at (eca_ok 90) (by rw [eca_len]; decide)
 replace look:=Hd look
 replace hx:=Hd (hx.out.below b3)
 replace q:=Hd (q.out.below b3)
 replace c3:=Hd c3
 clear h3 b3 c2
 go_wp2_with fail
 refine look.out.mono ?_
 clear look
 rintro e w4 ⟨_,_,rfl,b4,rfl,Y,F,d1,d2,d3,f1,f2,f3,-,-,rfl,-,-,-⟩
 have b5:=Below.step b4 (belowAlloc w4 (.cells #[.int .i64 (ontoN (subR (2:Nat) (pw 2 (2*1)) (ecaT 90))),.slice d1 d2 d3,.bool Y,.bool F,.int .i64 (radL (2:Nat) (1:Nat) (ecaT 90)),.bool (isSum 2 1 (ecaT 90)),.slice f1 f2 f3,.bool (unlikeP 2 (ecaT 90) ((ecaT 90).length/2)),.bool (unlikeP 2 (ecaT 90) 1)] 62))
 have c5:=Below.step c3.out b5
 have hx5:=hx.out.below b5
 replace q:=Hd (q.out.below b5)
 obtain ⟨w5,hw5⟩:∃ W:World,w4.alloc (.cells #[.int .i64 (ontoN (subR (2:Nat) (pw 2 (2*1)) (ecaT 90))),.slice d1 d2 d3,.bool Y,.bool F,.int .i64 (radL (2:Nat) (1:Nat) (ecaT 90)),.bool (isSum 2 1 (ecaT 90)),.slice f1 f2 f3,.bool (unlikeP 2 (ecaT 90) ((ecaT 90).length/2)),.bool (unlikeP 2 (ecaT 90) 1)] 62)=W:=⟨_,rfl⟩
 rw [hw5] at c5 hx5 q
 replace hg:=hg.out.below c5
 have hG5:=Hd (hG.out.below c5)
 have h5:=Hd (h.out.below c5)
 have his:=Errs.is_any r 1 _ _ w5 hx5
 have z1:=hg.c1
 replace hg:=Hd hg
 replace his:=Hd his
 replace c5:=Hd c5
 replace hw5:=Hd hw5
 clear hx5 b4 b5 c3 hG h hx
 go_upto_region 3 with fail
 rw [hw5.out]
 go_wp2_with fail
 refine his.out.mono ?_
 rintro e w6 ⟨rfl,rfl⟩
 clear his z1
 obtain ⟨⟨z0,z1,z2⟩,-,-,-⟩:=q.out
 have hs2:=small_any r k R va vn vc T w5 hg.out h5.out
 replace hs2:=Hd hs2
 go_wp2_with fail
 refine hs2.out.mono ?_
 rintro e w6 ⟨y,rfl,b6,hy⟩
 have c6:=Below.step c5.out b6
 clear z0 z1 z2
 cases hc:smallP k R T with
 | none =>
  rw [hc] at hy
  obtain rfl:=hy.none_eq
  replace hc:=Hd hc
  clear hs2 hy
  go_wp2
  go_ret
  exact ⟨_,rfl,c6,rfl⟩
 | some t =>
  rw [hc] at hy
  obtain ⟨a,n,rfl,n1,n2⟩:=small_fresh hc
  have hy':ErrAt r w6 n [(sRule,a)] y:=hy
  obtain ⟨T6,p6,rfl⟩:=hy'.shape
  replace hy:=Hd hy'
  replace hc:=Hd hc
  replace hg:=Hd (hg.out.below b6)
  replace hG5:=Hd (hG5.out.below b6)
  replace h5:=Hd (h5.out.below b6)
  replace q:=Hd (q.out.below b6)
  replace c6:=Hd c6
  clear hs2 hy' b6 c5
  go_wp2_with fail
  refine (code_any r n _ _ w6 hg.out hy.out n1 n2).mono ?_
  rintro e w7 ⟨_,rfl,b7,rfl,-⟩
  have d7:=b7
  go_wp2_with fail
  refine (fInner_any r n _ _ w7 (hG5.out.below d7) (hy.out.below d7)).mono ?_
  rintro e w8 ⟨_,_,_,rfl,b8,rfl,rfl,rfl⟩
  have d8:=Below.step d7 b8
  have i1:innOp [(sRule,a)]=⟨#[114,117,108,101]⟩:=rfl
  have i2:innAt [(sRule,a)]=a:=rfl
  have i3:innY [(sRule,a)]=true:=rfl
  rw [i1,i2,i3]
  clear i1 i2 i3
  obtain ⟨⟨z0,z1,z2⟩,-,-,-⟩:=q.out.below d8
  have hask:=asked_bad r k R va vn vc T _ w8 (hg.out.below d8) (hG5.out.below d8) (h5.out.below d8) hc.out
  replace hask:=Hd hask
  go_wp2_with fail
  refine hask.out.mono ?_
  rintro e w9 ⟨x9,y9,rfl,b9,vs,hl9,hv9,hs9,he9⟩
  have d9:=Below.step d8 b9
  obtain ⟨xa,xm,xc,rfl⟩:=hv9.shape
  obtain ⟨ya,ym,yc,rfl⟩:=hs9.shape
  have lv:=fun w=>hv9.len oneErrs 3 w
  rw [hl9] at lv
  replace hg:=Hd (hg.out.below d9)
  replace hG9:=Hd (hG5.out.below d9)
  have c9:=Hd (Below.step c6.out d9)
  replace hl9:=Hd hl9
  replace hv9:=Hd hv9
  replace hs9:=Hd hs9
  replace he9:=Hd he9
  clear z0 z1 z2 b7 b8 b9 d7 d8 d9 hask q h5 hy c6 hc hG5
  go_wp2
  go_loopw [13] (fun iv wr=>∃ i:Nat,iv=.int .i64 i∧i≤11∧Below w9.heap.size w9 wr) (fun iv _=>11-(intOf iv).toNat)
  case atStart=>exact ⟨0,rfl,Nat.zero_le _,Below.refl _ _⟩
  case round =>
   obtain ⟨i,rfl,hi,hB⟩:=hrel
   obtain ⟨wo,rfl⟩:∃ wo:World,wo=wr:=⟨_,rfl⟩
   by_cases hlt:i<11
   ·obtain ⟨rest,hch,io,ia,iy⟩:=ask_chain n a i hlt
    have hE:=(he9.out i hlt).below hB
    rw [hch] at hE
    have hli:i<vs.length:=by rw [hl9.out]; exact hlt
    have hV:=hv9.out.below hB
    have hT:=hs9.out.below hB
    have iV:=fun w'=>hV.idx oneErrs i hli w'
    have cV:=hV.cell i hli
    have hlb:i<(askBy.map Value.string).length:=by simpa [askBy] using hlt
    have iT:=fun w'=>hT.idx oneStrs i hlb w'
    have cT:=hT.cell i hlb
    have ev:vs[i]=vs.getD i .nilIface:=(getD_at hli).symm
    have eb:(askBy.map Value.string)[i]=.string (askBy.getD i ⟨#[]⟩):=by
     rw [List.getElem_map]
     have:i<askBy.length:=by simpa [askBy] using hlt
     simp [List.getD,this]
    rw [ev] at cV
    rw [eb] at cT
    obtain ⟨op,hop⟩:∃ op,askBy.getD i ⟨#[]⟩=op:=⟨_,rfl⟩
    rw [hop] at cT hE io ia iy
    obtain ⟨vi,hvi⟩:∃ vi,vs.getD i .nilIface=vi:=⟨_,rfl⟩
    rw [hvi] at cV hE
    have hE':ErrAt r wo n ((op,0)::rest) vi:=hE
    obtain ⟨p,u,rfl,k0,k1,k2,hu⟩:=hE
    obtain ⟨pa,hpa⟩:∃ pa,valAt (.slice xa xm xc) i=pa:=⟨_,rfl⟩
    obtain ⟨pb,hpb⟩:∃ pb,valAt (.slice ya ym yc) i=pb:=⟨_,rfl⟩
    rw [hpa] at iV cV
    rw [hpb] at iT cT
    obtain ⟨F,hF⟩:∃ F,wo.heap.size=F:=⟨_,rfl⟩
    obtain ⟨W,hW⟩:∃ W:World,(wo.alloc (.cells #[.pointer none] 75)).drew=W:=⟨_,rfl⟩
    have zt:W.cell? ⟨F,0,none⟩=some (.pointer none):=by rw [← hW,← hF]; simp [go_sem]
    have ft:W.frozen? ⟨F,0,none⟩=false:=by rw [← hW,← hF]; simp [go_sem]
    have bW:Below wo.heap.size wo W:=by rw [← hW]; exact (belowAlloc wo _).drew
    have hS:∀ X,Below wo.heap.size wo X→X.cell? pa=some (.iface 75 (.pointer (some ⟨p,0,none⟩)))∧X.cell? pb=some (.string op)∧X.cell? ⟨p,0,none⟩=some (.string op):=fun X b=>⟨(b.cell (World.block_lt_of_cell? _ _ cV)).trans cV,(b.cell (World.block_lt_of_cell? _ _ cT)).trans cT,(b.cell (p:=⟨p,0,none⟩) (World.block_lt_of_cell? _ _ k0)).trans k0⟩
    have hgo:=hg.out.below hB
    have hGo:=hG9.out.below hB
    have has:=Errs.as_any ⟨p,0,none⟩ ⟨F,0,none⟩ _ W (hGo.below bW) zt ft
    have S0:=hS W bW
    have di:decide ((i:Int)<11)=true:=decide_eq_true (by omega)
    replace hS:=Hd hS
    replace has:=Hd has
    replace hgo:=Hd hgo
    replace hGo:=Hd hGo
    replace hE':=Hd hE'
    replace hW:=Hd hW
    replace hF:=Hd hF
    replace io:=Hd io
    replace ia:=Hd ia
    replace iy:=Hd iy
    replace hB:=Hd hB
    replace bW:=Hd bW
    replace zt:=Hd zt
    clear hV hT cV cT ev eb hop hvi k0 k1 k2 hu hpa hpb hch hlb hli ft
    go_upto_region 15 with fail
    rw [hF.out]
    obtain ⟨s1,s2,s3⟩:=S0
    refine wp_region_noPanic ?_
    refine wp_region_any (by kernel_rfl) ?_
    change wpAny _ _ _ _ _ _ _ (World.drew _)
    rw [hW.out]
    refine pqA 0 61 ?_
    refine pqA 1 62 ?_
    refine pqA 2 63 ?_
    refine wpAny_ready (rs:=[3]) (by kernel_rfl) (by simp) (AllReady.cons rfl (fun KK hK=>?_) AllReady.nil)
    go_simp
    refine hK _ _ ?_
    clear hK KK
    refine pqA 4 65 ?_
    refine pqA 5 66 ?_
    refine pqA 6 67 ?_
    refine pqA 7 68 ?_
    refine pqA 8 69 ?_
    refine pqA 10 71 ?_
    refine wpAny_ready (rs:=[9]) (by kernel_rfl) (by simp) (AllReady.cons rfl (fun KK hK=>?_) AllReady.nil)
    go_simp
    refine hK _ _ ?_
    clear hK KK
    refine wpAny_ready (rs:=[11]) (by kernel_rfl) (by simp) (AllReady.cons rfl (fun KK hK=>?_) AllReady.nil)
    go_simp
    refine has.out.mono ?_
    rintro e w5 ⟨rfl,w4,b4,rfl⟩
    have e1:(w4.setCell ⟨F,0,none⟩ (.pointer (some ⟨p,0,none⟩))).cell? ⟨F,0,none⟩=some (.pointer (some ⟨p,0,none⟩)):=World.cell?_setCell_same _ _ _ (cell_keep b4 zt.out)
    have b5:Below wo.heap.size wo (w4.setCell ⟨F,0,none⟩ (.pointer (some ⟨p,0,none⟩))):=(Below.step bW.out b4).setCell (p:=⟨F,0,none⟩) (by rw [hF.out]; exact Nat.le_refl _) _
    clear s1 s2 s3
    obtain ⟨s1,s2,s3⟩:=hS.out _ b5
    obtain ⟨w5,hw5⟩:∃ X:World,w4.setCell ⟨F,0,none⟩ (.pointer (some ⟨p,0,none⟩))=X:=⟨_,rfl⟩
    rw [hw5] at e1 b5 s1 s2 s3
    rw [hw5]
    replace hw5:=Hd hw5
    replace b5:=Hd b5
    clear has b4
    refine hK _ _ ?_
    clear hK KK
    refine wpAny_of_held (S:=fun w'=>w'=w5) _ _ _ _ ?_
    refine pqD 12 73 rfl ?_
    refine pqD 13 74 rfl ?_
    refine pqD 14 75 rfl ?_
    refine pqD 15 76 rfl ?_
    refine pqD 16 77 rfl ?_
    refine pqD 17 78 rfl ?_
    refine pqD 18 79 rfl ?_
    refine pqD 19 80 rfl ?_
    refine pqD 20 81 rfl ?_
    refine pqD 21 82 rfl ?_
    refine pqD 22 83 rfl ?_
    refine pqD 23 84 rfl ?_
    refine pqD 24 85 rfl ?_
    refine pqD 25 86 rfl ?_
    refine pqD 26 87 rfl ?_
    refine pqD 27 88 rfl ?_
    refine pqD 28 89 rfl ?_
    refine pqD 29 90 rfl ?_
    refine pqD 30 91 rfl ?_
    refine pqD 31 92 rfl ?_
    refine pqD 32 93 rfl ?_
    refine pqD 33 94 rfl ?_
    refine pqD 35 96 rfl ?_
    refine wpAnyH_ready (rs:=[34]) (by kernel_rfl) (by simp) (AllReadyH.cons rfl (fun KK hK=>?_) AllReadyH.nil)
    go_simp
    refine (code_any r n _ _ w5 (hgo.out.below b5.out) (hE'.out.below b5.out) n1 n2).mono ?_
    rintro e w6 ⟨_,rfl,-,rfl,rfl⟩
    refine hK.out _ _ rfl fun _=>?_
    clear hK KK
    refine pqD 36 97 rfl ?_
    refine pqD 37 98 rfl ?_
    refine pqD 38 99 rfl ?_
    refine pqD 39 100 rfl ?_
    refine pqD 40 101 rfl ?_
    refine pqD 41 102 rfl ?_
    refine pqD 42 103 rfl ?_
    refine pqD 43 104 rfl ?_
    refine wpAnyH_ready (rs:=[44]) (by kernel_rfl) (by simp) (AllReadyH.cons rfl (fun KK hK=>?_) AllReadyH.nil)
    go_simp
    refine (raw_root r n w6 (hgo.out.below b5.out) n1 n2).mono ?_
    rintro e w7 ⟨rfl,rfl⟩
    refine hK.out _ _ rfl fun _=>?_
    clear hK KK
    refine wpAnyH_ready (rs:=[45]) (by kernel_rfl) (by simp) (AllReadyH.cons rfl (fun KK hK=>?_) AllReadyH.nil)
    go_simp
    refine (Errs.is_any r n _ _ w6 (hE'.out.below b5.out)).mono ?_
    rintro e w8 ⟨rfl,rfl⟩
    refine hK.out _ _ rfl fun _=>?_
    clear hK KK
    refine pqD 46 107 rfl ?_
    refine pqD 47 108 rfl ?_
    refine wpAnyH_done (by kernel_rfl) ?_ _
    refine NoPanic.normal ?_
    have hin:=fInner_any r n _ _ w6 (hGo.out.below b5.out) (hE'.out.below b5.out)
    rw [io.out,ia.out,iy.out] at hin
    replace hin:=Hd hin
    go_wp2_with fail
    refine hin.out.mono ?_
    rintro e w9' ⟨_,_,_,rfl,b9,rfl,rfl,rfl⟩
    have hB9:=Hd (Below.step hB.out (Below.step b5.out b9))
    have er:sRule=⟨#[114,117,108,101]⟩:=rfl
    rw [er]
    clear b9 hin er e1 s1 s2 s3
    go_wp2
    go_roundw
    case measure=>simp [intOf]; omega
    case rel=>exact ⟨i+1,by go_num,by omega,hB9.out⟩
   ·obtain rfl:i=11:=by omega
    have d1:decide (((11:Nat):Int)<11)=false:=by decide
    have bE:=Hd (Below.step c9.out hB)
    clear hB
    go_wp2
    go_ret
    exact ⟨_,rfl,bE.out,rfl⟩
theorem wholeRefused_any (r:Nat→Addr) (k R:Int) (v:Value) (T:List Int) (w:World) (hg:Glob r w) (hG:GlobE w) (h:IntsAt w v T) :
 Calls Tryz.prog 6 #[.agg #[.int .i64 k,.int .i64 R,v]] w (Ret1 (fun x _=>x=.bool true) w):=by
 obtain ⟨va,vn,vc,rfl⟩:=h.shape
 exact wholeRefused_head r k R va vn vc T w hg hG h
end Go.Proofs.YtkaoebokbfcmhaaGreatDoor
namespace Go.Proofs.YtkaoebokbfcmhaaGreatDoor
open Go.ChangeShapes Go.WideShapes Go.ChangeAt Go.RowKit Go.Joins
set_option maxRecDepth 100000
theorem own:ownKnob Tryz.prog.godebug=none:=by kernel_rfl
theorem laidOut:laidOutB Tryz.prog=true:=by kernel_rfl
theorem cellsInt:Tryz.prog.cellsOf 3=1:=by kernel_rfl
theorem uInt:Tryz.prog.underlying 3=some (.int .i64):=by kernel_rfl
theorem bytesInt:Tryz.prog.bytesOf 3=8:=by kernel_rfl
theorem i64_of_wf {n:Int} (h:(Lit.int .i64 n).wf=true):I64 n:=by
 have:=bounds_i64 h
 unfold I64
 omega
theorem open_intsV {H:Type} {enc:TypeId×Value→H} {W:World} {held:Bool} {fuel:Nat} {v:Value} {y:DataW H×List MemPlace}
 (h:DataW.trod enc Tryz.prog W 0 (fun _=>true) held fuel 22 [v]=some y) (hw:∀ n∈y.1.weights Tryz.prog 22,n≤reachBytes) :
 ∃ xs,IntsAt W v xs∧xs.length≤17592186043904∧∀ x∈xs,I64 x:=by
 rcases open_ints uInts uInt cellsInt h with ⟨hcs,_⟩ | ⟨a,len,cap,zs,hcs,_,hl,hm,hz,hx,hcell,hwz⟩
 ·simp at hcs
  subst hcs
  exact ⟨[],(OwnI.nil 0 W).at,by simp,by simp⟩
 ·simp at hcs
  subst hcs
  simp only [if_true] at hz
  have hzl:(zs.take len).length=len:=by simp; omega
  refine ⟨zs.take len,⟨some a,cap,by rw [hzl],by rw [hzl]; exact hl,hm,(fun e=>by cases e),fun i hi=>?_⟩,?_,fun x hx=>i64_of_wf (hwz x (List.mem_of_mem_take hx))⟩
  ·have hi':i<zs.length:=by rw [hzl] at hi; omega
   show W.cell? (a.add i)=_
   rw [hcell i hi']
   simp [List.getD,hi']
  ·rw [hx] at hw
   have:=hw ((lits (H:=H) .i64 (zs.take len)).length*8+(lits (H:=H) .i64 (zs.drop len)).length*8) (by
    simp only [DataW.weights,uInts,bytesInt,List.mem_cons]
    left; omega)
   simp only [lits,List.length_map,reachBytes] at this
   omega
theorem weights_each3 {H:Type} {t0 t1 t2:TypeId} {y0 y1 y2:DataW H} {n:Nat} (h:n∈y2.weights Tryz.prog t2):n∈DataW.weightsEach Tryz.prog [t0,t1,t2] [y0,y1,y2]:=by
 simp only [DataW.weightsEach,List.mem_append]
 exact .inr (.inr (.inl h))
theorem open_ruleV {H:Type} {enc:TypeId×Value→H} {W:World} {held:Bool} {v:Value} {d:DataW H} {p:List MemPlace} {b0:Nat}
 (hv:Value.okWide Tryz.prog W .any b0 24 v) (h:DataW.Trod enc Tryz.prog W 0 (fun _=>true) held 24 v d p) (hw:∀ n∈d.weights Tryz.prog 24,n≤reachBytes) :
 ∃ (k R:Int) (u:Value) (xs:List Int),v=.agg #[.int .i64 k,.int .i64 R,u]∧IntsAt W u xs∧xs.length≤17592186043904∧(∀ x∈xs,I64 x)∧I64 k∧I64 R:=by
 obtain ⟨v0,v1,v2,y0,y1,y2,n,rfl,rfl,rfl,h0,h1,h2⟩:=open_agg3 Tryz.underlying24 (by kernel_rfl) (by kernel_rfl) hv h
 obtain ⟨a,e0,_,wa⟩:=DataW.trod_int uInt h0
 obtain ⟨b,e1,_,wb⟩:=DataW.trod_int uInt h1
 simp at e0 e1
 subst e0 e1
 obtain ⟨xs,hx,hl,hb⟩:=open_intsV h2 fun n hn=>hw n (by
  simp only [DataW.weights,Tryz.underlying24]
  exact weights_each3 (t0:=3) (t1:=3) (t2:=22) hn)
 exact ⟨a,b,v2,xs,rfl,hx,hl,hb,i64_of_wf wa,i64_of_wf wb⟩
theorem star : "*" ++ "errors.errorString" = "*errors.errorString" := by decide
theorem rowES (u : TypeId) (h : Tryz.prog.typeName? 3 u = some "*errors.errorString") : u = 287 :=
 typeName_ptr_named (nm := "errors.errorString") (by rw [star]; kernel_rfl) (by kernel_rfl) (by decide) u (by rw [star]; exact h)
theorem pES:Tryz.prog.underlying 287=some (.pointer 307):=by kernel_rfl
theorem cES:Tryz.prog.cellsOf 307=1:=by kernel_rfl
theorem cStr:Tryz.prog.cellsOf 9=1:=by kernel_rfl
def laid12 : List (String × DataW Unit) := [("eden/api.BadRule", Rows.laid_eden_api_BadRule), ("eden/api.BadWord", Rows.laid_eden_api_BadWord), ("eden/api.BadArg", Rows.laid_eden_api_BadArg), ("eden/api.TooBig", Rows.laid_eden_api_TooBig), ("eden/api.NoBudget", Rows.laid_eden_api_NoBudget), ("eden/api.BadText", Rows.laid_eden_api_BadText), ("eden/api.BadPatch", Rows.laid_eden_api_BadPatch), ("eden/api.BadCert", Rows.laid_eden_api_BadCert), ("eden/api.NoInverse", Rows.laid_eden_api_NoInverse), ("eden/api.BadLine", Rows.laid_eden_api_BadLine), ("eden/api.BadState", Rows.laid_eden_api_BadState), ("eden/api.Unknown", Rows.laid_eden_api_Unknown)]
theorem sentinel {n:String} {text:List UInt8} {r:List (String×DataW Unit)} {W:World} {g:Nat}
 (h : laidMet Tryz.prog ((n, .iface "*errors.errorString" (.ptr (.agg [.lit (.string text)]))) :: r) W)
 (hg:Tryz.prog.globalNamed n=some g) (ht:(Tryz.prog.globals[g]?).map (·.type)=some 27) :
 (∃ a:Addr,W.cell? ⟨g,0,none⟩=some (.iface 287 (.pointer (some a)))∧∃ s,W.cell? a=some (.string s)∧s.data.toList=text∧∃ c t,W.heap[a.block]?=some (.cells c t (0,0)))∧laidMet Tryz.prog r W:=by
 refine ⟨?_,h.tail⟩
 obtain ⟨ps,⟨g0,t0,cs0,f0,p0,q0,hg0,ht0,hv0,hd0,_,e0⟩,_,hrows⟩:=h
 obtain rfl:=Option.some.inj (hg.symm.trans hg0)
 obtain rfl:=Option.some.inj (ht.symm.trans ht0)
 subst e0
 obtain ⟨l0⟩:=cs0
 have ok0:∀ u v,l0=[.iface u v]→Value.okWide Tryz.prog W .any 0 u v:=fun u v e=>by
  subst e
  exact (hrows g 0 (by simp [MemPlace.row])).2 u v (by simpa using World.var?_cell hg hv0 0)
 obtain ⟨a0,s0,rfl,hc0,hs0,hz0,rfl⟩:=errorString_of_trod Tryz.underlying27 rowES pES Tryz.underlying307 rfl rfl Tryz.underlying9 cES cStr hd0 ok0
 exact ⟨a0,by simpa using World.var?_cell hg hv0 0,s0,hc0,hs0,(hrows a0.block a0.off (by simp [MemPlace.row])).1⟩
def txt:Nat→List UInt8
 | 1=>[98,97,100,32,114,117,108,101]
 | 2=>[98,97,100,32,119,111,114,100]
 | 3=>[98,97,100,32,97,114,103,117,109,101,110,116]
 | 4=>[116,111,111,32,98,105,103]
 | 5=>[110,111,32,98,117,100,103,101,116]
 | 6=>[98,97,100,32,116,101,120,116]
 | 7=>[98,97,100,32,112,97,116,99,104]
 | 8=>[98,97,100,32,99,101,114,116,105,102,105,99,97,116,101]
 | 9=>[110,111,32,105,110,118,101,114,115,101]
 | 10=>[98,97,100,32,108,105,110,101]
 | 11=>[98,97,100,32,115,116,97,116,101]
 | 99=>[117,110,107,110,111,119,110]
 | _=>[]
theorem txt_apart:∀ m n:Fin 12,1≤m.val→1≤n.val→txt m.val=txt n.val→m=n:=by decide
theorem glob_of_laidR {W:World} {l:List (String×DataW Unit)} (h:laidMet Tryz.prog (laid12++l) W):∃ r,Glob r W:=by
 obtain ⟨⟨a1,c1,s1,e1,t1,f1⟩,h⟩:=sentinel (text:=txt 1) h (g:=0) (by kernel_rfl) (by kernel_rfl)
 obtain ⟨⟨a2,c2,s2,e2,t2,f2⟩,h⟩:=sentinel (text:=txt 2) h (g:=4) (by kernel_rfl) (by kernel_rfl)
 obtain ⟨⟨a3,c3,s3,e3,t3,f3⟩,h⟩:=sentinel (text:=txt 3) h (g:=5) (by kernel_rfl) (by kernel_rfl)
 obtain ⟨⟨a4,c4,s4,e4,t4,f4⟩,h⟩:=sentinel (text:=txt 4) h (g:=1) (by kernel_rfl) (by kernel_rfl)
 obtain ⟨⟨a5,c5,s5,e5,t5,f5⟩,h⟩:=sentinel (text:=txt 5) h (g:=6) (by kernel_rfl) (by kernel_rfl)
 obtain ⟨⟨a6,c6,s6,e6,t6,f6⟩,h⟩:=sentinel (text:=txt 6) h (g:=7) (by kernel_rfl) (by kernel_rfl)
 obtain ⟨⟨a7,c7,s7,e7,t7,f7⟩,h⟩:=sentinel (text:=txt 7) h (g:=8) (by kernel_rfl) (by kernel_rfl)
 obtain ⟨⟨a8,c8,s8,e8,t8,f8⟩,h⟩:=sentinel (text:=txt 8) h (g:=9) (by kernel_rfl) (by kernel_rfl)
 obtain ⟨⟨a9,c9,s9,e9,t9,f9⟩,h⟩:=sentinel (text:=txt 9) h (g:=2) (by kernel_rfl) (by kernel_rfl)
 obtain ⟨⟨a10,c10,s10,e10,t10,f10⟩,h⟩:=sentinel (text:=txt 10) h (g:=10) (by kernel_rfl) (by kernel_rfl)
 obtain ⟨⟨a11,c11,s11,e11,t11,f11⟩,h⟩:=sentinel (text:=txt 11) h (g:=11) (by kernel_rfl) (by kernel_rfl)
 obtain ⟨⟨a99,c99,s99,e99,t99,f99⟩,h⟩:=sentinel (text:=txt 99) h (g:=12) (by kernel_rfl) (by kernel_rfl)
 clear h
 have key:∀ n:Nat,(1≤n∧n≤11)∨n=99→∃ s,W.cell? ((fun n:Nat=>match n with | 1=>a1 | 2=>a2 | 3=>a3 | 4=>a4 | 5=>a5 | 6=>a6 | 7=>a7 | 8=>a8 | 9=>a9 | 10=>a10 | 11=>a11 | _=>a99) n)=some (.string s)∧s.data.toList=txt n∧∃ c t,W.heap[((fun n:Nat=>match n with | 1=>a1 | 2=>a2 | 3=>a3 | 4=>a4 | 5=>a5 | 6=>a6 | 7=>a7 | 8=>a8 | 9=>a9 | 10=>a10 | 11=>a11 | _=>a99) n).block]?=some (.cells c t (0,0)):=by
  intro n hn
  have:n=1∨n=2∨n=3∨n=4∨n=5∨n=6∨n=7∨n=8∨n=9∨n=10∨n=11∨n=99:=by omega
  rcases this with rfl | rfl | rfl | rfl | rfl | rfl | rfl | rfl | rfl | rfl | rfl | rfl
  ·exact ⟨s1,e1,t1,f1⟩
  ·exact ⟨s2,e2,t2,f2⟩
  ·exact ⟨s3,e3,t3,f3⟩
  ·exact ⟨s4,e4,t4,f4⟩
  ·exact ⟨s5,e5,t5,f5⟩
  ·exact ⟨s6,e6,t6,f6⟩
  ·exact ⟨s7,e7,t7,f7⟩
  ·exact ⟨s8,e8,t8,f8⟩
  ·exact ⟨s9,e9,t9,f9⟩
  ·exact ⟨s10,e10,t10,f10⟩
  ·exact ⟨s11,e11,t11,f11⟩
  ·exact ⟨s99,e99,t99,f99⟩
 refine ⟨(fun n:Nat=>match n with | 1=>a1 | 2=>a2 | 3=>a3 | 4=>a4 | 5=>a5 | 6=>a6 | 7=>a7 | 8=>a8 | 9=>a9 | 10=>a10 | 11=>a11 | _=>a99),c1,c2,c3,c4,c5,c6,c7,c8,c9,c10,c11,c99,(fun n hn=>?_),fun m n hm1 hm2 hn1 hn2 he=>?_,fun n hn=>?_⟩
 ·obtain ⟨s,hs,_⟩:=key n hn
  exact ⟨s,hs⟩
 ·obtain ⟨s,hs,ts,_⟩:=key m.toNat (by omega)
  obtain ⟨s',hs',ts',_⟩:=key n.toNat (by omega)
  have hss:s=s':=by
   have:=hs.symm.trans ((congrArg W.cell? he).trans hs')
   simpa using this
  subst hss
  have:=txt_apart ⟨m.toNat,by omega⟩ ⟨n.toNat,by omega⟩ (by simp; omega) (by simp; omega) (ts.symm.trans ts')
  have:=congrArg Fin.val this
  simp at this
  omega
 ·obtain ⟨_,_,_,hf⟩:=key n hn
  exact hf
theorem glob_of_laid {W:World} (h:laidMet Tryz.prog laid12 W):∃ r,Glob r W:=glob_of_laidR (l:=[]) h
end Go.Proofs.YtkaoebokbfcmhaaGreatDoor
namespace Go.Proofs.YtkaoebokbfcmhaaGreatDoor
open Go.RowKit
set_option maxRecDepth 100000
def laid13 : List (String × DataW Unit) := ("errors.errorType", Rows.laid_errors_errorType) :: laid12
theorem rtypeNo : (Tryz.prog.cutTypes.find? (·.1 == "internal/reflectlite.rtype")).map (·.2) = some 192 := by kernel_rfl
theorem errorTypeNo : Tryz.prog.globalNamed "errors.errorType" = some 3 := by kernel_rfl
theorem typesNo:Tryz.prog.types.size=419-100:=by kernel_rfl
theorem oneError:((List.range (419-100)).filter fun t=>Tryz.prog.rowNamed t [101,114,114,111,114])=[27]:=by kernel_rfl
theorem handleErr:typeHandle Tryz.prog 27=.pointer (some ⟨13,27,none⟩):=by kernel_rfl
theorem glob_of_laidH {W:World} (h:laidMetH Tryz.prog laid13 W):∃ r,Glob r W∧GlobE W:=by
 have h' : laidMet Tryz.prog laid12 W ∧ handlesMet Tryz.prog [("errors.errorType", Rows.laid_errors_errorType)] W := h
 obtain ⟨r,hg⟩:=glob_of_laid h'.1
 refine ⟨r,hg,?_⟩
 obtain ⟨name,u,ty,e1,e2,e3,e4,e5⟩:=h'.2 _ (List.mem_cons_self ..)
 have en:name=[101,114,114,111,114]:=(Option.some.inj e1).symm
 subst en
 obtain rfl:=Option.some.inj (rtypeNo.symm.trans e2)
 have hm:ty∈(List.range (419-100)).filter fun t=>Tryz.prog.rowNamed t [101,114,114,111,114]:=List.mem_filter.2 ⟨List.mem_range.2 (by rw [← typesNo]; exact e3),e4⟩
 rw [oneError] at hm
 obtain rfl:=List.mem_singleton.1 hm
 rw [handleErr] at e5
 simpa [GlobE] using World.var?_cell errorTypeNo e5 0
end Go.Proofs.YtkaoebokbfcmhaaGreatDoor
namespace Go.Proofs.YtkaoebokbfcmhaaGreatDoor
open Go.ChangeShapes Go.WideShapes Go.ChangeAt Go.RowKit Go.Joins
namespace WholeRefusedP
set_option maxRecDepth 100000 in
theorem door_met (os:Os) (args:Array Value):laidMetH Tryz.prog Rows.wholeRefusedRow.laid ((World.doorLaid Tryz.prog 400 os).forCall (fun _ _=>0) ⟨#[],args,[]⟩).memory :=
 laidMetH_of_parts3 (fuel:=8) (laidMet_of_run' 8 (by kernel_rfl) (by kernel_rfl)) (by kernel_rfl) (by kernel_rfl)
set_option maxRecDepth 100000 in
theorem lifted (os:Os) (started:os.Started) (H:Type) (enc:TypeId×Value→H) :
 ReturnsInHanded {} Tryz.checked os 6 .any (fun w args=>(Rows.wholeRefusedSpec.pre enc Tryz.prog Tryz.f6 [] false w args∧laidMetH Tryz.prog Rows.wholeRefusedRow.laid w)∧sizedMet enc Tryz.prog Tryz.f6 (OpenSpec.ofChange Rows.wholeRefusedSpec) false w args)
  (Rows.wholeRefusedSpec.post enc Tryz.prog Tryz.f6 false true false false):=by
 refine returnsInHanded_of_change_and (C:=Tryz.checked) (X:=fun w _=>laidMetH Tryz.prog Rows.wholeRefusedRow.laid w) (fun _ _ _ hh h=>h.of_heap hh) own started (by kernel_rfl) Tryz.func6
  (ChangeSpec.witness_shaped (enc:=enc) (C:=Tryz.checked) (os:=os) (X:=fun w _=>laidMetH Tryz.prog Rows.wholeRefusedRow.laid w) false (World.doorLaid Tryz.prog 400 os) #[.agg #[.int .i64 0,.int .i64 0,.slice none 0 0]] 8 rfl (World.shaped_of_RefB (by kernel_rfl) (by kernel_rfl)) (by kernel_rfl) (by kernel_rfl) (by kernel_rfl) (door_met os _)) ?_
 intro W base args ds gs before hval0 hW _ hsz hL _
 have hval:∀ (j:Nat) t v,Tryz.f6.params[j]?=some t→args[j]?=some v→Value.okWide Tryz.prog W .any base t v:=hval0
 have hW':=hW
 obtain ⟨p,q,hA0,hV,rfl,hfz,hnd⟩:=hW
 have hA:DataW.TrodAll enc Tryz.prog W 0 (fun _=>true) true Tryz.f6.params.toList args.toList ds p:=hA0
 rw [Tryz.params6] at hA hval hsz
 obtain ⟨v0,vs0,d0,ds0,p0,q0,hargs,rfl,rfl,g0,t0⟩:=trodAll_cons hA
 obtain ⟨rfl,rfl,rfl⟩:=trodAll_nil t0
 obtain rfl:args=#[v0]:=by cases args; simp_all
 obtain ⟨rfl,rfl⟩:=trodVars_none hV
 have kk0:=g0
 have lt0:∀ x∈p0,x.block<W.heap.size:=by obtain ⟨m,hm⟩:=kk0; exact DataW.trod_lt m _ _ _ hm
 obtain ⟨kr0,rr0,u0,x0,rfl,h0,l0,b0,bk0,br0⟩:=open_ruleV (hval 0 24 v0 rfl rfl) g0 (fun n hn=>by
  have:=List.all_eq_true.1 hsz n (DataW.weights_mem_each (j:=0) (t:=24) rfl rfl n hn)
  simpa using this)
 obtain ⟨r,hg,hG⟩:=glob_of_laidH (W:=W) (by
  exact hL)
 clear hA0 hval0
 refine (wholeRefused_any r _ _ _ _ _ hg hG h0).mono fun e W' ⟨x,he,bel,hxx⟩=>?_
 subst he; subst hxx
 exact ⟨_,rfl,_,_,_,[],_,[],hW',trodAll_mk1 (shut_bool Tryz.underlying4 _),(trodAll_cons_mk (Below.trod laidOut (by kernel_rfl) (of_decide_eq_true (by kernel_rfl)) kk0 bel lt0) trodAll_mk0),rfl,bel.frame _,fun h=>by cases h⟩
theorem and_t {a b:Bool} (h:a=true) (k:b=true):(a&&b)=true:=by rw [h,k]; rfl
theorem jf_wf:Rows.wholeRefusedRow.wf (OpenSpec.ofChange Rows.wholeRefusedSpec)=true:=by kernel_rfl
theorem jf_lo:laidOutB Tryz.prog=true:=by kernel_rfl
theorem jf_mr:mapsRowed Tryz.prog=true:=by kernel_rfl
theorem jf_nt:namedTie Tryz.prog Rows.wholeRefusedRow.named Rows.wholeRefusedSpec.vars=true:=by kernel_rfl
theorem jf_ip:(Rows.wholeRefusedRow.inPlace==Tryz.prog.inPlace 6)=true:=by kernel_rfl
theorem jf_uf:(Rows.wholeRefusedRow.unfollowed==Tryz.prog.unfollowed 6)=true:=by kernel_rfl
theorem jf_rc:(Rows.wholeRefusedRow.recurses==Tryz.prog.recurses 6)=true:=by kernel_rfl
theorem jf_nm:(Rows.wholeRefusedRow.named==Tryz.prog.varsNamed 6)=true:=by kernel_rfl
theorem jf_pk:(Rows.wholeRefusedRow.plainKeys==Tryz.prog.plainKeys)=true:=by kernel_rfl
theorem jf_sh:Tryz.prog.stopsHeard=true:=by kernel_rfl
theorem jf_me:Tryz.prog.mayEnter=true:=by kernel_rfl
theorem jf_lf:(Rows.wholeRefusedRow.lifted==Tryz.prog.liftsFinal)=true:=by kernel_rfl
theorem jf_mk:(Tryz.prog.make==some Rows.wholeRefusedRow.make)=true:=by kernel_rfl
theorem joined:joinedFacts Tryz.prog 6 Tryz.f6 Rows.wholeRefusedSpec Rows.wholeRefusedRow=true:=and_t (and_t (and_t (and_t (and_t (and_t (and_t (and_t (and_t (and_t (and_t (and_t (and_t (and_t (and_t (and_t (and_t (and_t (and_t (and_t (and_t (and_t (and_t (and_t (and_t (and_t (and_t (and_t (and_t (and_t (and_t jf_wf jf_lo) jf_mr) (by kernel_rfl)) jf_nt) (by kernel_rfl)) (by kernel_rfl)) (by kernel_rfl)) (by kernel_rfl)) jf_ip) jf_uf) jf_rc) jf_nm) (by kernel_rfl)) (by kernel_rfl)) (by kernel_rfl)) (by kernel_rfl)) (by kernel_rfl)) (by kernel_rfl)) (by kernel_rfl)) (by kernel_rfl)) (by kernel_rfl)) jf_pk) (by kernel_rfl)) jf_sh) jf_me) jf_lf) jf_mk) (by kernel_rfl)) (by kernel_rfl)) (by kernel_rfl)) (by kernel_rfl)
theorem fnamed:Tryz.prog.funcNamed Rows.wholeRefusedRow.func=some 6:=by kernel_rfl
theorem inst:Tryz.f6.isInstance Tryz.prog Rows.wholeRefusedRow.origin Rows.wholeRefusedRow.targs:=of_decide_eq_true (by kernel_rfl)
theorem wrapd:Tryz.f6.isWrapper Tryz.prog Rows.wholeRefusedRow.wrapper Rows.wholeRefusedRow.mainSum:=by unfold Func.isWrapper; first | (rw [if_pos (by decide +kernel)]; kernel_rfl) | (rw [if_neg (by decide +kernel)]; exact ⟨rfl,rfl⟩)
theorem over:Rows.WholeRefusedSaid :=
 OpenClaim.holds_of_wide 6 Tryz.f6 rfl rfl rfl rfl rfl rfl rfl ⟨rfl,rfl,rfl,rfl,rfl⟩ rfl rfl rfl rfl rfl fnamed Tryz.func6 joined
  inst wrapd
  (fun os started H enc _=>lifted os started H enc)
theorem cw:Rows.wholeRefusedRow.wfByText (OpenSpec.ofChange Rows.wholeRefusedSpec)=true:=by kernel_rfl
theorem cm:Tryz.prog.mainIs=some (Rows.wholeRefusedCard.stood.harness.1,Rows.wholeRefusedCard.stood.harness.2.toList):=by kernel_rfl
theorem cl:Rows.wholeRefusedCard.stood.looks=Tryz.prog.looks []:=by kernel_rfl
theorem cg:false=Rows.wholeRefusedRow.goesBy Tryz.prog:=by kernel_rfl
theorem cs:([24].all fun u=>!Tryz.prog.wantsStandIn u)=true:=by kernel_rfl
theorem card_holds:Rows.WholeRefusedCardSaid :=
 Claim7.holds_tied_plain_at .later [] [.handle,.sentinel,.sentinel,.sentinel,.sentinel,.sentinel,.sentinel,.sentinel,.sentinel,.sentinel,.sentinel,.sentinel,.sentinel] true _ _
  over (fun _ h=>by cases h) cw (fun _ h=>by cases h) wholeRefused_row_tie rfl ⟨rfl,rfl⟩ cm rfl
  (fun f fn hf hfn=>by
    obtain rfl:f=6:=Option.some.inj (fnamed.symm.trans hf) |>.symm
    obtain rfl:fn=Tryz.f6:=(Option.some.inj (Tryz.func6.symm.trans hfn)).symm
    exact ⟨cl,fun j t ht=>by
     rw [Tryz.params6] at ht
     have hm:t∈[24]:=by simpa using Array.mem_of_getElem? ht
     exact (show Tryz.prog.wantsStandIn t=false by simpa using List.all_eq_true.1 cs t hm)⟩)
  cg
end WholeRefusedP
#print axioms WholeRefusedP.card_holds
end Go.Proofs.YtkaoebokbfcmhaaGreatDoor
