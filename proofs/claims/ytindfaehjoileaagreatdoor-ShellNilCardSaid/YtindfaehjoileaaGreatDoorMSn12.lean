/-
  Texts that the proof leans on.
-/
import Derived.Test.YtindfaehjoileaaGreatDoorMSn11
import Derived.Lib.ItoaNum
import Derived.Lib.Join
import Derived.Lib.ItoaLen
import Derived.Shelf.Strconv.Itoa3
import Derived.Shelf.Strings.OnBuilder
import Derived.Deep.Cut
import Derived.Lib.OthersKept
import Derived.Shelf.Strings.SplitShaped
import Derived.Shelf.Strings.BuilderK
import Derived.Test.YtindfaehjoileaaGreatDoorRows
import Derived.ProofKit
import Derived.OpenShut
import Derived.ShutString
import Derived.ChangeOld
import Derived.LaidMore
import Derived.Stop.Joined
import Derived.Stop.LaidErr
import Derived.Lib.SmallJoins
import Derived.LaidHandle
import Derived.Lay
import Derived.Lib.LaidTab
import Derived.HandedShaped
namespace Go.Proofs.YtindfaehjoileaaGreatDoor
open Go.RowKit
set_option maxRecDepth 100000
set_option maxHeartbeats 8000000
theorem norm_small {l:List Nat} {x:Nat} (h1:Limbs l) (h2:Norm l) (h3:natV l=x) (hx:x<4294967296):l=if x=0 then [] else [x]:=by
 split
 ·rename_i h0
  exact norm_unique h1 (by intro y hy; cases hy) h2 (fun h=>absurd rfl h) (by rw [h3,h0]; rfl)
 ·rename_i h0
  refine norm_unique h1 (by intro y hy; rw [List.mem_singleton.1 hy]; exact hx) h2 (fun h=>by simpa using h0) ?_
  rw [h3]; simp [natV]
theorem bits_zero (v:Value) (w:World) (h:NumAt w v 0) :
 Calls Tryz.prog 149 #[v] w (fun e w'=>e=.returned (.int .i64 0)∧w'=w):=by
 obtain ⟨l,hL,h1,h2,h3⟩:=h
 obtain rfl:=norm_small h1 h2 h3 (by decide)
 obtain ⟨va,vn,vc,rfl⟩:=hL.shape
 have hN:=norm_any _ _ w hL
 replace hN:=Hd hN
 clear hL h1 h2 h3
 go_enter Tryz.func149,Tryz.ntmps149
 go_wp2_with fail
 refine hN.out.mono ?_
 rintro e _ ⟨m,hm,rfl,-,-,rfl⟩
 obtain rfl:m=0:=by simpa using hm
 unfold cutAt
 go_wp2
 go_ret
 exact ⟨rfl,rfl⟩
theorem tab_step:∀ i<8,((ecaT 232).take i++List.replicate (8-i) 0).set i (((232/2 ^ i)%2:Nat):Int)=(ecaT 232).take (i+1)++List.replicate (8-(i+1)) 0:=by decide +kernel
theorem NumIs.setBelow {B:Nat} {w:World} {v:Value} {n:Nat} (h:NumIs B w v n) {a:Addr} (ha:a.block<B) (u:Value):NumIs B (w.setCell a u) v n:=by
 obtain ⟨l,h1,h2⟩:=h; exact ⟨l,OwnV.setBelowBase h1 ha u,h2⟩
theorem from_232 (v:Value) (w:World) (h:NumAt w v 232) :
 Calls Tryz.prog 54 #[.int .i64 2,.int .i64 1,v] w (Ret2 (fun x y w'=>y=.nilIface∧∃ a c,x=.agg #[.int .i64 2,.int .i64 1,.slice a 8 c]∧OwnI w.heap.size w' (.slice a 8 c) (ecaT 232)) w):=by
 obtain ⟨va,vm,vc,rfl⟩:=h.shape
 obtain ⟨w0,hw0⟩:∃ W,w.alloc (.cells #[.int .i64 0,.int .i64 0,.slice none 0 0] 124)=W:=⟨_,rfl⟩
 have b0:Below w.heap.size w w0:=by rw [← hw0]; exact belowAlloc _ _
 have q0:Box3 w0 w.heap.size (.int .i64 0) (.int .i64 0) (.slice none 0 0):=by rw [← hw0]; simp [Box3,go_sem]
 have s0:w0.heap.size=w.heap.size+1:=by rw [← hw0]; simp
 have hsz:Calls Tryz.prog 145 #[.int .i64 2,.int .i64 1] w0 (fun e w'=>e=.returned (.tuple #[.int .i64 8,.nilIface])∧w0=w'):=size_ok 2 1 w0 (by decide) (by decide) (by decide)
 have h0:=h.below b0
 replace hw0:=Hd hw0
 replace q0:=Hd q0
 replace hsz:=Hd hsz
 replace h0:=Hd h0
 replace b0:=Hd b0
 replace s0:=Hd s0
 clear h
 go_enter Tryz.func54,Tryz.ntmps54
 go_upto_region 1 with fail
 rw [hw0.out]
 go_wp2_with fail
 refine hsz.out.mono ?_
 rintro e _ ⟨rfl,rfl⟩
 go_wp2_with (at_make; refine wpl_make rfl _ _ rfl 8 rfl rfl (by decide) (by decide) ?_)
 intro tv w1 hO b1
 obtain ⟨tg,tc,rfl,ht0,ht1⟩:∃ g c,tv=.slice (some ⟨g,0,none⟩) 8 c∧w0.heap.size≤g∧g<w1.heap.size:=by
  rcases hO.2 with ⟨_,hn⟩ | ⟨g,cap,cur,e,hb,hg,_⟩
  ·exact absurd hn (by decide)
  ·exact ⟨g,cap,e,hb,(Array.getElem?_eq_some_iff.1 hg).1⟩
 have bl:=belowAlloc w1 (.cells #[.int .i64 2,.int .i64 1,.slice (some ⟨tg,0,none⟩) 8 tc] 124)
 have q1:Box3 (w1.alloc (.cells #[.int .i64 2,.int .i64 1,.slice (some ⟨tg,0,none⟩) 8 tc] 124)) w1.heap.size (.int .i64 2) (.int .i64 1) (.slice (some ⟨tg,0,none⟩) 8 tc):=by simp [Box3,go_sem]
 obtain ⟨w2,hw2⟩:∃ W,w1.alloc (.cells #[.int .i64 2,.int .i64 1,.slice (some ⟨tg,0,none⟩) 8 tc] 124)=W:=⟨_,rfl⟩
 rw [hw2] at bl q1
 have B2:=Below.step (Below.step b0.out b1) bl
 have N2:=(h0.out.below b1).below bl
 have Q2:=(q0.out.below b1).below bl
 have O2:=hO.below bl
 have s1:w.heap.size+1≤w1.heap.size:=by have:=b1.size; have:=s0.out; omega
 have s2:w1.heap.size<w2.heap.size:=by rw [← hw2]; simp
 obtain ⟨rb,hrb⟩:∃ rb,w1.heap.size=rb:=⟨_,rfl⟩
 rw [hrb] at q1 s1 s2 ht1
 have ht2:tg≠rb:=by omega
 have ht3:tg≠w.heap.size:=by have:=s0.out; omega
 have ht4:w.heap.size≤tg:=by have:=s0.out; omega
 clear ht0 ht1
 replace ht2:=Hd ht2
 replace ht3:=Hd ht3
 replace ht4:=Hd ht4
 replace hrb:=Hd hrb
 replace hw2:=Hd hw2
 replace B2:=Hd B2
 replace N2:=Hd N2
 replace Q2:=Hd Q2
 replace O2:=Hd O2
 replace s2:=Hd s2
 replace s1:=Hd s1
 have q1':=Hd q1
 obtain ⟨⟨z0,z1,z2⟩,-,-,-⟩:=q1
 clear hO b1 bl b0 h0 q0 hsz
 go_upto_region 7 with fail
 rw [hw2.out,hrb.out]
 go_upto_region 8 with fail
 go_loopw [2,37] (fun cv iv wr=>∃ i:Nat,iv=.int .i64 i∧i≤8∧NumAt wr cv (232/2 ^ i)∧OwnI w0.heap.size wr (.slice (some ⟨tg,0,none⟩) 8 tc) ((ecaT 232).take i++List.replicate (8-i) 0)∧Box3 wr rb (.int .i64 2) (.int .i64 1) (.slice (some ⟨tg,0,none⟩) 8 tc)∧Box3 wr w.heap.size (.int .i64 0) (.int .i64 0) (.slice none 0 0)∧Below w.heap.size w wr∧w2.heap.size≤wr.heap.size) (fun _ iv _=>8-(intOf iv).toNat)
 case atStart=>exact ⟨0,rfl,by decide,N2.out,O2.out,q1'.out,Q2.out,B2.out,Nat.le_refl _⟩
 case round =>
  clear z0 z1 z2
  obtain ⟨i,rfl,hi,hN,hO,hq,hQ,hB,hs⟩:=hrel
  obtain ⟨wo,rfl⟩:∃ wo:World,wo=wr:=⟨_,rfl⟩
  obtain ⟨ca,cn,cc,rfl⟩:=hN.shape
  by_cases hlt:i<8
  ·have d1:decide ((i:Int)<8)=true:=decide_eq_true (by omega)
   obtain ⟨l,hL,hl1,hl2,hl3⟩:=hN
   have hll:l.length≤1:=by
    have hx:232/2 ^ i<4294967296:=Nat.lt_of_le_of_lt (Nat.div_le_self _ _) (by decide)
    rw [norm_small hl1 hl2 hl3 hx]; split<;>simp
   have hov:=nat_over 2 (.slice ca cn cc) l wo hL hl1 (by omega) (by decide) (by decide)
   rw [hl3] at hov
   replace hov:=Hd hov
   have hst:=tab_step i hlt
   have hdv:232/2 ^ i/2=232/2 ^ (i+1):=by rw [Nat.div_div_eq_div_mul,← Nat.pow_succ]
   obtain ⟨y,hy⟩:∃ y:Int,((232/2 ^ i%2:Nat):Int)=y:=⟨_,rfl⟩
   have hy2:y=0∨y=1:=by omega
   rw [hy] at hst
   replace hy:=Hd hy
   replace hst:=Hd hst
   replace hdv:=Hd hdv
   replace hO:=Hd hO
   replace hq:=Hd hq
   replace hQ:=Hd hQ
   replace hB:=Hd hB
   replace hs:=Hd hs
   clear hL hl1 hl2 hl3
   go_wp2_with fail
   refine hov.out.mono ?_
   rintro e w3 ⟨x,y',z,rfl,b3,hx,rfl,rfl⟩
   rw [hdv.out] at hx
   rw [hy.out]
   obtain ⟨xa,xn,xc,rfl⟩:=hx.num.shape
   go_upto_region 11 with fail
   obtain ⟨W,hW⟩:∃ W:World,w3.drew=W:=⟨_,rfl⟩
   have bW:Below wo.heap.size wo W:=by rw [← hW]; exact b3.drew
   have hx':NumIs wo.heap.size W (.slice xa xn xc) (232/2 ^ (i+1)):=by rw [← hW]; exact hx.below ((Below.refl _ _).drew)
   have hO':=hO.out.below bW
   have hq':=hq.out.below bW
   have hQ':=hQ.out.below bW
   have hB':=Below.step hB.out bW
   have hlen:i<((ecaT 232).take i++List.replicate (8-i) 0).length:=by simp [ecaT]; omega
   have iS:=fun w'=>hO'.at.idx i hlen w'
   obtain ⟨cS,eS⟩:∃ u,W.cell? (valAt (.slice (some ⟨tg,0,none⟩) 8 tc) i)=some u:=⟨_,hO'.at.cellD i hlen⟩
   have fS:=hO'.frz i hlen
   have hblk:=hO'.blkB i hlen
   have hO2:=hO'.set i hlen y
   rw [hst.out] at hO2
   have hbo:(valAt (.slice (some ⟨tg,0,none⟩) 8 tc) i).block<wo.heap.size:=World.block_lt_of_cell? _ _ (hO.out.at.cellD i hlen)
   have hx2:=hx'.setBelow hbo (.int .i64 y)
   have hS:W.cell? ⟨rb,2,none⟩=some (.slice (some ⟨tg,0,none⟩) 8 tc):=hq'.1.2.2
   rw [valAt_row] at iS eS fS hO2 hbo hx2 hblk
   have hq2:=hq'.far ht2.out i (.int .i64 y)
   have hQ2:=hQ'.far ht3.out i (.int .i64 y)
   have hB2:=hB'.setCell (p:=⟨tg,i,none⟩) ht4.out (.int .i64 y)
   have hs3:w2.heap.size≤(W.setCell ⟨tg,i,none⟩ (.int .i64 y)).heap.size:=by
    have:=bW.size
    have:=hs.out
    simp at *; omega
   replace hO2:=Hd hO2
   replace hx2:=Hd hx2
   replace hq2:=Hd hq2
   replace hQ2:=Hd hQ2
   replace hB2:=Hd hB2
   replace hs3:=Hd hs3
   replace hblk:=Hd hblk
   replace hbo:=Hd hbo
   have hsz8:((8:Nat):Int)=8:=rfl
   clear hx hx' hO' hq' hQ' hB' bW b3 hO hq hQ hB hs hov hst hdv
   refine wp_region_plan (fun w'=>w'.cell? ⟨rb,2,none⟩=some (.slice (some ⟨tg,0,none⟩) 8 tc)) 8 [(0,true),(1,true),(2,true),(3,true),(4,true),(5,true),(6,true),(7,true)] (by kernel_rfl) (by kernel_rfl) ?_
   rw [hW]
   refine pqY 48 hS ?_
   refine pqY 49 hS ?_
   refine pqY 50 hS ?_
   refine pqY 51 hS ?_
   refine pqY 52 hS ?_
   refine pqY 53 hS ?_
   refine pqY 2 hS ?_
   refine pqY 54 hS ?_
   refine head0 ?_
   simp only [List.drop_succ_cons,List.drop_zero]
   clear hS hW
   go_wp2
   refine NoPanic.normal ?_
   go_wp2
   go_roundw
   case measure=>simp [intOf]; omega
   case rel=>exact ⟨i+1,by go_num,by omega,hx2.out.num,hO2.out,hq2.out,hQ2.out,hB2.out,hs3.out⟩
  ·obtain rfl:i=8:=by omega
   have d1:decide ((8:Int)<8)=false:=by decide
   have hbz:=bits_zero (.slice ca cn cc) wo (by simpa using hN)
   replace hbz:=Hd hbz
   have hB':=Hd hB
   have hOf:OwnI w0.heap.size wo (.slice (some ⟨tg,0,none⟩) 8 tc) (ecaT 232):=by
    have e8:(ecaT 232).take 8++List.replicate (8-8) 0=ecaT 232:=by decide +kernel
    rw [e8] at hO; exact hO
   replace hOf:=Hd hOf
   obtain ⟨⟨z0,z1,z2⟩,-,-,-⟩:=hq
   have hQ':=Hd hQ
   clear hB hO hN hQ
   go_wp2_with fail
   refine hbz.out.mono ?_
   rintro e _ ⟨rfl,rfl⟩
   have qf:=hQ'.out
   obtain ⟨⟨x0,x1,x2⟩,y0,y1,y2⟩:=qf
   go_wp2
   have qe:=hQ'.out.st3 (.int .i64 2) (.int .i64 1) (.slice (some ⟨tg,0,none⟩) 8 tc)
   unfold st3 at qe
   obtain ⟨⟨v0,v1,v2⟩,-,-,-⟩:=qe
   refine bodyPost_ret (v:=.tuple #[.agg #[.int .i64 2,.int .i64 1,.slice (some ⟨tg,0,none⟩) 8 tc],.nilIface]) (by simp [results,Tryz.results54,go_sem,v0,v1,v2]) rfl ⟨_,_,rfl,below_set3 hB'.out (Nat.le_refl _) _ _ _,rfl,_,_,rfl,?_⟩
   exact (hOf.out.set3 (by have:=s0.out; omega) _ _ _).mono (by have:=s0.out; omega)
def sOk:ByteArray:=⟨#[111,107]⟩
theorem St1.of {wb B:Nat} {a:Option Addr} {c:Nat} {w w2:World} (b:Below w.heap.size w w2) (h:St0 wb w) (hO:OwnI B w2 (.slice a 8 c) (ecaT 232)) :
 St1 wb ((w2.alloc (.cells #[.int .i64 2,.int .i64 1,.slice a 8 c] 124)).setCell ⟨wb,0,none⟩ (.pointer (some ⟨w2.heap.size,0,none⟩))):=by
 have hlt:wb<w.heap.size:=(Array.getElem?_eq_some_iff.1 h).1
 have hlt2:wb<w2.heap.size:=Nat.lt_of_lt_of_le hlt b.size
 have h2:w2.heap[wb]?=some (.cells #[.pointer none,.slice none 0 0,.pointer none] 55 (0,0)):=(b.block wb hlt).trans h
 have bl:=belowAlloc w2 (.cells #[.int .i64 2,.int .i64 1,.slice a 8 c] 124)
 have h3:=(bl.block wb hlt2).trans h2
 refine ⟨w2.heap.size,a,8,c,heap_setCell_same _ _ _ _ _ _ h3,?_,?_⟩
 ·rw [heap_setCell_other _ _ _ _ (show w2.heap.size≠(⟨wb,0,none⟩:Addr).block by show w2.heap.size≠wb; omega)]
  exact heap_alloc_new w2 _
 ·have hO2:=(hO.below bl)
  refine OwnV.toI ?_
  refine ownsRow_setCell_other (OwnI.toV (hO2.mono (Nat.zero_le _))) ?_ _
  rcases hO2.2 with ⟨_,hn⟩ | ⟨g,cap,cur,e,hb,hg,rest⟩
  ·exact absurd hn (by decide)
  ·rw [e]
   intro he
   have he2:g=wb:=Option.some.inj he
   subst he2
   rw [h3] at hg
   injection hg with hg
   injection hg with _ h5 _
   exact absurd h5 (by decide)
theorem eca_run (wb:Nat) (t:ByteArray) (bv:Value) (w:World) (h:St0 wb w) :
 Calls Tryz.prog 53 #[.pointer (some ⟨wb,0,none⟩),.agg #[.string t,.int .i64 232,bv]] w (fun e W'=>e=.returned (.tuple #[.string sOk,.nilIface])∧But wb w W'∧St1 wb W'):=by
 obtain ⟨w0,hw0⟩:∃ W,w.alloc (.cells #[.string t,.int .i64 232,bv] 41)=W:=⟨_,rfl⟩
 have b0:Below w.heap.size w w0:=by rw [← hw0]; exact belowAlloc _ _
 have z1:w0.cell? ⟨w.heap.size,1,none⟩=some (.int .i64 232):=by rw [← hw0]; simp [go_sem]
 have q:=box3_heap h
 have hnf:Calls Tryz.prog 55 #[.int .u64 232] w0 (Ret1 (fun v w'=>NumIs w0.heap.size w' v 232) w0):=nat_from 232 w0 (by decide)
 replace hnf:=Hd hnf
 replace hw0:=Hd hw0
 replace b0:=Hd b0
 replace q:=Hd q
 replace h:=Hd h
 go_enter Tryz.func53,Tryz.ntmps53
 go_upto_region 1 with fail
 rw [hw0.out]
 go_wp2_with fail
 refine hnf.out.mono ?_
 rintro e w1 ⟨v,rfl,b1,hv⟩
 obtain ⟨va,vn,vc,rfl⟩:=hv.num.shape
 have hfr:=from_232 _ w1 hv.num
 replace hfr:=Hd hfr
 clear hv
 go_wp2_with fail
 refine hfr.out.mono ?_
 rintro e w2 ⟨x,y,rfl,b2,rfl,a,c,rfl,hO⟩
 have b02:=Below.step (Below.step b0.out b1) b2
 have bl:=belowAlloc w2 (.cells #[.int .i64 2,.int .i64 1,.slice a 8 c] 124)
 have hst:=St1.of b02 h.out hO
 have q3:=(q.out.below b02).below bl
 obtain ⟨⟨y0,y1,y2⟩,f0,f1,f2⟩:=q3
 have bw:=(But.of_below (g:=wb) (Below.step b02 bl)).setCell 0 (.pointer (some ⟨w2.heap.size,0,none⟩))
 replace hst:=Hd hst
 replace bw:=Hd bw
 clear hO b02 bl
 go_wp2
 exact bodyPost_ret (v:=.tuple #[.string sOk,.nilIface]) (by simp [results,Tryz.results53,sOk]) rfl ⟨rfl,bw.out,hst.out⟩
end Go.Proofs.YtindfaehjoileaaGreatDoor
namespace Go.Proofs.YtindfaehjoileaaGreatDoor
open Go.RowKit
set_option maxRecDepth 100000
def sYes:ByteArray:=⟨#[121,101,115]⟩
def sNo:ByteArray:=⟨#[110,111]⟩
theorem shyes_any (b:Bool) (w:World):Calls Tryz.prog 70 #[.bool b] w (fun e w'=>e=.returned (.string (if b then sYes else sNo))∧w'=w):=by
 cases b <;>
 (go_enter Tryz.func70,Tryz.ntmps70
  go_wp2
  go_ret
  exact ⟨rfl,rfl⟩)
theorem unless_no (s:ByteArray) (hs:s.size≤4096) (w:World):Calls Tryz.prog 66 #[.bool false,.string s,.nilIface] w (fun e w'=>e=.returned (.tuple #[.string (⟨#[110,111,32]⟩++s),.nilIface])∧w'=w):=by
 have hl:(⟨#[110,111,32]⟩:ByteArray).size+s.size≤maxLen:=by show 3+s.size≤_; unfold maxLen; omega
 go_enter Tryz.func66,Tryz.ntmps66
 go_wp2
 exact bodyPost_ret (v:=.tuple #[.string (⟨#[110,111,32]⟩++s),.nilIface]) (by simp [results,Tryz.results66]) rfl ⟨rfl,rfl⟩
theorem shnum_any (v:Value) (xs:ByteArray) (w:World) (h:Calls Tryz.prog 156 #[v] w (fun e w'=>e=.returned (.string xs)∧Below w.heap.size w w')) :
 Calls Tryz.prog 100 #[v,.nilIface] w (fun e w'=>e=.returned (.tuple #[.string xs,.nilIface])∧Below w.heap.size w w'):=by
 replace h:=Hd h
 go_enter Tryz.func100,Tryz.ntmps100
 go_wp2_with fail
 refine h.out.mono ?_
 rintro e w1 ⟨rfl,b1⟩
 go_wp2
 exact bodyPost_ret (v:=.tuple #[.string xs,.nilIface]) (by simp [results,Tryz.results100]) rfl ⟨rfl,b1⟩
set_option maxHeartbeats 8000000
def w01:List Int:=[0,1,0,0,1]
theorem alph2 (w:World):Calls Tryz.prog 289 #[.int .i64 2] w (fun e w'=>e=.returned (.bool true)∧w=w'):=by
 go_enter Tryz.func289,Tryz.ntmps289
 go_wp2
 go_ret
 exact ⟨rfl,rfl⟩
theorem word_parse (w:World) :
 Calls Tryz.prog 189 #[.int .i64 2,.string ⟨#[48,49,48,48,49]⟩] w (Ret2 (fun x y w'=>y=.nilIface∧OwnI w.heap.size w' x w01) w):=by
 go_enter Tryz.func189,Tryz.ntmps189
 go_wp2_with fail
 refine (alph2 _).mono ?_
 rintro e _ ⟨rfl,rfl⟩
 go_wp2_with (at_make; refine wpl_make0 rfl _ _ rfl 5 rfl rfl (by decide) (by decide) ?_)
 intro sv w1 hO b1
 obtain ⟨sa,sn,sc,rfl⟩:=hO.at.shape
 replace hO:=Hd hO
 go_upto_region 7 with fail
 go_loopw [6,24] (fun sv iv wr=>∃ i:Nat,iv=.int .i64 i∧i≤5∧OwnI w.heap.size wr sv (w01.take i)∧Below w.heap.size w wr) (fun _ iv _=>5-(intOf iv).toNat)
 case atStart=>exact ⟨0,rfl,by decide,hO.out,b1⟩
 case round =>
  clear hO b1
  obtain ⟨i,rfl,hi,hO,hB⟩:=hrel
  obtain ⟨wo,rfl⟩:∃ wo:World,wo=wr:=⟨_,rfl⟩
  have hs:=hB.size
  obtain ⟨ca,cn,cc,rfl⟩:=hO.at.shape
  have hbl:=hB
  replace hB:=Hd hB
  replace hO:=Hd hO
  obtain rfl | hlt:i=5∨i<5:=by omega
  ·go_wp2
   exact bodyPost_ret (v:=.tuple #[.slice ca cn cc,.nilIface]) (by simp [results,Tryz.results189]) rfl ⟨_,_,rfl,hB.out,rfl,hO.out⟩
  ·obtain ⟨y,hy⟩:∃ y,w01.getD i 0=y:=⟨_,rfl⟩
   have htk:w01.take i++[y]=w01.take (i+1):=by rw [← hy,List.take_add_one]; simp [List.getD,w01,hlt]
   have hl5:(w01.take i).length<17592186044415:=by simp [w01]; omega
   replace htk:=Hd htk
   have e0:((ByteArray.mk #[48,49,48,48,49])[0]'(by decide)).toNat=48:=rfl
   have e1:((ByteArray.mk #[48,49,48,48,49])[1]'(by decide)).toNat=49:=rfl
   have e2:((ByteArray.mk #[48,49,48,48,49])[2]'(by decide)).toNat=48:=rfl
   have e3:((ByteArray.mk #[48,49,48,48,49])[3]'(by decide)).toNat=48:=rfl
   have e4:((ByteArray.mk #[48,49,48,48,49])[4]'(by decide)).toNat=49:=rfl
   obtain rfl | rfl | rfl | rfl | rfl:i=0∨i=1∨i=2∨i=3∨i=4:=by omega
   all_goals
    simp only [w01,List.getD_cons_zero,List.getD_cons_succ] at hy
    subst hy
    go_wp2_with (at_builtin; refine wpl_append1 rfl _ _ rfl w.heap.size _ _ _ hO.out rfl rfl hl5 hs ?_)
    intro v' w' hO' b' _ _
    replace hO':OwnI w.heap.size w' v' _:=hO'
    replace hO':=(congrArg (OwnI w.heap.size w' v') htk.out).mp hO'
    have hB2:=hB.out.trans b'
    obtain ⟨da,dn,dc,rfl⟩:=hO'.at.shape
    replace hO':=Hd hO'
    replace hB2:=Hd hB2
    clear b'
    go_wp2
    go_roundw
    case measure=>simp [intOf]
    case rel=>exact ⟨_,rfl,by decide,hO'.out,hB2.out⟩
theorem word_parseK (k:Int) (hk:k=2) (w:World) :
 Calls Tryz.prog 189 #[.int .i64 k,.string ⟨#[48,49,48,48,49]⟩] w (Ret2 (fun x y w'=>y=.nilIface∧OwnI w.heap.size w' x w01) w):=by rw [hk]; exact word_parse w
def s0:ByteArray:=⟨#[48]⟩
theorem cnt2_run (r:Nat→Addr) (k q:Int) (hk:k=2) (hq:q=1) (va:Option Addr) (vn vc:Nat) (u:Value) (n:Int) (w:World) (hg:Glob r w) (h:IntsAt w (.slice va vn vc) (ecaT 232)) (hu:IntsAt w u w01) :
 Calls Tryz.prog 99 #[.agg #[.int .i64 k,.int .i64 q,.slice va vn vc],u,.int .i64 n] w (Ret2 (fun x y _=>x=.string s0∧y=.nilIface) w):=by
 obtain ⟨w0,hw0⟩:∃ W,w.alloc (.cells #[.int .i64 k,.int .i64 q,.slice va vn vc] 124)=W:=⟨_,rfl⟩
 have b0:Below w.heap.size w w0:=by rw [← hw0]; exact belowAlloc _ _
 have q0:Box3 w0 w.heap.size (.int .i64 k) (.int .i64 q) (.slice va vn vc):=by rw [← hw0]; simp [Box3,go_sem]
 have hcw':=count_Words_any r 2 1 va vn vc (ecaT 232) u w01 w0 (hg.below b0) (h.below b0) (hu.below b0) (eca_ok 232) (by rw [eca_len]; decide)
 have hcw:Calls Tryz.prog 101 #[.agg #[.int .i64 k,.int .i64 q,.slice va vn vc],u] w0 (Ret2 (fun x y w'=>ErrIs r w' (symP ((2:Nat):Int) w01 256) y∧(symP ((2:Nat):Int) w01 256=none→NumAt w' x (preN 2 1 (ecaT 232) w01))∧(symP ((2:Nat):Int) w01 256≠none→x=.slice none 0 0)) w0):=by rw [hk,hq]; exact hcw'
 clear hcw'
 replace hk:=Hd hk
 replace hq:=Hd hq
 obtain ⟨ua,un,uc,rfl⟩:=hu.shape
 obtain ⟨⟨z0,z1,z2⟩,-,-,-⟩:=q0
 replace hcw:=Hd hcw
 replace hw0:=Hd hw0
 replace b0:=Hd b0
 clear hg h hu
 go_enter Tryz.func99,Tryz.ntmps99
 go_upto_region 1 with fail
 rw [hw0.out]
 go_wp2_with fail
 refine hcw.out.mono ?_
 rintro e w1 ⟨x,y,rfl,b1,he,hx,-⟩
 unfold w01 at he hx
 rw [sym232] at he
 have hx:=hx sym232
 rw [pre232] at hx
 obtain rfl:=he.none_eq
 obtain ⟨l,hL,hl1,hl2,hl3⟩:=hx
 obtain ⟨xa,xn,xc,rfl⟩:=hL.shape
 have ht:=nat_text _ l w1 hL hl1 (by
  have hl0:l=[]:=by
   refine norm_unique hl1 (by intro y hy; cases hy) hl2 (fun h=>absurd rfl h) ?_
   rw [hl3]; rfl
  rw [hl0]; decide)
 rw [hl3,decZero] at ht
 have hn:=shnum_any (.slice xa xn xc) s0 w1 (ht.mono (by
  rintro e w2 ⟨x,rfl,b,rfl⟩
  exact ⟨rfl,b⟩))
 replace hn:=Hd hn
 clear ht hL hl1 hl2 hl3 he z0 z1 z2
 go_wp2_with fail
 refine hn.out.mono ?_
 rintro e w2 ⟨rfl,b2⟩
 go_wp2
 exact bodyPost_ret (v:=.tuple #[.string s0,.nilIface]) (by simp [results,Tryz.results99]) rfl ⟨_,_,rfl,Below.step (Below.step b0.out b1) b2,rfl,rfl⟩
theorem cnt1_run (r:Nat→Addr) (k q:Int) (hk:k=2) (hq:q=1) (wb rb d:Nat) (va:Option Addr) (vn vc:Nat) (u:Value) (n:Int) (w:World) (hg:Glob r w) (hd:w.cell? ⟨d,0,none⟩=some (.func (.func 99) #[] #[]))
 (hw:w.cell? ⟨wb,0,none⟩=some (.pointer (some ⟨rb,0,none⟩))) (hr:Box3 w rb (.int .i64 k) (.int .i64 q) (.slice va vn vc)) (h:IntsAt w (.slice va vn vc) (ecaT 232)) (hu:IntsAt w u w01) :
 Calls Tryz.prog 98 #[.pointer (some ⟨wb,0,none⟩),u,.int .i64 n,.pointer (some ⟨d,0,none⟩)] w (Ret2 (fun x y _=>x=.string s0∧y=.nilIface) w):=by
 obtain ⟨ua,un,uc,rfl⟩:=hu.shape
 replace hk:=Hd hk
 replace hq:=Hd hq
 replace hg:=Hd hg
 replace h:=Hd h
 replace hu:=Hd hu
 replace hr:=Hd hr
 replace hw:=Hd hw
 replace hd:=Hd hd
 go_enter Tryz.func98,Tryz.ntmps98
 go_upto_region 1 with fail
 refine wp_region_plan (fun w'=>w'.cell? ⟨d,0,none⟩=some (.func (.func 99) #[] #[])∧w'.cell? ⟨wb,0,none⟩=some (.pointer (some ⟨rb,0,none⟩))∧w'.cell? ⟨rb,0,none⟩=some (.int .i64 k)∧w'.cell? ⟨rb,1,none⟩=some (.int .i64 q)∧w'.cell? ⟨rb,2,none⟩=some (.slice va vn vc)) 13 [(0,true),(1,true),(2,true),(3,true),(4,true),(5,true),(6,true),(7,true),(8,true),(9,false),(10,true),(11,true),(12,true)] (by kernel_rfl) (by kernel_rfl) ?_
 obtain ⟨W,hW⟩:∃ W:World,w.drew=W:=⟨_,rfl⟩
 have bW:Below w.heap.size w W:=by rw [← hW]; exact (Below.refl _ _).drew
 have hrW:=hr.out.below bW
 have hS:W.cell? ⟨d,0,none⟩=some (.func (.func 99) #[] #[])∧W.cell? ⟨wb,0,none⟩=some (.pointer (some ⟨rb,0,none⟩))∧W.cell? ⟨rb,0,none⟩=some (.int .i64 k)∧W.cell? ⟨rb,1,none⟩=some (.int .i64 q)∧W.cell? ⟨rb,2,none⟩=some (.slice va vn vc):=by rw [← hW]; exact ⟨hd.out,hw.out,hr.out.1.1,hr.out.1.2.1,hr.out.1.2.2⟩
 have hcall:=cnt2_run r k q hk.out hq.out va vn vc (.slice ua un uc) n W (hg.out.below bW) (h.out.below bW) (hu.out.below bW)
 rw [hW]
 clear hW hg h hu hr hw hd hrW
 refine pqY 9 hS ?_
 refine pqY 10 hS ?_
 refine pqY 11 hS ?_
 refine pqY 12 hS ?_
 refine pqY 13 hS ?_
 refine pqY 14 hS ?_
 refine pqY 15 hS ?_
 refine pqY 16 hS ?_
 refine pqY 17 hS ?_
 refine headC rfl (fun KK hK=>?_)
 go_simp
 refine hcall.mono ?_
 rintro e W2 ⟨x,y,rfl,b2,rfl,rfl⟩
 have cut:=fun (p:Addr) v (h:W.cell? p=some v)=>(b2.cell (World.block_lt_of_cell? _ _ h)).trans h
 have hS2:=And.intro (cut _ _ hS.1) (And.intro (cut _ _ hS.2.1) (And.intro (cut _ _ hS.2.2.1) (And.intro (cut _ _ hS.2.2.2.1) (cut _ _ hS.2.2.2.2))))
 have bf:=Below.step bW b2
 refine hK _ _ hS2 ?_
 clear hK KK hcall cut hS
 refine pqY 19 hS2 ?_
 refine pqY 20 hS2 ?_
 refine pqY 7 hS2 ?_
 refine head0 ?_
 simp only [List.drop_succ_cons,List.drop_zero]
 clear hS2
 go_wp2
 refine NoPanic.normal ?_
 go_wp2
 exact bodyPost_ret (v:=.tuple #[.string s0,.nilIface]) (by simp [results,Tryz.results98]) rfl ⟨_,_,rfl,bf,rfl,rfl⟩
theorem cnt_run (r:Nat→Addr) (k q:Int) (hk:k=2) (hq:q=1) (wb rb c d:Nat) (va:Option Addr) (vn vc:Nat) (n:Int) (bv:Value) (w:World) (hg:Glob r w)
 (hc:w.cell? ⟨c,0,none⟩=some (.func (.func 98) #[] #[.pointer (some ⟨d,0,none⟩)])) (hd:w.cell? ⟨d,0,none⟩=some (.func (.func 99) #[] #[]))
 (hw:w.cell? ⟨wb,0,none⟩=some (.pointer (some ⟨rb,0,none⟩))) (hr:Box3 w rb (.int .i64 k) (.int .i64 q) (.slice va vn vc)) (h:IntsAt w (.slice va vn vc) (ecaT 232)) :
 Calls Tryz.prog 188 #[.pointer (some ⟨wb,0,none⟩),.agg #[.string ⟨#[48,49,48,48,49]⟩,.int .i64 n,bv],.pointer (some ⟨c,0,none⟩)] w (Ret2 (fun x y _=>x=.string s0∧y=.nilIface) w):=by
 obtain ⟨w0,hw0⟩:∃ W,w.alloc (.cells #[.string ⟨#[48,49,48,48,49]⟩,.int .i64 n,bv] 41)=W:=⟨_,rfl⟩
 have b0:Below w.heap.size w w0:=by rw [← hw0]; exact belowAlloc _ _
 have q0:Box3 w0 w.heap.size (.string ⟨#[48,49,48,48,49]⟩) (.int .i64 n) bv:=by rw [← hw0]; simp [Box3,go_sem]
 replace hk:=Hd hk
 replace hq:=Hd hq
 have cut0:=fun (p:Addr) v (h:w.cell? p=some v)=>(b0.cell (World.block_lt_of_cell? _ _ h)).trans h
 replace hg:=hg.below b0
 replace h:=h.below b0
 replace hr:=hr.below b0
 replace hc:=cut0 _ _ hc
 replace hd:=cut0 _ _ hd
 replace hw:=cut0 _ _ hw
 replace hg:=Hd hg
 replace h:=Hd h
 replace hr:=Hd hr
 replace hw:=Hd hw
 replace hd:=Hd hd
 replace hc:=Hd hc
 replace hw0:=Hd hw0
 replace b0:=Hd b0
 have q0':=Hd q0
 obtain ⟨⟨y0,y1,y2⟩,-,-,-⟩:=q0
 clear cut0
 go_enter Tryz.func188,Tryz.ntmps188
 go_upto_region 1 with fail
 rw [hw0.out]
 go_upto_region 4 with fail
 refine wp_region_plan (fun w'=>w'.cell? ⟨wb,0,none⟩=some (.pointer (some ⟨rb,0,none⟩))∧w'.cell? ⟨rb,0,none⟩=some (.int .i64 k)∧w'.cell? ⟨w.heap.size,0,none⟩=some (.string ⟨#[48,49,48,48,49]⟩)) 14 [(0,true),(1,true),(2,true),(3,true),(4,true),(5,true),(6,true),(7,true),(8,true),(9,false),(10,true),(11,true),(12,true),(13,true)] (by kernel_rfl) (by kernel_rfl) ?_
 obtain ⟨W,hW⟩:∃ W:World,w0.drew=W:=⟨_,rfl⟩
 have bW:Below w0.heap.size w0 W:=by rw [← hW]; exact (Below.refl _ _).drew
 have hS:W.cell? ⟨wb,0,none⟩=some (.pointer (some ⟨rb,0,none⟩))∧W.cell? ⟨rb,0,none⟩=some (.int .i64 k)∧W.cell? ⟨w.heap.size,0,none⟩=some (.string ⟨#[48,49,48,48,49]⟩):=by rw [← hW]; exact ⟨hw.out,hr.out.1.1,y0⟩
 rw [hW]
 clear hW y0 y1 y2
 have hcall:=word_parseK k hk.out W
 refine pqY 13 hS ?_
 refine pqY 14 hS ?_
 refine pqY 15 hS ?_
 refine pqY 16 hS ?_
 refine pqY 17 hS ?_
 refine pqY 18 hS ?_
 refine pqY 19 hS ?_
 refine pqY 20 hS ?_
 refine pqY 21 hS ?_
 refine headC rfl (fun KK hK=>?_)
 go_simp
 refine hcall.mono ?_
 rintro e W2 ⟨x,y,rfl,b2,rfl,hu⟩
 obtain ⟨ua,un,uc,rfl⟩:=hu.at.shape
 have cut:=fun (p:Addr) v (h:W.cell? p=some v)=>(b2.cell (World.block_lt_of_cell? _ _ h)).trans h
 have hS2:=And.intro (cut _ _ hS.1) (And.intro (cut _ _ hS.2.1) (cut _ _ hS.2.2))
 have bf:=Below.step bW b2
 refine hK _ _ hS2 ?_
 clear hK KK hcall cut hS
 refine pqY 12 hS2 ?_
 refine pqY 23 hS2 ?_
 refine pqY 24 hS2 ?_
 refine pqY 7 hS2 ?_
 refine head0 ?_
 simp only [List.drop_succ_cons,List.drop_zero]
 clear hS2
 have cut:=fun (p:Addr) v (h:w0.cell? p=some v)=>(bf.cell (World.block_lt_of_cell? _ _ h)).trans h
 have hc2:=cut _ _ hc.out
 have q2:=q0'.out.below bf
 have hrun:=cnt1_run r k q hk.out hq.out wb rb d va vn vc (.slice ua un uc) n W2 (hg.out.below bf) (cut _ _ hd.out) (cut _ _ hw.out) (hr.out.below bf) (h.out.below bf) hu.at
 have bb:=Below.step b0.out bf
 obtain ⟨⟨x0,x1,x2⟩,-,-,-⟩:=q2
 replace hrun:=Hd hrun
 clear cut hc hg h hr hw hd hu bf b2 bW q0' hw0
 go_wp2
 refine NoPanic.normal ?_
 go_wp2_with fail
 refine hrun.out.mono ?_
 rintro e W3 ⟨x,y,rfl,b3,rfl,rfl⟩
 go_wp2
 exact bodyPost_ret (v:=.tuple #[.string s0,.nilIface]) (by simp [results,Tryz.results188]) rfl ⟨_,_,rfl,Below.step bb b3,rfl,rfl⟩
theorem dig_set (xs:List Int) (i:Nat) (h:i<xs.length):(byteV (xs.take i)++List.replicate (xs.length-i) (Value.int .u8 0)).set i (.int .u8 (48+xs.getD i 0))=byteV (xs.take (i+1))++List.replicate (xs.length-(i+1)) (.int .u8 0):=by
 have htk:xs.take (i+1)=xs.take i++[xs.getD i 0]:=by rw [List.take_add_one]; simp [List.getD,h]
 have hl:(byteV (xs.take i)).length=i:=by simp [byteV,dig8]; omega
 obtain ⟨k,hk⟩:∃ k,xs.length-i=k+1:=⟨xs.length-i-1,by omega⟩
 rw [htk,byteV_snoc,hk,show xs.length-(i+1)=k by omega,List.set_append_right _ _ (by omega),hl,Nat.sub_self,List.replicate_succ,List.set_cons_zero,List.append_assoc]
 rfl
theorem digits_any (K:Nat) (v:Value) (xs:List Int) (w:World) (h:IntsAt w v xs) (h4:K≤4) (hs:Syms K xs) (hn:1≤xs.length) (hl:xs.length≤4097) :
 Calls Tryz.prog 67 #[v] w (Ret1 (fun x _=>x=.string (txtW xs)) w):=by
 have l1:=h.len
 obtain ⟨va,vn,vc,rfl⟩:=h.shape
 have hz:((xs.length:Int)==0)=false:=by rw [beq_eq_false_iff_ne]; omega
 replace h:=Hd h
 replace hs:=Hd hs
 go_enter Tryz.func67,Tryz.ntmps67
 go_wp2_with (at_make; refine wpl_makeV oneBytes rfl _ _ rfl (xs.length:Int) rfl rfl (by omega) (by omega) ?_)
 intro bv w2 ho2 g2
 have b2:Below w.heap.size w w2:=(Below.refl _ _).grown g2 (Nat.le_refl _) (by intro k hk; cases hk)
 obtain ⟨ba,bn,bc,rfl⟩:=ho2.shape
 replace ho2:OwnV 5 w.heap.size w2 (.slice ba bn bc) (byteV (xs.take 0)++List.replicate (xs.length-0) (.int .u8 0)):=by
  have e:byteV (xs.take 0)++List.replicate (xs.length-0) (Value.int .u8 0)=List.replicate xs.length (.int .u8 0):=by rw [List.take_zero,Nat.sub_zero]; rfl
  rw [e]; simpa using ho2
 replace ho2:=Hd ho2
 clear g2
 go_wp2_with fail
 go_loopw [14] (fun iv wr=>∃ i:Nat,iv=.int .i64 i∧i≤xs.length∧OwnV 5 w.heap.size wr (.slice ba bn bc) (byteV (xs.take i)++List.replicate (xs.length-i) (.int .u8 0))∧Below w.heap.size w wr) (fun iv _=>xs.length-(intOf iv).toNat)
 case atStart=>exact ⟨0,rfl,Nat.zero_le _,ho2.out,b2⟩
 case round =>
  clear ho2 b2
  obtain ⟨i,rfl,hi,hO,hB⟩:=hrel
  obtain ⟨wo,rfl⟩:∃ wo:World,wo=wr:=⟨_,rfl⟩
  by_cases hil:i<xs.length
  ·have di:decide ((i:Int)<(xs.length:Int))=true:=decide_eq_true (by omega)
   have hxo:=h.out.below hB
   have iX:=fun w'=>hxo.idx i hil w'
   have cX:=hxo.cellD i hil
   have hsy:=getD_syms hs.out hil
   have hst:=dig_set xs i hil
   have hk:i<(byteV (xs.take i)++List.replicate (xs.length-i) (Value.int .u8 0)).length:=by simp [byteV,dig8]; omega
   have iS:=fun w'=>hO.at.idx oneBytes i hk w'
   obtain ⟨cS,eS⟩:∃ y,wo.cell? (valAt (.slice ba bn bc) i)=some y:=⟨_,hO.at.cell _ hk⟩
   have fS:=hO.frz _ hk
   obtain ⟨x,hx⟩:∃ x,xs.getD i 0=x:=⟨_,rfl⟩
   rw [hx] at cX hsy hst
   have hO2:=hO.set _ hk (.int .u8 (48+x))
   rw [hst] at hO2
   have hB3:=hB.setCell (hO.blkB _ hk).2 (.int .u8 (48+x))
   obtain ⟨xa,hxa⟩:∃ xa,valAt (.slice va vn vc) i=xa:=⟨_,rfl⟩
   rw [hxa] at iX cX
   obtain ⟨aS,haS⟩:∃ aS,valAt (.slice ba bn bc) i=aS:=⟨_,rfl⟩
   rw [haS] at iS eS fS hO2 hB3
   replace hx:=Hd hx
   replace hxa:=Hd hxa
   replace haS:=Hd haS
   replace hO2:=Hd hO2
   replace hB3:=Hd hB3
   clear hO hB hst hxo
   go_wp2_with fail
   go_roundw
   case measure=>simp [intOf]; omega
   case rel=>exact ⟨i+1,by go_num,by omega,hO2.out,hB3.out⟩
  ·obtain rfl:i=xs.length:=by omega
   have di:decide ((xs.length:Int)<(xs.length:Int))=false:=decide_eq_false (by omega)
   rw [Nat.sub_self,List.replicate_zero,List.append_nil,List.take_length] at hO
   have hcv:=conv_bytes _ wo _ xs hO hn
   clear hO
   go_wp2
   go_ret
   exact ⟨_,rfl,hB,rfl⟩
end Go.Proofs.YtindfaehjoileaaGreatDoor
namespace Go.Proofs.YtindfaehjoileaaGreatDoor
open Go.RowKit
set_option maxRecDepth 100000
end Go.Proofs.YtindfaehjoileaaGreatDoor
namespace Go.Proofs.YtindfaehjoileaaGreatDoor
open Go.RowKit Go.Shelf
set_option maxRecDepth 100000
def Tryz.laysItoa_ren:Go.Shelf.Ren:=⟨fun | 171=>43 | 243=>138 | 246=>246 | 283=>320 | 284=>321 | 285=>322 | 286=>323 | 129=>356 | 317=>355 | 318=>357 | 319=>358 | 320=>359 | 337=>384 | 338=>385 | n=>n,fun | 3=>3 | 9=>9 | 2=>2 | 4=>4 | 171=>378 | 0=>0 | 53=>97 | 37=>34 | 5=>5 | 173=>381 | 212=>421 | 51=>203 | 20=>20 | 213=>422 | 46=>101 | 232=>453 | 233=>454 | n=>n,fun | 17=>19 | 18=>20 | 19=>21 | n=>n⟩
theorem Tryz.laysItoa:Go.Proofs.LaysM.n171 Tryz.prog Tryz.laysItoa_ren:={
 mixed:=by kernel_rfl
 f129:=Tryz.func356.trans (congrArg some (by kernel_rfl))
 f171:=Tryz.func43.trans (congrArg some (by kernel_rfl))
 f243:=Tryz.func138.trans (congrArg some (by kernel_rfl))
 f246:=Tryz.func246.trans (congrArg some (by kernel_rfl))
 f283:=Tryz.func320.trans (congrArg some (by kernel_rfl))
 f284:=Tryz.func321.trans (congrArg some (by kernel_rfl))
 f285:=Tryz.func322.trans (congrArg some (by kernel_rfl))
 f286:=Tryz.func323.trans (congrArg some (by kernel_rfl))
 f317:=Tryz.func355.trans (congrArg some (by kernel_rfl))
 f318:=Tryz.func357.trans (congrArg some (by kernel_rfl))
 f319:=Tryz.func358.trans (congrArg some (by kernel_rfl))
 f320:=Tryz.func359.trans (congrArg some (by kernel_rfl))
 f337:=Tryz.func384.trans (congrArg some (by kernel_rfl))
 f338:=Tryz.func385.trans (congrArg some (by kernel_rfl))
 t0:=Tryz.underlying0
 a0:=Tryz.isAgg0
 z0:=Tryz.sizeOf0
 v0:=Tryz.zeroValue0
 t2:=Tryz.underlying2
 a2:=Tryz.isAgg2
 z2:=Tryz.sizeOf2
 v2:=Tryz.zeroValue2
 t3:=Tryz.underlying3
 a3:=Tryz.isAgg3
 z3:=Tryz.sizeOf3
 v3:=Tryz.zeroValue3
 t4:=Tryz.underlying4
 a4:=Tryz.isAgg4
 z4:=Tryz.sizeOf4
 v4:=Tryz.zeroValue4
 t5:=Tryz.underlying5
 a5:=Tryz.isAgg5
 z5:=Tryz.sizeOf5
 v5:=Tryz.zeroValue5
 t9:=Tryz.underlying9
 a9:=Tryz.isAgg9
 z9:=Tryz.sizeOf9
 v9:=Tryz.zeroValue9
 t20:=Tryz.underlying20
 a20:=Tryz.isAgg20
 z20:=Tryz.sizeOf20
 v20:=Tryz.zeroValue20
 t37:=Tryz.underlying34
 a37:=Tryz.isAgg34
 z37:=Tryz.sizeOf34
 v37:=Tryz.zeroValue34
 t46:=Tryz.underlying101
 a46:=Tryz.isAgg101
 z46:=Tryz.sizeOf101
 v46:=Tryz.zeroValue101
 t51:=Tryz.underlying203
 a51:=Tryz.isAgg203
 z51:=Tryz.sizeOf203
 v51:=Tryz.zeroValue203
 t53:=Tryz.underlying97
 a53:=Tryz.isAgg97
 z53:=Tryz.sizeOf97
 v53:=Tryz.zeroValue97
 t171:=Tryz.underlying378
 a171:=Tryz.isAgg378
 z171:=Tryz.sizeOf378
 v171:=Tryz.zeroValue378
 t173:=Tryz.underlying381
 a173:=Tryz.isAgg381
 z173:=Tryz.sizeOf381
 v173:=Tryz.zeroValue381
 t212:=Tryz.underlying421
 a212:=Tryz.isAgg421
 z212:=Tryz.sizeOf421
 v212:=Tryz.zeroValue421
 t213:=Tryz.underlying422
 a213:=Tryz.isAgg422
 z213:=Tryz.sizeOf422
 t232:=Tryz.underlying453
 a232:=Tryz.isAgg453
 z232:=Tryz.sizeOf453
 v232:=Tryz.zeroValue453
 t233:=Tryz.underlying454
 a233:=Tryz.isAgg454
 z233:=Tryz.sizeOf454
 v233:=Tryz.zeroValue454
 g17:=by kernel_rfl
 g18:=by kernel_rfl
 g19:=by kernel_rfl
 i0:=by kernel_rfl
 i2:=by kernel_rfl
 i3:=by kernel_rfl
 i4:=by kernel_rfl
 i5:=by kernel_rfl
 i9:=by kernel_rfl
 i20:=by kernel_rfl
 i37:=by kernel_rfl
 i46:=by kernel_rfl
 i51:=by kernel_rfl
 i53:=by kernel_rfl
 i171:=by kernel_rfl
 i173:=by kernel_rfl
 i212:=by kernel_rfl
 i232:=by kernel_rfl
 i233:=by kernel_rfl
 m17:=by kernel_rfl
 m18:=by kernel_rfl
 m19:=by kernel_rfl }
def Tryz.laysJoin_ren:Go.Shelf.Ren:=⟨fun | 156=>113 | 165=>212 | 166=>17 | 169=>18 | 240=>33 | 241=>302 | 276=>50 | 277=>347 | n=>n,fun | 31=>29 | 9=>9 | 3=>3 | 4=>4 | 0=>0 | 20=>20 | 72=>59 | 76=>60 | 70=>57 | 37=>34 | 75=>25 | 127=>89 | 164=>78 | 5=>5 | 80=>62 | n=>n,fun | n=>n⟩
theorem Tryz.laysJoin:Go.Proofs.Lays.n156 Tryz.prog Tryz.laysJoin_ren:={
 mixed:=by kernel_rfl
 f156:=Tryz.func113.trans (congrArg some (by kernel_rfl))
 f165:=Tryz.func212.trans (congrArg some (by kernel_rfl))
 f166:=Tryz.func17.trans (congrArg some (by kernel_rfl))
 f169:=Tryz.func18.trans (congrArg some (by kernel_rfl))
 f240:=Tryz.func33.trans (congrArg some (by kernel_rfl))
 f241:=Tryz.func302.trans (congrArg some (by kernel_rfl))
 f276:=Tryz.func50.trans (congrArg some (by kernel_rfl))
 f277:=Tryz.func347.trans (congrArg some (by kernel_rfl))
 t0:=Tryz.underlying0
 a0:=Tryz.isAgg0
 z0:=Tryz.sizeOf0
 v0:=Tryz.zeroValue0
 t3:=Tryz.underlying3
 a3:=Tryz.isAgg3
 z3:=Tryz.sizeOf3
 v3:=Tryz.zeroValue3
 t4:=Tryz.underlying4
 a4:=Tryz.isAgg4
 z4:=Tryz.sizeOf4
 v4:=Tryz.zeroValue4
 t9:=Tryz.underlying9
 a9:=Tryz.isAgg9
 z9:=Tryz.sizeOf9
 v9:=Tryz.zeroValue9
 t20:=Tryz.underlying20
 a20:=Tryz.isAgg20
 z20:=Tryz.sizeOf20
 v20:=Tryz.zeroValue20
 t31:=Tryz.underlying29
 a31:=Tryz.isAgg29
 z31:=Tryz.sizeOf29
 v31:=Tryz.zeroValue29
 t37:=Tryz.underlying34
 a37:=Tryz.isAgg34
 z37:=Tryz.sizeOf34
 v37:=Tryz.zeroValue34
 t70:=Tryz.underlying57
 a70:=Tryz.isAgg57
 z70:=Tryz.sizeOf57
 v70:=Tryz.zeroValue57
 t72:=Tryz.underlying59
 a72:=Tryz.isAgg59
 z72:=Tryz.sizeOf59
 v72:=Tryz.zeroValue59
 t75:=Tryz.underlying25
 a75:=Tryz.isAgg25
 z75:=Tryz.sizeOf25
 v75:=Tryz.zeroValue25
 t76:=Tryz.underlying60
 a76:=Tryz.isAgg60
 z76:=Tryz.sizeOf60
 v76:=Tryz.zeroValue60
 t127:=Tryz.underlying89
 a127:=Tryz.isAgg89
 z127:=Tryz.sizeOf89
 v127:=Tryz.zeroValue89
 t164:=Tryz.underlying78
 a164:=Tryz.isAgg78
 z164:=Tryz.sizeOf78
 v164:=Tryz.zeroValue78 }
theorem builderX:Builder.Extra Tryz.prog Tryz.laysJoin_ren where
 sizeBuilder:=by kernel_rfl
 liesBuilder:=by kernel_rfl
 t5:=Tryz.underlying5
 a5:=Tryz.isAgg5
 z5:=Tryz.sizeOf5
 v5:=Tryz.zeroValue5
 infoByte:=by kernel_rfl
 cellsByte:=by kernel_rfl
 sizeByte:=by kernel_rfl
 neB5:=by decide
def Tabs (w : World) : Prop := Lib.TabIs Tryz.prog w "internal/strconv.uint64pow10" .u64 Lib.pow10Tab
theorem var_below {w w':World} {n:String} {cs:Array Value} (h:w.var? Tryz.prog n=some cs) (hb:Below w.heap.size w w'):w'.var? Tryz.prog n=some cs:=by
 unfold World.var? at h ⊢
 cases hg:Tryz.prog.globalNamed n with
 | none=>rw [hg] at h; cases h
 | some g =>
  rw [hg] at h
  simp only [Option.bind_some] at h ⊢
  have hlt:g<w.heap.size:=by
   rcases Nat.lt_or_ge g w.heap.size with h' | h'
   ·exact h'
   ·rw [Array.getElem?_eq_none h'] at h; cases h
  rw [hb.block g hlt]; exact h
theorem Tabs.below {w w':World} (h:Tabs w) (hb:Below w.heap.size w w'):Tabs w':=var_below h hb
theorem below_lib (w:World) (k:Nat) (os:Array Obj):Below w.heap.size w (Go.Sort.grow (w.drewN k) os) :=
 ⟨rfl,rfl,rfl,by simp [Go.Sort.grow,World.drewN],fun i hk=>by simp [Go.Sort.grow,World.drewN,Array.getElem?_append,hk]⟩
theorem itoa_any (n:Int) (h0:-9223372036854775808≤n) (h1:n≤9223372036854775807) (w:World) (ht:Tabs w) :
 Calls Tryz.prog 43 #[.int .i64 n] w (Ret1 (fun x _=>x=.string ⟨(Lib.itoa n).toArray⟩) w):=by
 refine (Any.strconv_Itoa Tryz.laysItoa n h0 h1 w ht).mono ?_
 rintro e w' ⟨rfl,k,os,rfl⟩
 exact ⟨_,rfl,below_lib _ _ _,rfl⟩
end Go.Proofs.YtindfaehjoileaaGreatDoor
namespace Go.Proofs.YtindfaehjoileaaGreatDoor
open Go.RowKit
set_option maxRecDepth 100000
def sOrph:ByteArray:=⟨#[110,111,32,48,49,48,48,49]⟩
def sNo5:ByteArray:=⟨#[110,111,32,53]⟩
theorem itoa5:(⟨(Lib.itoa 5).toArray⟩:ByteArray)=⟨#[53]⟩:=by decide +kernel
theorem no_orph:(⟨#[110,111,32]⟩:ByteArray)++txtW [0,1,0,0,1]=sOrph:=by decide +kernel
theorem no_five:(⟨#[110,111,32]⟩:ByteArray)++⟨#[53]⟩=sNo5:=by decide +kernel
theorem dec_onto (r:Nat→Addr) (k q:Int) (hk:k=2) (hq:q=1) (va:Option Addr) (vn vc:Nat) (w:World) (hg:Glob r w) (hG:GlobE w) (h:IntsAt w (.slice va vn vc) (ecaT 232)) :
 Calls Tryz.prog 64 #[.agg #[.int .i64 k,.int .i64 q,.slice va vn vc]] w (Ret2 (fun x y _=>x=.string sOrph∧y=.nilIface) w):=by
 obtain ⟨w0,hw0⟩:∃ W,w.alloc (.cells #[.int .i64 k,.int .i64 q,.slice va vn vc] 124)=W:=⟨_,rfl⟩
 have b0:Below w.heap.size w w0:=by rw [← hw0]; exact belowAlloc _ _
 have q0:Box3 w0 w.heap.size (.int .i64 k) (.int .i64 q) (.slice va vn vc):=by rw [← hw0]; simp [Box3,go_sem]
 obtain ⟨⟨z0,z1,z2⟩,-,-,-⟩:=q0
 replace hw0:=Hd hw0
 have hc':=sub_onto r 2 1 va vn vc (ecaT 232) w0 (hg.below b0) (by have:=hG; exact this.below b0) (h.below b0) (eca_ok 232) (by rw [eca_len]; decide)
 have hc:Calls Tryz.prog 65 #[.agg #[.int .i64 k,.int .i64 q,.slice va vn vc]] w0 (Ret3 (fun x y z w'=>OntoPost r w0.heap.size (subR 2 (pw 2 (2*1)) (ecaT 232)) x y z w') w0):=by rw [hk,hq]; exact hc'
 clear hc'
 replace hk:=Hd hk
 replace hq:=Hd hq
 rw [orphan232] at hc
 replace hc:=Hd hc
 clear hg hG h
 replace b0:=Hd b0
 go_enter Tryz.func64,Tryz.ntmps64
 go_upto_region 1 with fail
 rw [hw0.out]
 go_wp2_with fail
 refine hc.out.mono ?_
 rintro e w1 ⟨x,y,z,rfl,b1,rfl,rfl,ho⟩
 obtain ⟨ya,yn,yc,rfl⟩:=ho.at.shape
 have hd:=digits_any 2 _ _ w1 ho.at (by decide) (by intro x hx; simp at hx; omega) (by decide) (by decide)
 replace hd:=Hd hd
 clear ho
 go_wp2_with fail
 refine hd.out.mono ?_
 rintro e w2 ⟨x,rfl,b2,rfl⟩
 go_wp2_with fail
 refine (unless_no _ (by decide +kernel) _).mono ?_
 rintro e _ ⟨rfl,rfl⟩
 rw [no_orph]
 go_wp2
 exact bodyPost_ret (v:=.tuple #[.string sOrph,.nilIface]) (by simp [results,Tryz.results64]) rfl ⟨_,_,rfl,Below.step (Below.step b0.out b1) b2,rfl,rfl⟩
theorem dec_one (r:Nat→Addr) (k q:Int) (hk:k=2) (hq:q=1) (va:Option Addr) (vn vc:Nat) (w:World) (hg:Glob r w) (h:IntsAt w (.slice va vn vc) (ecaT 232)) :
 Calls Tryz.prog 68 #[.agg #[.int .i64 k,.int .i64 q,.slice va vn vc]] w (Ret2 (fun x y _=>x=.string sNo∧y=.nilIface) w):=by
 obtain ⟨w0,hw0⟩:∃ W,w.alloc (.cells #[.int .i64 k,.int .i64 q,.slice va vn vc] 124)=W:=⟨_,rfl⟩
 have b0:Below w.heap.size w w0:=by rw [← hw0]; exact belowAlloc _ _
 have q0:Box3 w0 w.heap.size (.int .i64 k) (.int .i64 q) (.slice va vn vc):=by rw [← hw0]; simp [Box3,go_sem]
 obtain ⟨⟨z0,z1,z2⟩,-,-,-⟩:=q0
 replace hw0:=Hd hw0
 have hc':=one_ok r 2 1 va vn vc (ecaT 232) w0 (hg.below b0) (h.below b0) (eca_ok 232) (by rw [eca_len]; decide)
 have hc:Calls Tryz.prog 69 #[.agg #[.int .i64 k,.int .i64 q,.slice va vn vc]] w0 (Ret4 (OnePost w0 2 1 (ecaT 232)) w0):=by rw [hk,hq]; exact hc'
 clear hc'
 replace hk:=Hd hk
 replace hq:=Hd hq
 replace hc:=Hd hc
 clear hg h
 replace b0:=Hd b0
 go_enter Tryz.func68,Tryz.ntmps68
 go_upto_region 1 with fail
 rw [hw0.out]
 go_wp2_with fail
 refine hc.out.mono ?_
 rintro e w1 ⟨x,y,z,u,rfl,b1,hp⟩
 obtain ⟨rfl,Y,rfl,hY,a1,n1,c1,a2,n2,c2,a3,n3,c3,a4,n4,c4,a5,n5,c5,a6,n6,c6,rfl,rfl⟩:=hp.ans
 obtain rfl:Y=false:=by
  cases Y with
  | false=>rfl
  | true=>exact absurd notOne232 (hY.1 rfl)
 clear hp hY
 go_wp2_with fail
 refine (shyes_any _ _).mono ?_
 rintro e _ ⟨rfl,rfl⟩
 go_wp2
 exact bodyPost_ret (v:=.tuple #[.string sNo,.nilIface]) (by simp [results,Tryz.results68]) rfl ⟨_,_,rfl,Below.step (Below.step b0.out b1) (Below.step (belowAlloc _ _) (belowAlloc _ _)),rfl,rfl⟩
theorem dec_twins (r:Nat→Addr) (k q:Int) (hk:k=2) (hq:q=1) (va:Option Addr) (vn vc:Nat) (w:World) (hg:Glob r w) (hT:Tabs w) (h:IntsAt w (.slice va vn vc) (ecaT 232)) :
 Calls Tryz.prog 71 #[.agg #[.int .i64 k,.int .i64 q,.slice va vn vc]] w (Ret2 (fun x y _=>x=.string sNo5∧y=.nilIface) w):=by
 obtain ⟨w0,hw0⟩:∃ W,w.alloc (.cells #[.int .i64 k,.int .i64 q,.slice va vn vc] 124)=W:=⟨_,rfl⟩
 have b0:Below w.heap.size w w0:=by rw [← hw0]; exact belowAlloc _ _
 have q0:Box3 w0 w.heap.size (.int .i64 k) (.int .i64 q) (.slice va vn vc):=by rw [← hw0]; simp [Box3,go_sem]
 obtain ⟨⟨z0,z1,z2⟩,-,-,-⟩:=q0
 replace hw0:=Hd hw0
 have hc':=finite_ok r 2 1 va vn vc (ecaT 232) w0 (hg.below b0) (h.below b0) (eca_ok 232) (by rw [eca_len]; decide)
 have hc:Calls Tryz.prog 72 #[.agg #[.int .i64 k,.int .i64 q,.slice va vn vc]] w0 (Ret4 (FinPost w0 2 1 (ecaT 232)) w0):=by rw [hk,hq]; exact hc'
 clear hc'
 replace hk:=Hd hk
 replace hq:=Hd hq
 replace hc:=Hd hc
 replace hT:=Hd hT
 clear hg h
 replace b0:=Hd b0
 go_enter Tryz.func71,Tryz.ntmps71
 go_upto_region 1 with fail
 rw [hw0.out]
 go_wp2_with fail
 refine hc.out.mono ?_
 rintro e w1 ⟨x,y,z,u,rfl,b1,hp⟩
 obtain ⟨rfl,rfl,⟨xs,hx,hx5⟩,i1,i2,i3,rfl⟩:=fin232 hp
 have l1:=hx.len
 rw [hx5] at l1
 obtain ⟨ya,yn,yc,rfl⟩:=hx.shape
 replace hx:=Hd hx
 replace hp:=Hd hp
 have hI:=itoa_any 5 (by decide) (by decide) w1 (hT.out.below (Below.step b0.out b1))
 replace hI:=Hd hI
 go_wp2_with fail
 refine hI.out.mono ?_
 rintro e w2 ⟨x,rfl,b2,rfl⟩
 rw [itoa5]
 go_wp2_with fail
 refine (unless_no _ (by decide +kernel) _).mono ?_
 rintro e _ ⟨rfl,rfl⟩
 rw [no_five]
 go_wp2
 exact bodyPost_ret (v:=.tuple #[.string sNo5,.nilIface]) (by simp [results,Tryz.results71]) rfl ⟨_,_,rfl,Below.step (Below.step b0.out b1) b2,rfl,rfl⟩
set_option maxHeartbeats 8000000
theorem askrun_any (g:Nat) (hg:g=63∨g=64∨g=68∨g=71) (c wb rb:Nat) (K R n:Int) (tv bv:Value) (t s:ByteArray) (w:World)
 (hc:w.cell? ⟨c,0,none⟩=some (.func (.func g) #[] #[])) (hw:w.cell? ⟨wb,0,none⟩=some (.pointer (some ⟨rb,0,none⟩))) (hr:Box3 w rb (.int .i64 K) (.int .i64 R) tv)
 (hdo:∀ W,Below w.heap.size w W→Calls Tryz.prog g #[.agg #[.int .i64 K,.int .i64 R,tv]] W (Ret2 (fun x y _=>x=.string s∧y=.nilIface) W)) :
 Calls Tryz.prog 62 #[.pointer (some ⟨wb,0,none⟩),.agg #[.string t,.int .i64 n,bv],.pointer (some ⟨c,0,none⟩)] w (Ret2 (fun x y _=>x=.string s∧y=.nilIface) w):=by
 replace hdo:=Hd hdo
 obtain ⟨w0,hw0⟩:∃ W,w.alloc (.cells #[.string t,.int .i64 n,bv] 41)=W:=⟨_,rfl⟩
 have b0:Below w.heap.size w w0:=by rw [← hw0]; exact belowAlloc _ _
 have hc0:=(b0.cell (World.block_lt_of_cell? _ _ hc)).trans hc
 have hw1:=(b0.cell (World.block_lt_of_cell? _ _ hw)).trans hw
 have hr0:=hr.below b0
 replace hw0:=Hd hw0
 replace hr0:=Hd hr0
 clear hc hw hr
 go_enter Tryz.func62,Tryz.ntmps62
 go_upto_region 1 with fail
 rw [hw0.out]
 refine wp_region_plan (fun w'=>w'.cell? ⟨c,0,none⟩=some (.func (.func g) #[] #[])∧w'.cell? ⟨wb,0,none⟩=some (.pointer (some ⟨rb,0,none⟩))∧w'.cell? ⟨rb,0,none⟩=some (.int .i64 K)∧w'.cell? ⟨rb,1,none⟩=some (.int .i64 R)∧w'.cell? ⟨rb,2,none⟩=some tv) 11 [(0,true),(1,true),(2,true),(3,true),(4,true),(5,true),(6,true),(7,false),(8,true),(9,true),(10,true)] (by kernel_rfl) (by kernel_rfl) ?_
 obtain ⟨W,hW⟩:∃ W:World,w0.drew=W:=⟨_,rfl⟩
 have bW:Below w.heap.size w W:=by rw [← hW]; exact b0.drew
 have hS:W.cell? ⟨c,0,none⟩=some (.func (.func g) #[] #[])∧W.cell? ⟨wb,0,none⟩=some (.pointer (some ⟨rb,0,none⟩))∧W.cell? ⟨rb,0,none⟩=some (.int .i64 K)∧W.cell? ⟨rb,1,none⟩=some (.int .i64 R)∧W.cell? ⟨rb,2,none⟩=some tv:=by rw [← hW]; exact ⟨hc0,hw1,hr0.out.1.1,hr0.out.1.2.1,hr0.out.1.2.2⟩
 rw [hW]
 clear hW hc0 hw1 hw0
 refine pqY 7 hS ?_
 refine pqY 8 hS ?_
 refine pqY 9 hS ?_
 refine pqY 10 hS ?_
 refine pqY 11 hS ?_
 refine pqY 12 hS ?_
 refine pqY 13 hS ?_
 refine headC rfl (fun KK hK=>?_)
 have hcall:=hdo.out W bW
 rcases hg with rfl | rfl | rfl | rfl
 all_goals
  go_simp
  refine hcall.mono ?_
  rintro e W2 ⟨x,y,rfl,b2,rfl,rfl⟩
  have cut:=fun (p:Addr) v (h:W.cell? p=some v)=>(b2.cell (World.block_lt_of_cell? _ _ h)).trans h
  have hS2:=And.intro (cut _ _ hS.1) (And.intro (cut _ _ hS.2.1) (And.intro (cut _ _ hS.2.2.1) (And.intro (cut _ _ hS.2.2.2.1) (cut _ _ hS.2.2.2.2))))
  have bf:=Below.step bW b2
  refine hK _ _ hS2 ?_
  clear hK KK hcall cut hS
  refine pqY 15 hS2 ?_
  refine pqY 16 hS2 ?_
  refine pqY 5 hS2 ?_
  refine head0 ?_
  simp only [List.drop_succ_cons,List.drop_zero]
  clear hS2
  go_wp2
  refine NoPanic.normal ?_
  go_wp2
  exact bodyPost_ret (v:=.tuple #[.string s,.nilIface]) (by simp [results,Tryz.results62]) rfl ⟨_,_,rfl,bf,rfl,rfl⟩
end Go.Proofs.YtindfaehjoileaaGreatDoor
namespace Go.Proofs.YtindfaehjoileaaGreatDoor
open Go.RowKit
set_option maxRecDepth 100000
def left1 (w:World) (k:Nat):Nat:=match w.heap[k]? with
 | some (.stringIter _ p)=>1-p
 | _=>0
theorem missing_none (v:Value) (w:World):Calls Tryz.prog 24 #[v,.string ⟨#[]⟩] w (Ret1 (fun x _=>x=.nilIface) w):=by
 go_enter Tryz.func24,Tryz.ntmps24
 go_wp2_with fail
 have hb:Below w.heap.size w (w.iter ⟨#[]⟩ 0):=belowAlloc w _
 go_loopw [] (fun wr=>wr=w.iter ⟨#[]⟩ 0) (fun _=>0)
 case atStart=>rfl
 case round =>
  subst hrel
  have hnx:=fun ty=>Lib.run_next_end_at (P:=Tryz.prog) (w.iter ⟨#[]⟩ 0) w.heap.size ⟨#[]⟩ 0 ty (World.iter_heap w _ _) (by decide)
  go_wp2
  go_ret
  exact ⟨_,rfl,hb,rfl⟩
theorem missing_r (g:Nat) (rp:Addr) (w:World) (hw:w.cell? ⟨g,0,none⟩=some (.pointer (some rp))):Calls Tryz.prog 24 #[.pointer (some ⟨g,0,none⟩),.string ⟨#[114]⟩] w (Ret1 (fun x _=>x=.nilIface) w):=by
 obtain ⟨w0,hw0⟩:∃ W,w.iter ⟨#[114]⟩ 0=W:=⟨_,rfl⟩
 have hit:w0.heap[w.heap.size]?=some (.stringIter ⟨#[114]⟩ 0):=by rw [← hw0]; exact World.iter_heap w _ _
 have hb:Below w.heap.size w w0:=by rw [← hw0]; exact belowAlloc w _
 obtain ⟨w1,hw1⟩:∃ W,w0.iterAt w.heap.size ⟨#[114]⟩ 1=W:=⟨_,rfl⟩
 have hit1:w1.heap[w.heap.size]?=some (.stringIter ⟨#[114]⟩ 1):=by rw [← hw1]; exact Lib.iterAt_heap _ _ _ _ _ hit
 have hb1:Below w.heap.size w w1:=by
  rw [← hw1]
  exact Lib.below_iterAt hb (Nat.le_refl _) _ _
 have hn0:=fun ty=>Lib.run_next_ascii_at (P:=Tryz.prog) w0 w.heap.size ⟨#[114]⟩ 0 ty hit (by decide) (by decide)
 have hn1:=fun ty=>Lib.run_next_end_at (P:=Tryz.prog) w1 w.heap.size ⟨#[114]⟩ 1 ty hit1 (by decide)
 rw [hw1] at hn0
 have c1:=(hb1.cell (World.block_lt_of_cell? _ _ hw)).trans hw
 have l0:left1 w0 w.heap.size=1:=by unfold left1; rw [hit]
 have l1:left1 w1 w.heap.size=0:=by unfold left1; rw [hit1]
 replace hw0:=Hd hw0
 clear hit hit1 hw1
 go_enter Tryz.func24,Tryz.ntmps24
 go_wp2_with fail
 rw [hw0.out]
 go_loopw [] (fun wr=>wr=w0∨wr=w1) (fun wr=>left1 wr w.heap.size)
 case atStart=>exact .inl rfl
 case round =>
  rcases hrel with rfl | rfl
  ·go_wp2
   rw [l0,l1]
   exact ⟨.inr trivial,by decide⟩
  ·go_wp2
   go_ret
   exact ⟨_,rfl,hb1,rfl⟩
def LineOk (r:Nat→Addr) (wb:Nat) (line out:ByteArray) (Pre Post:World→Prop):Prop:=∀ w,Glob r w→GlobE w→Tabs w→wb<w.heap.size →
 Calls Tryz.prog 11 #[.string line] w (Ret3 (fun x y z w'=>z=.bool true∧(∃ c,x=.pointer (some ⟨c,0,none⟩))∧(∃ t n,y=.agg #[.string t,.int .i64 n,.slice none 0 0]) ∧
  ∀ W,Below w'.heap.size w' W→Pre W→Calls Tryz.prog 12 #[.pointer (some ⟨wb,0,none⟩),x,y] W (fun e W'=>e=.returned (.string out)∧But wb W W'∧Post W')) w)
theorem GlobE.lowK {w w':World} (h:GlobE w) (hb:Below w.heap.size w w'):GlobE w':=h.below hb
theorem line_ask (r:Nat→Addr) (wb:Nat) (line s:ByteArray) (g:Nat) (hl:line.size≤4294967296) (hf:Lib.goFieldsP isSp line=[line]) (hi:0<line.size) (h35:(((line[0]'hi).toNat:Int)==35)=false)
 (hg:AskOf line g) (hs:s.size≤4096)
 (hdo:∀ (a:Option Addr) (n c:Nat) (W:World),Glob r W→GlobE W→Tabs W→IntsAt W (.slice a n c) (ecaT 232)→Calls Tryz.prog g #[.agg #[.int .i64 2,.int .i64 1,.slice a n c]] W (Ret2 (fun x y _=>x=.string s∧y=.nilIface) W)) :
 LineOk r wb line (s++nlB) (St1 wb) (St1 wb):=by
 intro w hG hE hT hwb
 refine (read_cmd0 line line (PAsk g) w hl hf hi h35 (.ask line g hg) (fun _ _ _ _ _ _ h=>h.1)).mono ?_
 rintro e w1 ⟨x,y,z,he,b1,cb,fo,wa,fn,a,b,L,rfl,rfl,rfl,hcb,qc,⟨rfl,rfl,rfl,rfl,c,rfl,rfl⟩,hL⟩
 refine ⟨_,_,_,he,b1,rfl,⟨_,rfl⟩,⟨_,_,rfl⟩,fun W bW hst=>?_⟩
 have hc:=(hL _ (List.mem_singleton.2 rfl)).2
 obtain ⟨rb,ra,rn,rc,h1,h2,h3⟩:=id hst
 have hwW:wb<W.heap.size:=(Array.getElem?_eq_some_iff.1 h1).1
 have hG2:=(hG.below b1).below bW
 have hE2:=(hE.lowK b1).lowK bW
 have hT2:=(hT.below b1).below bW
 refine (tell_any wb cb 62 ⟨#[]⟩ ⟨#[114]⟩ ⟨#[]⟩ s 0 (.slice none 0 0) #[.pointer (some ⟨c,0,none⟩)] (fun _ W'=>St1 wb W') W (.inr (.inl ⟨rfl,c,rfl⟩)) (qc.below bW) hs hwW (by omega) (fun V bV=>?_) (fun V bV=>?_)).mono ?_
 ·exact missing_r wb ⟨rb,0,none⟩ V ((bV.cell (World.block_lt_of_cell? _ _ (box3_heap h1).1.1)).trans (box3_heap h1).1.1)
 ·have hcV:=(bV.cell (World.block_lt_of_cell? _ _ ((bW.cell (World.block_lt_of_cell? _ _ hc)).trans hc))).trans ((bW.cell (World.block_lt_of_cell? _ _ hc)).trans hc)
  have hstV:=hst.kept (Kept.of_below bV)
  refine (askrun_any g (by rcases hg with ⟨_,h⟩ | ⟨_,h⟩ | ⟨_,h⟩ | ⟨_,h⟩<;>simp [h]) c wb rb 2 1 0 (.slice ra rn rc) (.slice none 0 0) ⟨#[]⟩ s V hcV ((bV.cell (World.block_lt_of_cell? _ _ (box3_heap h1).1.1)).trans (box3_heap h1).1.1) ((box3_heap h2).below bV) (fun U bU=>hdo ra rn rc U ((hG2.below bV).below bU) ((hE2.lowK bV).lowK bU) ((hT2.below bV).below bU) ((h3.at.below bV).below bU))).mono ?_
  rintro e U ⟨x,y,rfl,bU,rfl,rfl⟩
  exact ⟨rfl,But.of_below bU,hstV.kept (Kept.of_below bU)⟩
 ·rintro e W' ⟨rfl,V,bV,bu,hp⟩
  exact ⟨rfl,(But.of_below bV).trans bu,hp⟩
theorem ne35:∀ c:UInt8,c≠35→(((c.toNat:Nat):Int)==35)=false:=by
 intro c h
 rw [beq_eq_false_iff_ne]
 intro e
 refine h (UInt8.toNat_inj.1 ?_)
 show c.toNat=35
 omega
theorem line1 (r:Nat→Addr) (wb:Nat):LineOk r wb l1B (s2s1++nlB) (St1 wb) (St1 wb) :=
 line_ask r wb l1B s2s1 63 (by decide) fields1 (by decide) (ne35 _ (by decide)) (.inl ⟨rfl,rfl⟩) (by decide) (fun a n c W hG _ _ h=>by
  have hr:=rule_text r 2 1 a n c (ecaT 232) W hG h (eca_ok 232) (by rw [eca_len]; decide)
  rw [text232] at hr
  exact hr.mono (by
   rintro e W' ⟨x,y,he,b,rfl,rfl⟩
   exact ⟨_,_,he,b,rfl,rfl⟩))
theorem line2 (r:Nat→Addr) (wb:Nat):LineOk r wb l2B (sOrph++nlB) (St1 wb) (St1 wb) :=
 line_ask r wb l2B sOrph 64 (by decide) fields2 (by decide) (ne35 _ (by decide)) (.inr (.inl ⟨rfl,rfl⟩)) (by decide) (fun a n c W hG hE _ h=>dec_onto r 2 1 rfl rfl a n c W hG hE h)
theorem line3 (r:Nat→Addr) (wb:Nat):LineOk r wb l3B (sNo++nlB) (St1 wb) (St1 wb) :=
 line_ask r wb l3B sNo 68 (by decide) fields3 (by decide) (ne35 _ (by decide)) (.inr (.inr (.inl ⟨rfl,rfl⟩))) (by decide) (fun a n c W hG _ _ h=>dec_one r 2 1 rfl rfl a n c W hG h)
theorem line4 (r:Nat→Addr) (wb:Nat):LineOk r wb l4B (sNo5++nlB) (St1 wb) (St1 wb) :=
 line_ask r wb l4B sNo5 71 (by decide) fields4 (by decide) (ne35 _ (by decide)) (.inr (.inr (.inr ⟨rfl,rfl⟩))) (by decide) (fun a n c W hG _ hT h=>dec_twins r 2 1 rfl rfl a n c W hG hT h)
theorem line0 (r:Nat→Addr) (wb:Nat):LineOk r wb l0B (sOk++nlB) (St0 wb) (St1 wb):=by
 intro w hG hE hT hwb
 refine (read_cmd1 l0B w0B n0B ⟨#[]⟩ 110 232 PEca w (by decide) fields0 (by decide) (ne35 _ (by decide)) .eca (fun _ _ _ _ _ _ h=>.inl ⟨h.1,rfl⟩) (fun g W q=>(form_n g ⟨#[]⟩ 0 (.slice none 0 0) W q).mono ?_)).mono ?_
 ·rintro e W' ⟨rfl,W1,b1,rfl⟩
  exact ⟨rfl,W1,1,_,b1,rfl,(q.below b1).put1 _⟩
 rintro e w1 ⟨x,y,z,he,b1,cb,fo,wa,fn,a,b,L,rfl,rfl,rfl,hcb,qc,⟨rfl,rfl,rfl,rfl,rfl,rfl⟩,-⟩
 refine ⟨_,_,_,he,b1,rfl,⟨_,rfl⟩,⟨_,_,rfl⟩,fun W bW hst=>?_⟩
 have hwW:wb<W.heap.size:=(Array.getElem?_eq_some_iff.1 hst).1
 refine (tell_any wb cb 53 ⟨#[110]⟩ ⟨#[]⟩ ⟨#[]⟩ sOk 232 (.slice none 0 0) #[] (fun _ W'=>St1 wb W') W (.inl ⟨rfl,rfl⟩) (qc.below bW) (by decide) hwW (by omega) (fun V bV=>?_) (fun V bV=>?_)).mono ?_
 ·exact missing_none _ V
 ·exact eca_run wb ⟨#[]⟩ (.slice none 0 0) V (hst.kept (Kept.of_below bV))
 ·rintro e W' ⟨rfl,V,bV,bu,hp⟩
  exact ⟨rfl,(But.of_below bV).trans bu,hp⟩
theorem line5 (r:Nat→Addr) (wb:Nat):LineOk r wb l5B (s0++nlB) (St1 wb) (St1 wb):=by
 intro w hG hE hT hwb
 refine (read_cmd1 l5B w5B n5B n5B 116 0 PCnt w (by decide) fields5 (by decide) (ne35 _ (by decide)) .cnt (fun _ _ _ _ _ _ h=>.inr ⟨h.1,rfl⟩) (fun g W q=>(form_t g n5B ⟨#[]⟩ 0 (.slice none 0 0) W q).mono ?_)).mono ?_
 ·rintro e W' ⟨rfl,rfl⟩
  exact ⟨rfl,W,0,_,Below.refl _ _,rfl,q.put0 _⟩
 rintro e w1 ⟨x,y,z,he,b1,cb,fo,wa,fn,a,b,L,rfl,rfl,rfl,hcb,qc,⟨rfl,rfl,rfl,rfl,c,d,rfl,rfl⟩,hL⟩
 refine ⟨_,_,_,he,b1,rfl,⟨_,rfl⟩,⟨_,_,rfl⟩,fun W bW hst=>?_⟩
 have hc:=(hL _ (List.mem_cons_self ..)).2
 have hd:=(hL _ (List.mem_cons_of_mem _ (List.mem_singleton.2 rfl))).2
 obtain ⟨rb,ra,rn,rc,h1,h2,h3⟩:=id hst
 have hwW:wb<W.heap.size:=(Array.getElem?_eq_some_iff.1 h1).1
 have hG2:=(hG.below b1).below bW
 refine (tell_any wb cb 188 ⟨#[116]⟩ ⟨#[114]⟩ n5B s0 0 (.slice none 0 0) #[.pointer (some ⟨c,0,none⟩)] (fun _ W'=>St1 wb W') W (.inr (.inr ⟨rfl,c,rfl⟩)) (qc.below bW) (by decide) hwW (by omega) (fun V bV=>?_) (fun V bV=>?_)).mono ?_
 ·exact missing_r wb ⟨rb,0,none⟩ V ((bV.cell (World.block_lt_of_cell? _ _ (box3_heap h1).1.1)).trans (box3_heap h1).1.1)
 ·have hcV:=(bV.cell (World.block_lt_of_cell? _ _ ((bW.cell (World.block_lt_of_cell? _ _ hc)).trans hc))).trans ((bW.cell (World.block_lt_of_cell? _ _ hc)).trans hc)
  have hdV:=(bV.cell (World.block_lt_of_cell? _ _ ((bW.cell (World.block_lt_of_cell? _ _ hd)).trans hd))).trans ((bW.cell (World.block_lt_of_cell? _ _ hd)).trans hd)
  have hstV:=hst.kept (Kept.of_below bV)
  refine (cnt_run r 2 1 rfl rfl wb rb c d ra rn rc 0 (.slice none 0 0) V (hG2.below bV) hcV hdV ((bV.cell (World.block_lt_of_cell? _ _ (box3_heap h1).1.1)).trans (box3_heap h1).1.1) ((box3_heap h2).below bV) (h3.at.below bV)).mono ?_
  rintro e U ⟨x,y,rfl,bU,rfl,rfl⟩
  exact ⟨rfl,But.of_below bU,hstV.kept (Kept.of_below bU)⟩
 ·rintro e W' ⟨rfl,V,bV,bu,hp⟩
  exact ⟨rfl,(But.of_below bV).trans bu,hp⟩
end Go.Proofs.YtindfaehjoileaaGreatDoor
namespace Go.Proofs.YtindfaehjoileaaGreatDoor
open Go.RowKit Go.Shelf
set_option maxRecDepth 100000
def Tryz.laysSplit_ren:Go.Shelf.Ren:=⟨fun | 146=>16 | 221=>32 | 268=>47 | 138=>48 | 143=>49 | 195=>139 | 197=>140 | 218=>141 | 219=>142 | 260=>247 | 217=>137 | 225=>248 | 224=>249 | 267=>250 | 266=>245 | 314=>324 | n=>n,fun | 9=>9 | 31=>29 | 3=>3 | 4=>4 | 0=>0 | 105=>198 | 21=>21 | 5=>5 | 46=>101 | 119=>383 | 139=>386 | 138=>385 | 146=>327 | 51=>203 | n=>n,fun | 1=>13 | 3=>16 | 4=>17 | n=>n⟩
theorem Tryz.laysSplit:Go.Proofs.LaysM.n146 Tryz.prog Tryz.laysSplit_ren:={
 mixed:=by kernel_rfl
 f138:=Tryz.func48.trans (congrArg some (by kernel_rfl))
 f143:=Tryz.func49.trans (congrArg some (by kernel_rfl))
 f146:=Tryz.func16.trans (congrArg some (by kernel_rfl))
 f195:=Tryz.func139.trans (congrArg some (by kernel_rfl))
 f197:=Tryz.func140.trans (congrArg some (by kernel_rfl))
 f217:=Tryz.func137.trans (congrArg some (by kernel_rfl))
 f218:=Tryz.func141.trans (congrArg some (by kernel_rfl))
 f219:=Tryz.func142.trans (congrArg some (by kernel_rfl))
 f221:=Tryz.func32.trans (congrArg some (by kernel_rfl))
 f224:=Tryz.func249.trans (congrArg some (by kernel_rfl))
 f225:=Tryz.func248.trans (congrArg some (by kernel_rfl))
 f260:=Tryz.func247.trans (congrArg some (by kernel_rfl))
 f266:=Tryz.func245.trans (congrArg some (by kernel_rfl))
 f267:=Tryz.func250.trans (congrArg some (by kernel_rfl))
 f268:=Tryz.func47.trans (congrArg some (by kernel_rfl))
 f314:=Tryz.func324.trans (congrArg some (by kernel_rfl))
 t0:=Tryz.underlying0
 a0:=Tryz.isAgg0
 z0:=Tryz.sizeOf0
 v0:=Tryz.zeroValue0
 t3:=Tryz.underlying3
 a3:=Tryz.isAgg3
 z3:=Tryz.sizeOf3
 v3:=Tryz.zeroValue3
 t4:=Tryz.underlying4
 a4:=Tryz.isAgg4
 z4:=Tryz.sizeOf4
 v4:=Tryz.zeroValue4
 t5:=Tryz.underlying5
 a5:=Tryz.isAgg5
 z5:=Tryz.sizeOf5
 v5:=Tryz.zeroValue5
 t9:=Tryz.underlying9
 a9:=Tryz.isAgg9
 z9:=Tryz.sizeOf9
 v9:=Tryz.zeroValue9
 t21:=Tryz.underlying21
 a21:=Tryz.isAgg21
 z21:=Tryz.sizeOf21
 v21:=Tryz.zeroValue21
 t31:=Tryz.underlying29
 a31:=Tryz.isAgg29
 z31:=Tryz.sizeOf29
 v31:=Tryz.zeroValue29
 t46:=Tryz.underlying101
 a46:=Tryz.isAgg101
 z46:=Tryz.sizeOf101
 v46:=Tryz.zeroValue101
 t51:=Tryz.underlying203
 a51:=Tryz.isAgg203
 z51:=Tryz.sizeOf203
 v51:=Tryz.zeroValue203
 t105:=Tryz.underlying198
 a105:=Tryz.isAgg198
 z105:=Tryz.sizeOf198
 v105:=Tryz.zeroValue198
 t119:=Tryz.underlying383
 a119:=Tryz.isAgg383
 z119:=Tryz.sizeOf383
 t138:=Tryz.underlying385
 a138:=Tryz.isAgg385
 z138:=Tryz.sizeOf385
 v138:=Tryz.zeroValue385
 t139:=Tryz.underlying386
 a139:=Tryz.isAgg386
 z139:=Tryz.sizeOf386
 v139:=Tryz.zeroValue386
 t146:=Tryz.underlying327
 a146:=Tryz.isAgg327
 z146:=Tryz.sizeOf327
 v146:=Tryz.zeroValue327
 g1:=by kernel_rfl
 g3:=by kernel_rfl
 g4:=by kernel_rfl
 i0:=by kernel_rfl
 i3:=by kernel_rfl
 i4:=by kernel_rfl
 i5:=by kernel_rfl
 i9:=by kernel_rfl
 i21:=by kernel_rfl
 i31:=by kernel_rfl
 i46:=by kernel_rfl
 i51:=by kernel_rfl
 i105:=by kernel_rfl
 i138:=by kernel_rfl
 i139:=by kernel_rfl
 i146:=by kernel_rfl
 m1:=by kernel_rfl
 s1_3:=fun w h=>Go.Proofs.cell_of_shapedOpen_int (zero:=#[.int .i64 0]) (t:=3) h (of_decide_eq_true (by kernel_rfl)) (by kernel_rfl) rfl (by kernel_rfl) (by kernel_rfl) Tryz.underlying3
 m3:=by kernel_rfl
 m4:=by kernel_rfl }
def MaxOk (w:World):Prop:=∃ m,w.cell? ⟨13,0,none⟩=some (.int .i64 m)
theorem MaxOk.below {w w':World} (h:MaxOk w) (hb:Below w.heap.size w w'):MaxOk w':=by
 obtain ⟨m,hm⟩:=h
 exact ⟨m,(hb.cell (World.block_lt_of_cell? _ _ hm)).trans hm⟩
theorem MaxOk.of {w:World} (h:w.ShapedOpen Tryz.prog):MaxOk w:=Tryz.laysSplit.s1_3 w h
theorem split_any (s:ByteArray) (w:World) (hm:MaxOk w) (hs:s.size<4294967281) :
 Calls Tryz.prog 16 #[.string s,.string nlB] w fun e w' =>
  e=.returned (.slice (some ⟨w.heap.size,0,none⟩) (Lib.countB s nlB+1) (Lib.countB s nlB+1))∧w'=w.alloc (.cells ((Lib.splitB nlB 0 (Lib.countB s nlB) s).map Value.string).toArray 9):=by
 obtain ⟨m,hm⟩:=hm
 exact Any.strings_Split { Tryz.laysSplit with } Tryz.laysSplit.i9 s nlB m w hs hm (by decide)
theorem writeK_any (B b:Nat) (bs:List Value) (s:ByteArray) (w:World) (h:Lib.IsBuilderF 59 5 B b bs w) (hlen:bs.length+s.size≤140737488355328) (hBw:B≤w.heap.size) :
 Calls Tryz.prog 17 #[.pointer (some ⟨b,0,none⟩),.string s] w fun e w'=>e=.returned (.tuple #[.int .i64 s.size,.nilIface])∧(Lib.BuilderAtF 59 5 B b (.pointer (some ⟨b,0,none⟩)) (bs++Lib.strCells s) w'∧Below B w w'∧Lib.OthersKept 5 (some b) w w') :=
 Any.Builder_WriteString_k { Tryz.laysJoin with } builderX B b bs s w h hlen hBw
theorem write_any (B b:Nat) (bs:List Value) (s:ByteArray) (w:World) (h:Lib.IsBuilder 59 5 B b bs w) (hlen:bs.length+s.size≤140737488355328) (hBw:B≤w.heap.size) :
 Calls Tryz.prog 17 #[.pointer (some ⟨b,0,none⟩),.string s] w fun e w'=>e=.returned (.tuple #[.int .i64 s.size,.nilIface])∧(Lib.BuilderAt 59 5 B b (.pointer (some ⟨b,0,none⟩)) (bs++Lib.strCells s) w'∧Below B w w') :=
 Any.Builder_WriteString { Tryz.laysJoin with } builderX B b bs s w h hlen hBw
theorem stringK_any (B b:Nat) (l:List UInt8) (w:World) (h:Lib.IsBuilderF 59 5 B b (Lib.byteCells l) w) (h0:l≠[]) :
 Calls Tryz.prog 18 #[.pointer (some ⟨b,0,none⟩)] w fun e w'=>e=.returned (.string ⟨l.toArray⟩)∧Below B w w' :=
 (Any.Builder_String_k { Tryz.laysJoin with } builderX B b l w h h0).mono fun _ _ h=>⟨h.1,h.2.2.1⟩
theorem string_any (B b:Nat) (l:List UInt8) (w:World) (h:Lib.IsBuilder 59 5 B b (Lib.byteCells l) w) (hBw:B≤w.heap.size) :
 Calls Tryz.prog 18 #[.pointer (some ⟨b,0,none⟩)] w fun e w'=>e=.returned (.string ⟨l.toArray⟩)∧Below B w w' :=
 Any.Builder_String_any { Tryz.laysJoin with } builderX B b l w h hBw
end Go.Proofs.YtindfaehjoileaaGreatDoor
namespace Go.Proofs.YtindfaehjoileaaGreatDoor
open Go.RowKit
set_option maxRecDepth 100000
set_option maxHeartbeats 8000000
theorem shnew_st (w:World):Calls Tryz.prog 8 #[] w (Ret1 (fun x w'=>x=.pointer (some ⟨w.heap.size,0,none⟩)∧St0 w.heap.size w'∧w'.heap.size=w.heap.size+1) w):=by
 go_enter Tryz.func8,Tryz.ntmps8
 go_wp2
 go_ret
 exact ⟨_,rfl,belowAlloc _ _,rfl,heap_alloc_new w _,by simp⟩
theorem builderAtF_but {B b g:Nat} {p:Value} {bs:List Value} {w w':World} (h:Lib.BuilderAtF 59 5 B b p bs w) (k:But g w w') (hg:∃ c fz,w.heap[g]?=some (.cells c 55 fz)):Lib.BuilderAtF 59 5 B b p bs w':=by
 obtain ⟨c,fz,hc⟩:=hg
 obtain ⟨hB,v,hb,⟨hl,hown⟩,hne⟩:=h
 have hbg:b≠g:=by
  rintro rfl
  rw [hb] at hc
  injection hc with hc
  injection hc with _ h5 _
  exact absurd h5 (by decide)
 refine ⟨hB,v,(k.2 b (Array.getElem?_eq_some_iff.1 hb).1 hbg).trans hb,⟨hl,?_⟩,hne⟩
 rcases hown with hn | ⟨q,cap,cur,fz',e,hb',hq,rest⟩
 ·exact .inl hn
 ·have hqg:q≠g:=by
   rintro rfl
   rw [hq] at hc
   injection hc with hc
   injection hc with _ h5 _
   exact absurd h5 (by decide)
  exact .inr ⟨q,cap,cur,fz',e,hb',(k.2 q (Array.getElem?_eq_some_iff.1 hq).1 hqg).trans hq,rest⟩
theorem isBuilderF_but {B b g:Nat} {bs:List Value} {w w':World} (h:Lib.IsBuilderF 59 5 B b bs w) (k:But g w w') (hg:∃ c fz,w.heap[g]?=some (.cells c 55 fz)):Lib.IsBuilderF 59 5 B b bs w' :=
 h.elim (fun x=>.inl (builderAtF_but x k hg)) (fun x=>.inr (builderAtF_but x k hg))
def lineAt:Nat→ByteArray
 | 0=>l0B | 1=>l1B | 2=>l2B | 3=>l3B | 4=>l4B | _=>l5B
def outAt:Nat→ByteArray
 | 0=>sOk++nlB | 1=>s2s1++nlB | 2=>sOrph++nlB | 3=>sNo++nlB | 4=>sNo5++nlB | _=>s0++nlB
def accB (i:Nat):List UInt8:=((List.range i).map fun j=>(outAt j).data.toList).flatten
theorem accB_succ (i:Nat):accB (i+1)=accB i++(outAt i).data.toList:=by simp [accB,List.range_succ]
theorem accB_len:∀ i<6,(accB i).length+(outAt i).size≤1000:=by decide +kernel
def outS:ByteArray:=⟨#[111,107,10,50,46,49,46,50,51,50,10,110,111,32,48,49,48,48,49,10,110,111,10,110,111,32,53,10,48,10]⟩
theorem accB_all:accB 6=outS.data.toList:=by decide +kernel
def StN (wb:Nat):Nat→World→Prop
 | 0=>St0 wb
 | _+1=>St1 wb
theorem StN.kept {wb i:Nat} {w w':World} (h:StN wb i w) (k:Kept w w'):StN wb i w':=by
 cases i with
 | zero=>exact St0.kept h k
 | succ i=>exact St1.kept h k
theorem StN.ty {wb i:Nat} {w:World} (h:StN wb i w):∃ c fz,w.heap[wb]?=some (.cells c 55 fz):=by
 cases i with
 | zero=>exact ⟨_,_,h⟩
 | succ i=>obtain ⟨_,_,_,_,h,_⟩:=h; exact ⟨_,_,h⟩
theorem line_all (r:Nat→Addr) (wb i:Nat) (hi:i<6):LineOk r wb (lineAt i) (outAt i) (StN wb i) (StN wb (i+1)):=by
 obtain rfl | rfl | rfl | rfl | rfl | rfl:i=0∨i=1∨i=2∨i=3∨i=4∨i=5:=by omega
 ·exact line0 r wb
 ·exact line1 r wb
 ·exact line2 r wb
 ·exact line3 r wb
 ·exact line4 r wb
 ·exact line5 r wb
theorem run_script (r:Nat→Addr) (w:World) (hg:Glob r w) (hG:GlobE w) (hT:Tabs w) (hM:MaxOk w) :
 Calls Tryz.prog 9 #[.string awB] w (Ret2 (fun x y _=>x=.string outS∧y=.nilIface) w):=by
 have hsp:=split_any awB w hM (by decide)
 rw [count_aw,split_aw] at hsp
 obtain ⟨w1,hw1⟩:∃ W,w.alloc (.cells (([l0B,l1B,l2B,l3B,l4B,l5B]:List ByteArray).map Value.string).toArray 9)=W:=⟨_,rfl⟩
 have b1:Below w.heap.size w w1:=by rw [← hw1]; exact belowAlloc _ _
 have hs1:w1.heap.size=w.heap.size+1:=by rw [← hw1]; simp
 have hcs:∀ i,i<6→w1.cell? ⟨w.heap.size,i,none⟩=some (.string (lineAt i)):=by
  intro i hi
  obtain rfl | rfl | rfl | rfl | rfl | rfl:i=0∨i=1∨i=2∨i=3∨i=4∨i=5:=by omega
  all_goals (rw [← hw1]; simp [go_sem,lineAt])
 rw [hw1] at hsp
 have g1:=hg.below b1
 have G1:=hG.below b1
 have T1:=hT.below b1
 replace hsp:=Hd hsp
 replace hcs:=Hd hcs
 replace g1:=Hd g1
 replace G1:=Hd G1
 replace T1:=Hd T1
 replace b1:=Hd b1
 replace hs1:=Hd hs1
 obtain ⟨base,hbase⟩:∃ k,w.heap.size=k:=⟨_,rfl⟩
 rw [hbase] at hsp hcs hs1
 clear hw1 hg hG hT hM
 have hbl:0<w1.heap.size:=by rw [hs1.out]; omega
 go_enter Tryz.func9,Tryz.ntmps9
 go_wp2_with fail
 refine hsp.out.mono ?_
 rintro e w' ⟨rfl,hww⟩
 replace hww:=hww.symm
 subst hww
 go_upto_region 7 with fail
 go_loopw [29] (fun iv wr=>∃ i:Nat,iv=.int .i64 i∧i≤6∧Below w1.heap.size w1 wr) (fun iv _=>6-(intOf iv).toNat)
 case atStart=>exact ⟨0,rfl,by decide,Below.refl _ _⟩
 case round =>
  obtain ⟨i,rfl,hi,hB⟩:=hrel
  obtain ⟨wo,rfl⟩:∃ wo:World,wo=wr:=⟨_,rfl⟩
  by_cases hlt:i<6
  ·have d1:decide ((i:Int)<6)=true:=decide_eq_true (by omega)
   have hc:=(hB.cell (World.block_lt_of_cell? _ _ (hcs.out i hlt))).trans (hcs.out i hlt)
   have hrd:=line_all r 0 i hlt wo (g1.out.below hB) (G1.out.lowK hB) (T1.out.below hB) (Nat.lt_of_lt_of_le hbl hB.size)
   replace hrd:=Hd hrd
   replace hB:=Hd hB
   go_wp2_with fail
   refine hrd.out.mono ?_
   rintro e w2 ⟨x,y,z,rfl,b2,rfl,⟨c,rfl⟩,⟨t,n,rfl⟩,-⟩
   have hB2:=Below.step (Below.step hB.out b2) (belowAlloc w2 (.cells #[.string t,.int .i64 n,.slice none 0 0] 41))
   replace hB2:=Hd hB2
   clear b2 hrd
   go_wp2
   go_roundw
   case measure=>simp [intOf]; omega
   case rel=>exact ⟨i+1,by go_num,by omega,hB2.out⟩
  ·obtain rfl:i=6:=by omega
   have hnew:=shnew_st wo
   replace hnew:=Hd hnew
   replace hB:=Hd hB
   go_wp2_with fail
   refine hnew.out.mono ?_
   rintro e w2 ⟨x,rfl,b2,rfl,hst,hs2⟩
   obtain ⟨w3,hw3⟩:∃ W,w2.alloc (.cells #[.pointer none,.slice none 0 0] 59)=W:=⟨_,rfl⟩
   have b3:Below w2.heap.size w2 w3:=by rw [← hw3]; exact belowAlloc _ _
   have hst3:=hst.kept (Kept.of_below b3)
   have hB3:=Below.step (Below.step hB.out b2) b3
   obtain ⟨wb,hwb⟩:∃ k,wo.heap.size=k:=⟨_,rfl⟩
   obtain ⟨bb,hbb⟩:∃ k,w2.heap.size=k:=⟨_,rfl⟩
   have hbu:Lib.IsBuilderF 59 5 bb bb (Lib.byteCells (accB 0)) w3:=by
    refine .inl ⟨Nat.le_refl _,.slice none 0 0,?_,⟨rfl,.inl ⟨rfl,rfl⟩⟩,by simp [Value.ownBlock]⟩
    rw [← hw3,← hbb]; exact heap_alloc_new w2 _
   have hwb1:w1.heap.size≤wb:=by rw [← hwb]; exact hB.out.size
   have hbb1:w1.heap.size≤bb:=by omega
   have hs3:bb<w3.heap.size:=by rw [← hw3,← hbb]; simp
   rw [hwb] at hst3
   replace hwb:=Hd hwb
   replace hbb:=Hd hbb
   replace hw3:=Hd hw3
   replace hst3:=Hd hst3
   replace hB3:=Hd hB3
   replace hbu:=Hd hbu
   replace hs3:=Hd hs3
   replace hwb1:=Hd hwb1
   replace hbb1:=Hd hbb1
   clear b2 b3 hst hs2 hB hnew
   go_upto_region 14 with fail
   rw [hwb.out]
   go_upto_region 15 with fail
   rw [hw3.out,hbb.out]
   go_upto_region 16 with fail
   go_loopw [48] (fun iv wr=>∃ i:Nat,iv=.int .i64 i∧i≤6∧StN wb i wr∧Lib.IsBuilderF 59 5 bb bb (Lib.byteCells (accB i)) wr∧Below w1.heap.size w1 wr∧bb<wr.heap.size) (fun iv _=>6-(intOf iv).toNat)
   case atStart=>exact ⟨0,rfl,by decide,hst3.out,hbu.out,hB3.out,hs3.out⟩
   case round =>
    clear hst3 hbu hB3 hs3 hw3
    obtain ⟨i,rfl,hi,hst,hbu,hB,hs3⟩:=hrel
    obtain ⟨wo2,rfl⟩:∃ wo:World,wo=wr:=⟨_,rfl⟩
    by_cases hlt:i<6
    ·have d1:decide ((i:Int)<6)=true:=decide_eq_true (by omega)
     have hc:=(hB.cell (World.block_lt_of_cell? _ _ (hcs.out i hlt))).trans (hcs.out i hlt)
     have hwbl:wb<wo2.heap.size:=by obtain ⟨_,_,h⟩:=hst.ty; exact (Array.getElem?_eq_some_iff.1 h).1
     have hrd:=line_all r wb i hlt wo2 (g1.out.below hB) (G1.out.lowK hB) (T1.out.below hB) hwbl
     replace hrd:=Hd hrd
     replace hB:=Hd hB
     replace hst:=Hd hst
     replace hbu:=Hd hbu
     replace hs3:=Hd hs3
     replace hwbl:=Hd hwbl
     go_wp2_with fail
     refine hrd.out.mono ?_
     rintro e w4 ⟨x,y,z,rfl,b4,rfl,⟨c,rfl⟩,⟨t,n,rfl⟩,htell⟩
     obtain ⟨w5,hw5⟩:∃ W,w4.alloc (.cells #[.string t,.int .i64 n,.slice none 0 0] 41)=W:=⟨_,rfl⟩
     have b5:Below w4.heap.size w4 w5:=by rw [← hw5]; exact belowAlloc _ _
     have q5:Box3 w5 w4.heap.size (.string t) (.int .i64 n) (.slice none 0 0):=by rw [← hw5]; simp [Box3,go_sem]
     have b45:=Below.step b4 b5
     have hst5:=hst.out.kept (Kept.of_below b45)
     have hte:=htell w5 b5 hst5
     have hbu5:=isBuilderF_but hbu.out (But.of_below (g:=wb) b45) hst.out.ty
     have hB5:=Below.step hB.out b45
     obtain ⟨⟨z0,z1,z2⟩,-,-,-⟩:=q5
     replace hte:=Hd hte
     replace hst5:=Hd hst5
     replace hbu5:=Hd hbu5
     replace hB5:=Hd hB5
     replace hw5:=Hd hw5
     have hs5:=Nat.lt_of_lt_of_le hs3.out b45.size
     clear htell b4 b5 b45 hrd hst hbu hB
     go_upto_region 19 with fail
     rw [hw5.out]
     go_wp2_with fail
     refine hte.out.mono ?_
     rintro e w6 ⟨rfl,bt,hst6⟩
     have hbu6:=isBuilderF_but hbu5.out bt hst5.out.ty
     have hB6:=hB5.out.trans (bt.below hwb1.out (Nat.le_trans hbb1.out (Nat.le_of_lt hs5)))
     have hs6:=Nat.lt_of_lt_of_le hs5 bt.1.size
     have hwr:=writeK_any bb bb (Lib.byteCells (accB i)) (outAt i) w6 hbu6 (by rw [Lib.byteCells_length]; have:=accB_len i hlt; omega) (Nat.le_of_lt hs6)
     replace hwr:=Hd hwr
     replace hst6:=Hd hst6
     replace hB6:=Hd hB6
     have hty6:∃ c fz,w6.heap[bb]?=some (.cells c 59 fz):=by
      rcases hbu6 with ⟨_,v,h,_⟩ | ⟨_,v,h,_⟩<;>exact ⟨_,_,h⟩
     clear hte bt hbu6 hbu5 hB5 hst5 z0 z1 z2
     go_wp2_with fail
     refine hwr.out.mono ?_
     rintro e w7 ⟨rfl,hbu7,b7,ho7⟩
     have hst7:=hst6.out.kept (Kept.of_others ho7 hty6)
     rw [Lib.strCells_eq,← Lib.byteCells_append,← accB_succ] at hbu7
     have hB7:=hB6.out.trans (b7.mono hbb1.out)
     have hs7:=Nat.lt_of_lt_of_le hs6 b7.size
     replace hbu7:=Hd hbu7
     replace hst7:=Hd hst7
     replace hB7:=Hd hB7
     clear b7 ho7 hwr
     go_wp2
     go_roundw
     case measure=>simp [intOf]; omega
     case rel=>exact ⟨i+1,by go_num,by omega,hst7.out,.inr hbu7.out,hB7.out,hs7⟩
    ·obtain rfl:i=6:=by omega
     rw [accB_all] at hbu
     have hsr:=stringK_any bb bb outS.data.toList wo2 hbu (by decide)
     replace hsr:=Hd hsr
     have hBf:=Below.step b1.out hB
     replace hBf:=Hd hBf
     clear hbu hst hB
     go_wp2_with fail
     refine hsr.out.mono ?_
     rintro e w4 ⟨rfl,b4⟩
     have hBe:=hBf.out.trans (b4.mono (by have:=hbb1.out; have:=hs1.out; omega))
     go_wp2
     exact bodyPost_ret (v:=.tuple #[.string outS,.nilIface]) (by simp [results,Tryz.results9,outS]) rfl ⟨_,_,rfl,hBe,rfl,rfl⟩
end Go.Proofs.YtindfaehjoileaaGreatDoor
namespace Go.Proofs.YtindfaehjoileaaGreatDoor
open Go.RowKit
set_option maxRecDepth 100000
def sShell:ByteArray:=⟨#[115,104,101,108,108]⟩
theorem shell_wrong (r:Nat→Addr) (at_ n:Int) (w:World) (hg:Glob r w) (h1:1≤n) (h2:n≤11) :
 Calls Tryz.prog 10 #[.int .i64 at_,.int .i64 n] w (Ret1 (fun v w'=>ErrIs r w' (fresh sShell at_ n) v) w):=by
 go_enter Tryz.func10,Tryz.ntmps10
 go_wp2_with fail
 refine (new_any r _ at_ n w hg h1 h2).mono ?_
 rintro e w' ⟨v,rfl,hb,he⟩
 go_wp2
 go_ret
 exact ⟨_,rfl,hb,he⟩
def noS:ByteArray:=⟨#[]⟩
theorem do_nil (r:Nat→Addr) (s:ByteArray) (w:World) (hg:Glob r w) :
 Calls Tryz.prog 5 #[.pointer none,.string s] w (Ret2 (fun x y w'=>x=.string noS∧ErrIs r w' (fresh sShell 0 11) y) w):=by
 go_enter Tryz.func5,Tryz.ntmps5
 go_wp2_with fail
 refine (shell_wrong r _ _ _ hg (by decide) (by decide)).mono ?_
 rintro e w' ⟨v,rfl,hb,he⟩
 obtain ⟨T,a,rfl⟩:=ErrIs.some_shape he
 go_wp2
 exact bodyPost_ret (v:=.tuple #[.string noS,.iface T (.pointer (some a))]) (by simp [results,Tryz.results5,noS]) rfl ⟨_,_,rfl,hb,rfl,he⟩
theorem do_long (r:Nat→Addr) (g:Nat) (s:ByteArray) (w:World) (hg:Glob r w) (hs:8192<s.size) :
 Calls Tryz.prog 5 #[.pointer (some ⟨g,0,none⟩),.string s] w (Ret2 (fun x y w'=>x=.string noS∧ErrIs r w' (fresh sShell 0 4) y) w):=by
 have d:decide ((8192:Int)<(s.size:Int))=true:=decide_eq_true (by omega)
 go_enter Tryz.func5,Tryz.ntmps5
 go_wp2_with fail
 refine (shell_wrong r _ _ _ hg (by decide) (by decide)).mono ?_
 rintro e w' ⟨v,rfl,hb,he⟩
 obtain ⟨T,a,rfl⟩:=ErrIs.some_shape he
 go_wp2
 exact bodyPost_ret (v:=.tuple #[.string noS,.iface T (.pointer (some a))]) (by simp [results,Tryz.results5,noS]) rfl ⟨_,_,rfl,hb,rfl,he⟩
theorem run_long (r:Nat→Addr) (s:ByteArray) (w:World) (hg:Glob r w) (hs:8192<s.size) :
 Calls Tryz.prog 9 #[.string s] w (Ret2 (fun x y w'=>x=.string noS∧ErrIs r w' (fresh sShell 0 4) y) w):=by
 have d:decide ((8192:Int)<(s.size:Int))=true:=decide_eq_true (by omega)
 go_enter Tryz.func9,Tryz.ntmps9
 go_wp2_with fail
 refine (shell_wrong r _ _ _ hg (by decide) (by decide)).mono ?_
 rintro e w' ⟨v,rfl,hb,he⟩
 obtain ⟨T,a,rfl⟩:=ErrIs.some_shape he
 go_wp2
 exact bodyPost_ret (v:=.tuple #[.string noS,.iface T (.pointer (some a))]) (by simp [results,Tryz.results9,noS]) rfl ⟨_,_,rfl,hb,rfl,he⟩
set_option maxHeartbeats 8000000
theorem do_space (g n:Nat) (hn:n≤8192) (w:World) :
 Calls Tryz.prog 5 #[.pointer (some ⟨g,0,none⟩),.string (spaceB n)] w (Ret2 (fun x y _=>x=.string noS∧y=.nilIface) w):=by
 have hsz:((spaceB n).size:Int)=n:=by rw [spaceB_size]
 have d:decide ((8192:Int)<(n:Int))=false:=decide_eq_false (by omega)
 have hrd:=read_space n (by omega) w
 obtain ⟨sb,hsb⟩:∃ s,spaceB n=s:=⟨_,rfl⟩
 rw [hsb] at hrd hsz ⊢
 replace hrd:=Hd hrd
 clear hsb
 go_enter Tryz.func5,Tryz.ntmps5
 go_wp2_with fail
 refine hrd.out.mono ?_
 rintro e w1 ⟨x,y,z,rfl,b1,rfl,rfl,rfl⟩
 unfold argZ
 have bl:=belowAlloc w1 (.cells #[.string ⟨#[]⟩,.int .i64 0,.slice none 0 0] 41)
 have q:Box3 (w1.alloc (.cells #[.string ⟨#[]⟩,.int .i64 0,.slice none 0 0] 41)) w1.heap.size (.string ⟨#[]⟩) (.int .i64 0) (.slice none 0 0):=by simp [Box3,go_sem]
 have hte:=tell_nil (.pointer (some ⟨g,0,none⟩)) ⟨#[]⟩ 0 (.slice none 0 0) (w1.alloc (.cells #[.string ⟨#[]⟩,.int .i64 0,.slice none 0 0] 41))
 have bb:=Below.step b1 bl
 obtain ⟨⟨z0,z1,z2⟩,-,-,-⟩:=q
 replace hte:=Hd hte
 clear bl b1
 go_wp2_with fail
 refine hte.out.mono ?_
 rintro e w2 ⟨x,rfl,b2,rfl⟩
 go_wp2
 exact bodyPost_ret (v:=.tuple #[.string noS,.nilIface]) (by simp [results,Tryz.results5,noS]) rfl ⟨_,_,rfl,Below.step bb b2,rfl,rfl⟩
theorem isBuilder_below {B b:Nat} {bs:List Value} {w w':World} (h:Lib.IsBuilder 59 5 B b bs w) (k:Below w.heap.size w w'):Lib.IsBuilder 59 5 B b bs w':=by
 have one:∀ p,Lib.BuilderAt 59 5 B b p bs w→Lib.BuilderAt 59 5 B b p bs w':=by
  rintro p ⟨hB,v,hb,⟨hl,hown⟩,hne⟩
  refine ⟨hB,v,(k.block b (Array.getElem?_eq_some_iff.1 hb).1).trans hb,⟨hl,?_⟩,hne⟩
  rcases hown with hn | ⟨q,cap,cur,e,hb',hq,rest⟩
  ·exact .inl hn
  ·exact .inr ⟨q,cap,cur,e,hb',(k.block q (Array.getElem?_eq_some_iff.1 hq).1).trans hq,rest⟩
 exact h.elim (fun x=>.inl (one _ x)) (fun x=>.inr (one _ x))
theorem run_space (n:Nat) (hn:n≤8192) (w:World) (hM:MaxOk w) :
 Calls Tryz.prog 9 #[.string (spaceB n)] w (Ret2 (fun x y _=>x=.string noS∧y=.nilIface) w):=by
 have hsz:((spaceB n).size:Int)=n:=by rw [spaceB_size]
 have d:decide ((8192:Int)<(n:Int))=false:=decide_eq_false (by omega)
 have hsp:=split_any (spaceB n) w hM (by rw [spaceB_size]; omega)
 rw [split_space,count_space] at hsp
 have hrd:=fun w=>read_space n (by omega) w
 obtain ⟨sb,hsb⟩:∃ s,spaceB n=s:=⟨_,rfl⟩
 rw [hsb] at hrd hsz hsp ⊢
 clear hsb
 obtain ⟨w1,hw1⟩:∃ W,w.alloc (.cells (([sb]:List ByteArray).map Value.string).toArray 9)=W:=⟨_,rfl⟩
 have b1:Below w.heap.size w w1:=by rw [← hw1]; exact belowAlloc _ _
 have hs1:w1.heap.size=w.heap.size+1:=by rw [← hw1]; simp
 have hc0:w1.cell? ⟨w.heap.size,0,none⟩=some (.string sb):=by rw [← hw1]; simp [go_sem]
 rw [hw1] at hsp
 replace hsp:=Hd hsp
 replace hc0:=Hd hc0
 replace hrd:=Hd hrd
 replace b1:=Hd b1
 replace hs1:=Hd hs1
 obtain ⟨base,hbase⟩:∃ k,w.heap.size=k:=⟨_,rfl⟩
 rw [hbase] at hsp hc0 hs1
 clear hw1 hM
 go_enter Tryz.func9,Tryz.ntmps9
 go_wp2_with fail
 refine hsp.out.mono ?_
 rintro e w' ⟨rfl,hww⟩
 replace hww:=hww.symm
 subst hww
 go_upto_region 7 with fail
 go_loopw [29] (fun iv wr=>∃ i:Nat,iv=.int .i64 i∧i≤1∧Below w1.heap.size w1 wr) (fun iv _=>1-(intOf iv).toNat)
 case atStart=>exact ⟨0,rfl,by decide,Below.refl _ _⟩
 case round =>
  obtain ⟨i,rfl,hi,hB⟩:=hrel
  obtain ⟨wo,rfl⟩:∃ wo:World,wo=wr:=⟨_,rfl⟩
  obtain rfl | rfl:i=0∨i=1:=by omega
  ·have hc:=(hB.cell (World.block_lt_of_cell? _ _ hc0.out)).trans hc0.out
   have hr0:=hrd.out wo
   replace hr0:=Hd hr0
   replace hB:=Hd hB
   go_wp2_with fail
   refine hr0.out.mono ?_
   rintro e w2 ⟨x,y,z,rfl,b2,rfl,rfl,rfl⟩
   unfold argZ
   have hB2:=Below.step (Below.step hB.out b2) (belowAlloc w2 (.cells #[.string ⟨#[]⟩,.int .i64 0,.slice none 0 0] 41))
   replace hB2:=Hd hB2
   clear b2 hr0
   go_wp2
   go_roundw
   case measure=>simp [intOf]
   case rel=>exact ⟨1,rfl,by decide,hB2.out⟩
  ·have hnew:=shnew_st wo
   replace hnew:=Hd hnew
   replace hB:=Hd hB
   go_wp2_with fail
   refine hnew.out.mono ?_
   rintro e w2 ⟨x,rfl,b2,rfl,-,hs2⟩
   obtain ⟨w3,hw3⟩:∃ W,w2.alloc (.cells #[.pointer none,.slice none 0 0] 59)=W:=⟨_,rfl⟩
   have b3:Below w2.heap.size w2 w3:=by rw [← hw3]; exact belowAlloc _ _
   have hB3:=Below.step (Below.step hB.out b2) b3
   obtain ⟨wb,hwb⟩:∃ k,wo.heap.size=k:=⟨_,rfl⟩
   obtain ⟨bb,hbb⟩:∃ k,w2.heap.size=k:=⟨_,rfl⟩
   have hbu:Lib.IsBuilder 59 5 bb bb [] w3:=by
    refine .inl ⟨Nat.le_refl _,.slice none 0 0,?_,⟨rfl,.inl ⟨rfl,rfl⟩⟩,by simp [Value.ownBlock]⟩
    rw [← hw3,← hbb]; exact heap_alloc_new w2 _
   have hbb1:w1.heap.size≤bb:=by have:=hB.out.size; omega
   have hs3:bb<w3.heap.size:=by rw [← hw3,← hbb]; simp
   replace hwb:=Hd hwb
   replace hbb:=Hd hbb
   replace hw3:=Hd hw3
   replace hB3:=Hd hB3
   replace hbu:=Hd hbu
   replace hs3:=Hd hs3
   replace hbb1:=Hd hbb1
   clear b2 b3 hs2 hB hnew
   go_upto_region 14 with fail
   rw [hwb.out]
   go_upto_region 15 with fail
   rw [hw3.out,hbb.out]
   go_upto_region 16 with fail
   go_loopw [48] (fun iv wr=>∃ i:Nat,iv=.int .i64 i∧i≤1∧Lib.IsBuilder 59 5 bb bb [] wr∧Below w1.heap.size w1 wr∧bb<wr.heap.size) (fun iv _=>1-(intOf iv).toNat)
   case atStart=>exact ⟨0,rfl,by decide,hbu.out,hB3.out,hs3.out⟩
   case round =>
    clear hbu hB3 hs3 hw3
    obtain ⟨i,rfl,hi,hbu,hB,hs3⟩:=hrel
    obtain ⟨wo2,rfl⟩:∃ wo:World,wo=wr:=⟨_,rfl⟩
    obtain rfl | rfl:i=0∨i=1:=by omega
    ·have hc:=(hB.cell (World.block_lt_of_cell? _ _ hc0.out)).trans hc0.out
     have hr0:=hrd.out wo2
     replace hr0:=Hd hr0
     replace hB:=Hd hB
     replace hbu:=Hd hbu
     replace hs3:=Hd hs3
     go_wp2_with fail
     refine hr0.out.mono ?_
     rintro e w4 ⟨x,y,z,rfl,b4,rfl,rfl,rfl⟩
     unfold argZ
     obtain ⟨w5,hw5⟩:∃ W,w4.alloc (.cells #[.string ⟨#[]⟩,.int .i64 0,.slice none 0 0] 41)=W:=⟨_,rfl⟩
     have b5:Below w4.heap.size w4 w5:=by rw [← hw5]; exact belowAlloc _ _
     have q5:Box3 w5 w4.heap.size (.string ⟨#[]⟩) (.int .i64 0) (.slice none 0 0):=by rw [← hw5]; simp [Box3,go_sem]
     have b45:=Below.step b4 b5
     have hte:=tell_nil (.pointer (some ⟨wb,0,none⟩)) ⟨#[]⟩ 0 (.slice none 0 0) w5
     obtain ⟨⟨z0,z1,z2⟩,-,-,-⟩:=q5
     replace hte:=Hd hte
     replace hw5:=Hd hw5
     clear hr0
     go_upto_region 19 with fail
     rw [hw5.out]
     go_wp2_with fail
     refine hte.out.mono ?_
     rintro e w6 ⟨x,rfl,b6,rfl⟩
     have b46:=Below.step b45 b6
     have hbu6:=isBuilder_below hbu.out b46
     have hB6:=Below.step hB.out b46
     have hs6:=Nat.lt_of_lt_of_le hs3.out b46.size
     have hwr:=write_any bb bb [] ⟨#[]⟩ w6 hbu6 (by decide) (Nat.le_of_lt hs6)
     replace hwr:=Hd hwr
     replace hB6:=Hd hB6
     clear hte b4 b5 b45 b6 b46 hbu6 hbu hB z0 z1 z2
     go_wp2_with fail
     refine hwr.out.mono ?_
     rintro e w7 ⟨rfl,hbu7,b7⟩
     have hB7:=hB6.out.trans (b7.mono hbb1.out)
     have hs7:=Nat.lt_of_lt_of_le hs6 b7.size
     replace hbu7:=Hd hbu7
     replace hB7:=Hd hB7
     clear b7 hwr
     go_wp2
     go_roundw
     case measure=>simp [intOf]
     case rel=>exact ⟨1,rfl,by decide,.inr hbu7.out,hB7.out,hs7⟩
    ·have hsr:=string_any bb bb [] wo2 hbu (Nat.le_of_lt hs3)
     replace hsr:=Hd hsr
     have hBf:=Below.step b1.out hB
     replace hBf:=Hd hBf
     clear hbu hB
     go_wp2_with fail
     refine hsr.out.mono ?_
     rintro e w4 ⟨rfl,b4⟩
     have hBe:=hBf.out.trans (b4.mono (by have:=hbb1.out; have:=hs1.out; omega))
     go_wp2
     exact bodyPost_ret (v:=.tuple #[.string noS,.nilIface]) (by simp [results,Tryz.results9,noS]) rfl ⟨_,_,rfl,hBe,rfl,rfl⟩
theorem awake27 (r:Nat→Addr) (w:World) (hg:Glob r w) (hG:GlobE w) (hT:Tabs w) (hM:MaxOk w) :
 Calls Tryz.prog 4 #[] w (Ret1 (fun x _=>x=.bool true) w):=by
 have hr:=run_script r w hg hG hT hM
 unfold awB outS at hr
 replace hr:=Hd hr
 go_enter Tryz.func4,Tryz.ntmps4
 go_wp2_with fail
 refine hr.out.mono ?_
 rintro e w1 ⟨x,y,rfl,b1,rfl,rfl⟩
 go_wp2
 go_ret
 exact ⟨_,rfl,b1,rfl⟩
theorem txt_space (n:Nat):txtW (List.replicate n (-16))=spaceB n:=by
 simp [txtW,dig8,strOfNums,spaceB]
theorem byteV_space (n:Nat):byteV (List.replicate n (-16))=List.replicate n (Value.int .u8 32):=by
 simp [byteV,dig8]
theorem conv_space (B n:Nat) (w:World) (v:Value) (h:OwnV 5 B w v (List.replicate n (.int .u8 32))) (h1:1≤n):(convert 34 9 v).run Tryz.prog w=.ok (.string (spaceB n)) w:=by
 have:=conv_bytes B w v (List.replicate n (-16)) (by rw [byteV_space]; exact h) (by simpa using h1)
 rw [txt_space] at this; exact this
theorem fill_step (n i:Nat) (h:i<n):(List.replicate i (Value.int .u8 32)++List.replicate (n-i) (Value.int .u8 0)).set i (.int .u8 32)=List.replicate (i+1) (.int .u8 32)++List.replicate (n-(i+1)) (.int .u8 0):=by
 obtain ⟨k,hk⟩:∃ k,n-i=k+1:=⟨n-i-1,by omega⟩
 rw [hk,show n-(i+1)=k by omega,List.set_append_right _ _ (by simp),List.length_replicate,Nat.sub_self,List.replicate_succ,List.set_cons_zero,List.replicate_succ',List.append_assoc]
 rfl
theorem mod_nine (a:Int):∃ m:Nat,m≤8∧(wrap64 (a.tmod 9+9)).tmod 9=(m:Int):=by
 have h1:=Int.tmod_lt_of_pos a (b:=9) (by decide)
 have h2:=Int.lt_tmod_of_pos a (b:=9) (by decide)
 rw [IntWalk.wrap64_in _ (by omega)]
 obtain ⟨x,hx⟩:∃ x,a.tmod 9+9=x:=⟨_,rfl⟩
 rw [hx]
 have h3:=Int.tmod_lt_of_pos x (b:=9) (by decide)
 have h4:=Int.tmod_nonneg 9 (a:=x) (by omega)
 exact ⟨(x.tmod 9).toNat,by omega,by omega⟩
theorem shellNil_any (r:Nat→Addr) (s:ByteArray) (long:Int) (w:World) (hg:Glob r w) (hG:GlobE w) (hT:Tabs w) (hM:MaxOk w) :
 Calls Tryz.prog 3 #[.string s,.int .i64 long] w (Ret1 (fun x _=>x=.bool true) w):=by
 have haw:=awake27 r w hg hG hT hM
 replace haw:=Hd haw
 replace hg:=Hd hg
 replace hG:=Hd hG
 replace hM:=Hd hM
 go_enter Tryz.func3,Tryz.ntmps3
 go_wp2_with fail
 refine haw.out.mono ?_
 rintro e w1 ⟨x,rfl,b1,rfl⟩
 have hdn:=do_nil r s w1 (hg.out.below b1)
 replace hdn:=Hd hdn
 go_wp2_with fail
 refine hdn.out.mono ?_
 rintro e w2 ⟨x,y,rfl,b2,rfl,he⟩
 obtain ⟨T2,a2,rfl⟩:=ErrIs.some_shape he
 unfold noS
 have hrn:=raw_new sShell 0 11 w2
 unfold sShell at hrn
 replace hrn:=Hd hrn
 have b12:=Below.step b1 b2
 go_wp2_with fail
 refine hrn.out.mono ?_
 rintro e w3 ⟨x,rfl,b3,hx⟩
 have hri:=raw_is r (fresh sShell 0 11) _ _ w3 (hg.out.below (Below.step b12 b3)) (hG.out.lowK (Below.step b12 b3)) (he.below b3) hx.at ⟨by decide,by decide,by decide⟩
 obtain ⟨e1,e2,e3,e4,e5,e6,rfl,-,-⟩:=hx
 replace hri:=Hd hri
 replace he:=Hd he
 go_wp2_with fail
 refine hri.out.mono ?_
 rintro e w4 ⟨x,rfl,b4,rfl⟩
 have b14:=Below.step (Below.step b12 b3) b4
 clear he hri hrn hdn haw b1 b2 b3 b4 b12
 go_upto_region 7 with fail
 go_upto_region 8 with fail
 obtain ⟨m,hm8,hmv⟩:=mod_nine long
 rw [hmv]
 obtain ⟨N,hN⟩:∃ N:Nat,8188+m=N:=⟨_,rfl⟩
 have hNl:8188≤N∧N≤8196:=by omega
 go_wp2_with (at_make; refine wpl_makeV oneBytes rfl _ _ rfl (N:Int) (by show Value.int .i64 (8188+(m:Int))=_; congr 1; omega) (by show Value.int .i64 (8188+(m:Int))=_; congr 1; omega) (by omega) (by omega) ?_)
 intro bv w5 ho g5
 have b5:Below w4.heap.size w4 w5:=(Below.refl _ _).grown g5 (Nat.le_refl _) (by intro k hk; cases hk)
 have eN:List.replicate N (Value.int .u8 0)=List.replicate 0 (.int .u8 32)++List.replicate (N-0) (.int .u8 0):=by simp
 rw [eN] at ho
 obtain ⟨bg,bc,rfl,hbg⟩:∃ g c,bv=.slice (some ⟨g,0,none⟩) N c∧w4.heap.size≤g:=by
  rcases ho.2 with ⟨_,hn⟩ | ⟨g,cap,cur,e,hb,hg,_⟩
  ·simp at hn; omega
  ·refine ⟨g,cap,?_,hb⟩
   rw [e]; simp
 have b15:=Below.step b14 b5
 have hs5:=b5.size
 have hbg0:w.heap.size≤bg:=Nat.le_trans b14.size hbg
 replace hs5:=Hd hs5
 replace hbg0:=Hd hbg0
 replace ho:=Hd ho
 replace b15:=Hd b15
 replace hN:=Hd hN
 clear g5 b5 b14 eN
 go_upto_region 10 with fail
 go_loopw [9] (fun iv wr=>∃ i:Nat,iv=.int .i64 i∧i≤N∧OwnV 5 w4.heap.size wr (.slice (some ⟨bg,0,none⟩) N bc) (List.replicate i (.int .u8 32)++List.replicate (N-i) (.int .u8 0))∧Below w.heap.size w wr∧w4.heap.size≤wr.heap.size) (fun iv _=>N-(intOf iv).toNat)
 case atStart=>exact ⟨0,rfl,Nat.zero_le _,ho.out,b15.out,hs5.out⟩
 case round =>
  clear ho b15
  obtain ⟨i,rfl,hi,hO,hB,hs⟩:=hrel
  obtain ⟨wo,rfl⟩:∃ wo:World,wo=wr:=⟨_,rfl⟩
  by_cases hil:i<N
  ·have di:decide ((i:Int)<(N:Int))=true:=decide_eq_true (by omega)
   have hk:i<(List.replicate i (Value.int .u8 32)++List.replicate (N-i) (Value.int .u8 0)).length:=by simp; omega
   have iS:=fun w'=>hO.at.idx oneBytes i hk w'
   obtain ⟨cS,eS⟩:∃ y,wo.cell? (valAt (.slice (some ⟨bg,0,none⟩) N bc) i)=some y:=⟨_,hO.at.cell _ hk⟩
   have fS:=hO.frz _ hk
   have hO2:=hO.set _ hk (.int .u8 32)
   rw [fill_step N i hil] at hO2
   rw [valAt_row] at iS eS fS hO2
   have hB2:=hB.setCell (p:=⟨bg,i,none⟩) hbg0.out (.int .u8 32)
   replace hO2:=Hd hO2
   replace hB2:=Hd hB2
   clear hO hB
   go_wp2_with fail
   go_roundw
   case measure=>simp [intOf]; omega
   case rel=>exact ⟨i+1,by go_num,by omega,hO2.out,hB2.out,by simpa using hs⟩
  ·obtain rfl:i=N:=by omega
   have di:decide ((i:Int)<(i:Int))=false:=decide_eq_false (by omega)
   rw [Nat.sub_self,List.replicate_zero,List.append_nil] at hO
   have hnw:=shnew_st wo
   replace hnw:=Hd hnw
   replace hO:=Hd hO
   replace hB:=Hd hB
   go_wp2_with fail
   refine hnw.out.mono ?_
   rintro e w6 ⟨x,rfl,b6,rfl,-,-⟩
   have hO6:=hO.out.below b6
   have hB6:=Below.step hB.out b6
   obtain ⟨gw,hgw⟩:∃ g,wo.heap.size=g:=⟨_,rfl⟩
   rw [hgw]
   have cv6:=conv_space _ i w6 _ hO6 (by omega)
   have g6:=hg.out.below hB6
   have G6:=hG.out.lowK hB6
   have M6:=hM.out.below hB6
   replace hO6:=Hd hO6
   replace hB6:=Hd hB6
   replace g6:=Hd g6
   replace G6:=Hd G6
   replace M6:=Hd M6
   have hsz:=spaceB_size i
   clear hO hB hnw b6
   by_cases h92:i≤8192
   ·have d18:decide ((8192:Int)<(i:Int))=false:=decide_eq_false (by omega)
    have hdo:=do_space gw i h92 w6
    obtain ⟨sb,hsb⟩:∃ s,spaceB i=s:=⟨_,rfl⟩
    rw [hsb] at cv6 hdo
    replace hdo:=Hd hdo
    go_wp2_with fail
    refine hdo.out.mono ?_
    rintro e w7 ⟨x,y,rfl,b7,rfl,rfl⟩
    have hO7:=hO6.out.below b7
    have hB7:=Below.step hB6.out b7
    have cv7:=conv_space _ i w7 _ hO7 (by omega)
    have hru:=run_space i h92 w7 (M6.out.below b7)
    rw [hsb] at cv7 hru
    replace hru:=Hd hru
    unfold noS at *
    replace hB7:=Hd hB7
    clear hO7 cv6 b7
    go_wp2_with fail
    refine hru.out.mono ?_
    rintro e w8 ⟨x,y,rfl,b8,rfl,rfl⟩
    have hB8:=Below.step hB7.out b8
    clear cv7
    go_wp2
    go_ret
    exact ⟨_,rfl,hB8,rfl⟩
   ·have d18:decide ((8192:Int)<(i:Int))=true:=decide_eq_true (by omega)
    have hdo:=do_long r gw (spaceB i) w6 g6.out (by rw [hsz]; omega)
    obtain ⟨sb,hsb⟩:∃ s,spaceB i=s:=⟨_,rfl⟩
    rw [hsb] at cv6 hdo
    replace hdo:=Hd hdo
    go_wp2_with fail
    refine hdo.out.mono ?_
    rintro e w7 ⟨x,y,rfl,b7,rfl,he7⟩
    have hO7:=hO6.out.below b7
    have hB7:=Below.step hB6.out b7
    have cv7:=conv_space _ i w7 _ hO7 (by omega)
    have hru:=run_long r (spaceB i) w7 (g6.out.below b7) (by rw [hsz]; omega)
    rw [hsb] at cv7 hru
    replace hru:=Hd hru
    obtain ⟨T7,a7,rfl⟩:=ErrIs.some_shape he7
    replace he7:=Hd he7
    unfold noS at *
    replace hB7:=Hd hB7
    clear hO7 cv6
    go_wp2_with fail
    refine hru.out.mono ?_
    rintro e w8 ⟨x,y,rfl,b8,rfl,he8⟩
    obtain ⟨T8,a8,rfl⟩:=ErrIs.some_shape he8
    have hB8:=Below.step hB7.out b8
    have g8:=(g6.out.below b7).below b8
    have G8:=(G6.out.lowK b7).lowK b8
    have e78:=he7.out.below b8
    have hrn:=fun w=>raw_new sShell 0 4 w
    unfold sShell at hrn
    replace hrn:=Hd hrn
    replace he8:=Hd he8
    replace e78:=Hd e78
    replace hB8:=Hd hB8
    replace g8:=Hd g8
    replace G8:=Hd G8
    clear cv7 he7 b7 b8
    go_wp2_with fail
    refine (hrn.out _).mono ?_
    rintro e w9 ⟨x,rfl,b9,hx⟩
    have hri:=raw_is r (fresh sShell 0 4) _ _ w9 (g8.out.below b9) (G8.out.lowK b9) (e78.out.below b9) hx.at ⟨by decide,by decide,by decide⟩
    obtain ⟨e1,e2,e3,e4,e5,e6,rfl,-,-⟩:=hx
    replace hri:=Hd hri
    go_wp2_with fail
    refine hri.out.mono ?_
    rintro e w10 ⟨x,rfl,b10,rfl⟩
    have b810:=Below.step b9 b10
    replace b810:=Hd b810
    clear hri b9 b10
    go_wp2_with fail
    refine (hrn.out _).mono ?_
    rintro e w11 ⟨x,rfl,b11,hx⟩
    have b811:=Below.step b810.out b11
    have hri:=raw_is r (fresh sShell 0 4) _ _ w11 (g8.out.below b811) (G8.out.lowK b811) (he8.out.below b811) hx.at ⟨by decide,by decide,by decide⟩
    obtain ⟨e1',e2',e3',e4',e5',e6',rfl,-,-⟩:=hx
    replace hri:=Hd hri
    replace b811:=Hd b811
    go_wp2_with fail
    refine hri.out.mono ?_
    rintro e w12 ⟨x,rfl,b12,rfl⟩
    have bE:=Below.step hB8.out (Below.step b811.out b12)
    go_wp2
    go_ret
    exact ⟨_,rfl,bE,rfl⟩
end Go.Proofs.YtindfaehjoileaaGreatDoor
namespace Go.Proofs.YtindfaehjoileaaGreatDoor
open Go.ChangeShapes Go.WideShapes Go.ChangeAt Go.RowKit Go.Joins
set_option maxRecDepth 100000
theorem own:ownKnob Tryz.prog.godebug=none:=by kernel_rfl
theorem uInt:Tryz.prog.underlying 3=some (.int .i64):=by kernel_rfl
theorem star : "*" ++ "errors.errorString" = "*errors.errorString" := by decide
theorem rowES (u : TypeId) (h : Tryz.prog.typeName? 3 u = some "*errors.errorString") : u = 417 :=
 typeName_ptr_named (nm := "errors.errorString") (by rw [star]; kernel_rfl) (by kernel_rfl) (by decide) u (by rw [star]; exact h)
theorem pES:Tryz.prog.underlying 417=some (.pointer 419):=by kernel_rfl
theorem cES:Tryz.prog.cellsOf 419=1:=by kernel_rfl
theorem cStr:Tryz.prog.cellsOf 9=1:=by kernel_rfl
def laid12 : List (String × DataW Unit) := [("eden/api.BadRule", Rows.laid_eden_api_BadRule), ("eden/api.BadWord", Rows.laid_eden_api_BadWord), ("eden/api.BadArg", Rows.laid_eden_api_BadArg), ("eden/api.TooBig", Rows.laid_eden_api_TooBig), ("eden/api.NoBudget", Rows.laid_eden_api_NoBudget), ("eden/api.BadText", Rows.laid_eden_api_BadText), ("eden/api.BadPatch", Rows.laid_eden_api_BadPatch), ("eden/api.BadCert", Rows.laid_eden_api_BadCert), ("eden/api.NoInverse", Rows.laid_eden_api_NoInverse), ("eden/api.BadLine", Rows.laid_eden_api_BadLine), ("eden/api.BadState", Rows.laid_eden_api_BadState), ("eden/api.Unknown", Rows.laid_eden_api_Unknown)]
theorem sentinel {n:String} {text:List UInt8} {r:List (String×DataW Unit)} {W:World} {g:Nat}
 (h : laidMet Tryz.prog ((n, .iface "*errors.errorString" (.ptr (.agg [.lit (.string text)]))) :: r) W)
 (hg:Tryz.prog.globalNamed n=some g) (ht:(Tryz.prog.globals[g]?).map (·.type)=some 25) :
 (∃ a:Addr,W.cell? ⟨g,0,none⟩=some (.iface 417 (.pointer (some a)))∧∃ s,W.cell? a=some (.string s)∧s.data.toList=text∧∃ c t,W.heap[a.block]?=some (.cells c t (0,0)))∧laidMet Tryz.prog r W:=by
 refine ⟨?_,h.tail⟩
 obtain ⟨ps,⟨g0,t0,cs0,f0,p0,q0,hg0,ht0,hv0,hd0,_,e0⟩,_,hrows⟩:=h
 obtain rfl:=Option.some.inj (hg.symm.trans hg0)
 obtain rfl:=Option.some.inj (ht.symm.trans ht0)
 subst e0
 obtain ⟨l0⟩:=cs0
 have ok0:∀ u v,l0=[.iface u v]→Value.okWide Tryz.prog W .any 0 u v:=fun u v e=>by
  subst e
  exact (hrows g 0 (by simp [MemPlace.row])).2 u v (by simpa using World.var?_cell hg hv0 0)
 obtain ⟨a0,s0,rfl,hc0,hs0,hz0,rfl⟩:=errorString_of_trod Tryz.underlying25 rowES pES Tryz.underlying419 rfl rfl Tryz.underlying9 cES cStr hd0 ok0
 exact ⟨a0,by simpa using World.var?_cell hg hv0 0,s0,hc0,hs0,(hrows a0.block a0.off (by simp [MemPlace.row])).1⟩
def txt:Nat→List UInt8
 | 1=>[98,97,100,32,114,117,108,101]
 | 2=>[98,97,100,32,119,111,114,100]
 | 3=>[98,97,100,32,97,114,103,117,109,101,110,116]
 | 4=>[116,111,111,32,98,105,103]
 | 5=>[110,111,32,98,117,100,103,101,116]
 | 6=>[98,97,100,32,116,101,120,116]
 | 7=>[98,97,100,32,112,97,116,99,104]
 | 8=>[98,97,100,32,99,101,114,116,105,102,105,99,97,116,101]
 | 9=>[110,111,32,105,110,118,101,114,115,101]
 | 10=>[98,97,100,32,108,105,110,101]
 | 11=>[98,97,100,32,115,116,97,116,101]
 | 99=>[117,110,107,110,111,119,110]
 | _=>[]
theorem txt_apart:∀ m n:Fin 12,1≤m.val→1≤n.val→txt m.val=txt n.val→m=n:=by decide
theorem glob_of_laidR {W:World} {l:List (String×DataW Unit)} (h:laidMet Tryz.prog (laid12++l) W):∃ r,Glob r W:=by
 obtain ⟨⟨a1,c1,s1,e1,t1,f1⟩,h⟩:=sentinel (text:=txt 1) h (g:=0) (by kernel_rfl) (by kernel_rfl)
 obtain ⟨⟨a2,c2,s2,e2,t2,f2⟩,h⟩:=sentinel (text:=txt 2) h (g:=1) (by kernel_rfl) (by kernel_rfl)
 obtain ⟨⟨a3,c3,s3,e3,t3,f3⟩,h⟩:=sentinel (text:=txt 3) h (g:=2) (by kernel_rfl) (by kernel_rfl)
 obtain ⟨⟨a4,c4,s4,e4,t4,f4⟩,h⟩:=sentinel (text:=txt 4) h (g:=3) (by kernel_rfl) (by kernel_rfl)
 obtain ⟨⟨a5,c5,s5,e5,t5,f5⟩,h⟩:=sentinel (text:=txt 5) h (g:=4) (by kernel_rfl) (by kernel_rfl)
 obtain ⟨⟨a6,c6,s6,e6,t6,f6⟩,h⟩:=sentinel (text:=txt 6) h (g:=5) (by kernel_rfl) (by kernel_rfl)
 obtain ⟨⟨a7,c7,s7,e7,t7,f7⟩,h⟩:=sentinel (text:=txt 7) h (g:=6) (by kernel_rfl) (by kernel_rfl)
 obtain ⟨⟨a8,c8,s8,e8,t8,f8⟩,h⟩:=sentinel (text:=txt 8) h (g:=7) (by kernel_rfl) (by kernel_rfl)
 obtain ⟨⟨a9,c9,s9,e9,t9,f9⟩,h⟩:=sentinel (text:=txt 9) h (g:=8) (by kernel_rfl) (by kernel_rfl)
 obtain ⟨⟨a10,c10,s10,e10,t10,f10⟩,h⟩:=sentinel (text:=txt 10) h (g:=9) (by kernel_rfl) (by kernel_rfl)
 obtain ⟨⟨a11,c11,s11,e11,t11,f11⟩,h⟩:=sentinel (text:=txt 11) h (g:=10) (by kernel_rfl) (by kernel_rfl)
 obtain ⟨⟨a99,c99,s99,e99,t99,f99⟩,h⟩:=sentinel (text:=txt 99) h (g:=11) (by kernel_rfl) (by kernel_rfl)
 clear h
 have key:∀ n:Nat,(1≤n∧n≤11)∨n=99→∃ s,W.cell? ((fun n:Nat=>match n with | 1=>a1 | 2=>a2 | 3=>a3 | 4=>a4 | 5=>a5 | 6=>a6 | 7=>a7 | 8=>a8 | 9=>a9 | 10=>a10 | 11=>a11 | _=>a99) n)=some (.string s)∧s.data.toList=txt n∧∃ c t,W.heap[((fun n:Nat=>match n with | 1=>a1 | 2=>a2 | 3=>a3 | 4=>a4 | 5=>a5 | 6=>a6 | 7=>a7 | 8=>a8 | 9=>a9 | 10=>a10 | 11=>a11 | _=>a99) n).block]?=some (.cells c t (0,0)):=by
  intro n hn
  have:n=1∨n=2∨n=3∨n=4∨n=5∨n=6∨n=7∨n=8∨n=9∨n=10∨n=11∨n=99:=by omega
  rcases this with rfl | rfl | rfl | rfl | rfl | rfl | rfl | rfl | rfl | rfl | rfl | rfl
  ·exact ⟨s1,e1,t1,f1⟩
  ·exact ⟨s2,e2,t2,f2⟩
  ·exact ⟨s3,e3,t3,f3⟩
  ·exact ⟨s4,e4,t4,f4⟩
  ·exact ⟨s5,e5,t5,f5⟩
  ·exact ⟨s6,e6,t6,f6⟩
  ·exact ⟨s7,e7,t7,f7⟩
  ·exact ⟨s8,e8,t8,f8⟩
  ·exact ⟨s9,e9,t9,f9⟩
  ·exact ⟨s10,e10,t10,f10⟩
  ·exact ⟨s11,e11,t11,f11⟩
  ·exact ⟨s99,e99,t99,f99⟩
 refine ⟨(fun n:Nat=>match n with | 1=>a1 | 2=>a2 | 3=>a3 | 4=>a4 | 5=>a5 | 6=>a6 | 7=>a7 | 8=>a8 | 9=>a9 | 10=>a10 | 11=>a11 | _=>a99),c1,c2,c3,c4,c5,c6,c7,c8,c9,c10,c11,c99,(fun n hn=>?_),fun m n hm1 hm2 hn1 hn2 he=>?_,fun n hn=>?_⟩
 ·obtain ⟨s,hs,_⟩:=key n hn
  exact ⟨s,hs⟩
 ·obtain ⟨s,hs,ts,_⟩:=key m.toNat (by omega)
  obtain ⟨s',hs',ts',_⟩:=key n.toNat (by omega)
  have hss:s=s':=by
   have:=hs.symm.trans ((congrArg W.cell? he).trans hs')
   simpa using this
  subst hss
  have:=txt_apart ⟨m.toNat,by omega⟩ ⟨n.toNat,by omega⟩ (by simp; omega) (by simp; omega) (ts.symm.trans ts')
  have:=congrArg Fin.val this
  simp at this
  omega
 ·obtain ⟨_,_,_,hf⟩:=key n hn
  exact hf
end Go.Proofs.YtindfaehjoileaaGreatDoor
namespace Go.Proofs.YtindfaehjoileaaGreatDoor
open Go.RowKit
set_option maxRecDepth 100000
theorem rtypeNo : (Tryz.prog.cutTypes.find? (·.1 == "internal/reflectlite.rtype")).map (·.2) = some 105 := by kernel_rfl
theorem errorTypeNo : Tryz.prog.globalNamed "errors.errorType" = some 12 := by kernel_rfl
theorem typesNo:Tryz.prog.types.size=592-100:=by kernel_rfl
theorem oneError:((List.range (592-100)).filter fun t=>Tryz.prog.rowNamed t [101,114,114,111,114])=[25]:=by kernel_rfl
theorem handleErr:typeHandle Tryz.prog 25=.pointer (some ⟨22,25,none⟩):=by kernel_rfl
noncomputable def doorP (os : Os) : World := (World.doorLaid Tryz.prog 400 os).layVars Tryz.prog [("unicode/utf8.first", Rows.laid_unicode_utf8_first)]
theorem doorP_os (os:Os):(doorP os).os=os:=World.layVars_os _ _ _
def laidS7 : List (String × DataW Unit) := [("unicode/utf8.first", Rows.laid_unicode_utf8_first), ("unicode/utf8.acceptRanges", Rows.laid_unicode_utf8_acceptRanges), ("internal/strconv.uint64pow10", Rows.laid_internal_strconv_uint64pow10), ("math/bits.deBruijn32tab", Rows.laid_math_bits_deBruijn32tab), ("math/bits.deBruijn64tab", Rows.laid_math_bits_deBruijn64tab), ("strconv.ErrSyntax", Rows.laid_strconv_ErrSyntax), ("strconv.ErrRange", Rows.laid_strconv_ErrRange)]
def laid20 : List (String × DataW Unit) := laid12 ++ [("unicode/utf8.first", Rows.laid_unicode_utf8_first), ("unicode/utf8.acceptRanges", Rows.laid_unicode_utf8_acceptRanges), ("errors.errorType", Rows.laid_errors_errorType), ("internal/strconv.uint64pow10", Rows.laid_internal_strconv_uint64pow10), ("math/bits.deBruijn32tab", Rows.laid_math_bits_deBruijn32tab), ("math/bits.deBruijn64tab", Rows.laid_math_bits_deBruijn64tab), ("strconv.ErrSyntax", Rows.laid_strconv_ErrSyntax), ("strconv.ErrRange", Rows.laid_strconv_ErrRange)]
theorem glob_of_laidS {W:World} (h:laidMetH Tryz.prog laid20 W):∃ r,Glob r W∧GlobE W∧Tabs W:=by
 have h' : laidMet Tryz.prog (laid12 ++ laidS7) W ∧ handlesMet Tryz.prog [("errors.errorType", Rows.laid_errors_errorType)] W := h
 have h14 : laidMet Tryz.prog (("internal/strconv.uint64pow10", Rows.laid_internal_strconv_uint64pow10) :: [("math/bits.deBruijn32tab", Rows.laid_math_bits_deBruijn32tab), ("math/bits.deBruijn64tab", Rows.laid_math_bits_deBruijn64tab), ("strconv.ErrSyntax", Rows.laid_strconv_ErrSyntax), ("strconv.ErrRange", Rows.laid_strconv_ErrRange)]) W := h'.1.tail.tail.tail.tail.tail.tail.tail.tail.tail.tail.tail.tail.tail.tail
 have hT:Tabs W:=Lib.tabIs_of_head (g:=19) (t:=421) (e:=97) (n:=20) (by kernel_rfl) (by kernel_rfl) (by kernel_rfl) (by kernel_rfl) (by kernel_rfl) (by kernel_rfl) h14
 obtain ⟨r,hg⟩:=glob_of_laidR h'.1
 refine ⟨r,hg,?_,hT⟩
 obtain ⟨name,u,ty,e1,e2,e3,e4,e5⟩:=h'.2 _ (List.mem_cons_self ..)
 have en:name=[101,114,114,111,114]:=(Option.some.inj e1).symm
 subst en
 obtain rfl:=Option.some.inj (rtypeNo.symm.trans e2)
 have hm:ty∈(List.range (592-100)).filter fun t=>Tryz.prog.rowNamed t [101,114,114,111,114]:=List.mem_filter.2 ⟨List.mem_range.2 (by rw [← typesNo]; exact e3),e4⟩
 rw [oneError] at hm
 obtain rfl:=List.mem_singleton.1 hm
 rw [handleErr] at e5
 simpa [GlobE] using World.var?_cell errorTypeNo e5 0
theorem returnsInHanded_of_change_and_shaped {H:Type} {enc:TypeId×Value→H} {a:Assume} {C:Checked} {os:Os} {f:FuncId} {fn:Func} {s:ChangeSpec} {conds:List PathCond} {apart fresh handsOn again:Bool} {X:World→Array Value→Prop}
 (hX:∀ (w w':World) (args:Array Value),w.heap=w'.heap→X w args→X w' args)
 (own:ownKnob C.prog.godebug=none) (started:os.Started) (noInit:C.prog.inits.idxOf? f=none) (hfn:C.prog.funcs[f]?=some fn)
 (witness:∃ (w:World) (tape:Tape) (i:Input),w.os=os∧(w.forCall tape i).Shaped C.prog∧i.vars=[]∧Input.okWide C.prog (w.forCall tape i) .any w.heap.size f i ∧
   ((s.pre enc C.prog fn conds apart (w.forCall tape i).memory i.args∧X (w.forCall tape i).memory i.args)∧sizedMet enc C.prog fn (OpenSpec.ofChange s) apart (w.forCall tape i).memory i.args)∧a.holds C.prog (lone (Frame.enter C.prog f i.args .normal) [] (w.forCall tape i)))
 (contract:∀ (W:World) (base:Nat) (args:Array Value) (ds gs:List (DataW H)) (before:List MemPlace),
   (∀ (j:Nat) t v,fn.params[j]?=some t→args[j]?=some v→Value.okWide C.prog W .any base t v) →
   DataW.Whole enc C.prog fn.params.toList s.vars apart W args.toList ds gs before →
   conds.all (PathCond.test C.prog ⟨fn.params.toList,ds,s.plain.varTypes C.prog,gs⟩)=true →
   (DataW.weightsEach C.prog (fn.params.toList++s.plain.varTypes C.prog) (ds++gs)).all (·≤reachBytes)=true→X W args →
   W.ShapedOpen C.prog →
   a.holds C.prog (lone (Frame.enter C.prog f args .normal) [] W) →
   Calls C.prog f args W fun e W'=>∃ v,e=.returned v∧s.post enc C.prog fn apart fresh handsOn again W args v W') :
 ReturnsInHanded a C os f .any (fun w args=>(s.pre enc C.prog fn conds apart w args∧X w args)∧sizedMet enc C.prog fn (OpenSpec.ofChange s) apart w args) (s.post enc C.prog fn apart fresh handsOn again):=by
 refine returnsInHanded_of_calls own started noInit witness ?_
 intro w tape i _ hsh _ hok hpre hholds
 obtain ⟨_,_,_,fn',hfn',_,_,_,_,hval⟩:=hok
 have e:fn'=fn:=Option.some.inj (hfn'.symm.trans hfn)
 subst e
 obtain ⟨⟨⟨ds,gs,before,hw,hc⟩,hx⟩,hz⟩:=hpre
 have hw':=DataW.Whole.of_heap (w':=w.forCall tape i) (by rfl) hw
 refine (contract (w.forCall tape i) w.heap.size i.args ds gs before hval hw' hc (hz.weights hw) (hX _ _ _ (by rfl) hx) hsh hholds).mono fun e W' ⟨v,he,hp⟩=>?_
 subst he
 exact ChangeSpec.post_blind hp
end Go.Proofs.YtindfaehjoileaaGreatDoor
