/-
  Proved: the law edentop.WholeLanguages as its tied card: it returns true and never panics, for any rule and number. No conditions beyond the cards own.
-/
import Derived.Test.YtkaoebokbfcmhaaGreatDoorMWl8
import Derived.Test.YtkaoebokbfcmhaaGreatDoorRows
import Derived.ProofKit
import Derived.OpenShut
import Derived.ShutString
import Derived.ChangeOld
import Derived.LaidMore
import Derived.Stop.Joined
import Derived.Stop.LaidErr
import Derived.Lib.SmallJoins
import Derived.LaidHandle
import Derived.Test.YtkaoebokbfcmhaaGreatDoorCards
import Derived.Test.YtkaoebokbfcmhaaGreatDoorTie
import Derived.SevenTiedAt
namespace Go.Proofs.YtkaoebokbfcmhaaGreatDoor
open Go.RowKit
set_option maxRecDepth 100000
theorem natV_short {l k:List Nat} (hl:Limbs l) (nk:Norm k) (h:l.length<k.length):natV l<natV k:=by
 have h1:=natV_lt hl
 have h2:=limbs_low nk (by intro e; rw [e] at h; simp at h)
 have h3:4294967296 ^ l.length≤4294967296 ^ (k.length-1):=Nat.pow_le_pow_right (by decide) (by omega)
 omega
theorem natV_at {l k:List Nat} {q:Nat} (hl:Limbs l) (hlen:l.length=k.length) (hq:q<l.length) (hd:l.drop (q+1)=k.drop (q+1)) (h:l.getD q 0<k.getD q 0):natV l<natV k:=by
 have hqk:q<k.length:=by omega
 have e1:l=l.take q++(l.getD q 0::l.drop (q+1)):=by
  have:l.getD q 0=l[q]:=by simp [List.getD,hq]
  rw [this,← List.drop_eq_getElem_cons hq,List.take_append_drop]
 have e2:k=k.take q++(k.getD q 0::k.drop (q+1)):=by
  have:k.getD q 0=k[q]:=by simp [List.getD,hqk]
  rw [this,← List.drop_eq_getElem_cons hqk,List.take_append_drop]
 have t1:=natV_lt (l:=l.take q) fun x hx=>hl x (List.mem_of_mem_take hx)
 have l1:(l.take q).length=q:=by simp; omega
 have l2:(k.take q).length=q:=by simp; omega
 have v1:=congrArg natV e1
 have v2:=congrArg natV e2
 rw [natV_append,l1] at v1
 rw [natV_append,l2,← hd] at v2
 rw [l1] at t1
 simp only [natV] at v1 v2
 rw [v1,v2]
 have h4:4294967296 ^ q*(l.getD q 0+4294967296*natV (l.drop (q+1))+1)≤4294967296 ^ q*(k.getD q 0+4294967296*natV (l.drop (q+1))):=Nat.mul_le_mul_left _ (by omega)
 rw [Nat.mul_add,Nat.mul_one] at h4
 omega
def cmpN (a b:Nat):Int:=if a<b then -1 else if b<a then 1 else 0
theorem cmp_any (v u:Value) (a b:Nat) (w:World) (h:NumAt w v a) (k:NumAt w u b) :
 Calls Tryz.prog 18 #[v,u] w (Ret1 (fun x _=>x=.int .i64 (cmpN a b)) w):=by
 obtain ⟨l,h1,h2,h3,rfl⟩:=h
 obtain ⟨m,k1,k2,k3,rfl⟩:=k
 obtain ⟨va,vn,vc,rfl⟩:=h1.shape
 obtain ⟨ua,un,uc,rfl⟩:=k1.shape
 have n1:=norm_any _ l w h1
 have n2:=norm_any _ m w k1
 replace n1:=Hd n1
 replace n2:=Hd n2
 replace h1:=Hd h1
 replace k1:=Hd k1
 replace h2:=Hd h2
 replace k2:=Hd k2
 replace h3:=Hd h3
 replace k3:=Hd k3
 go_enter Tryz.func18,Tryz.ntmps18
 go_wp2_with fail
 refine n1.out.mono ?_
 rintro e w1 ⟨p,hp,rfl,np,ep,rfl⟩
 have c1:=h1.out.cut hp
 have hlp:l.take p=l:=norm_unique (fun x hx=>h2.out x (List.mem_of_mem_take hx)) h2.out np h3.out ep
 rw [hlp] at c1
 replace c1:=Hd c1
 clear hlp np ep
 go_wp2_with fail
 refine n2.out.mono ?_
 rintro e w1 ⟨p2,hp2,rfl,np,ep,rfl⟩
 have c2:=k1.out.cut hp2
 have hmp:m.take p2=m:=norm_unique (fun x hx=>k2.out x (List.mem_of_mem_take hx)) k2.out np k3.out ep
 rw [hmp] at c2
 replace c2:=Hd c2
 clear hmp np ep
 obtain ⟨V,hV⟩:∃ V,cutAt (.slice va vn vc) p=V:=⟨_,rfl⟩
 obtain ⟨U,hU⟩:∃ U,cutAt (.slice ua un uc) p2=U:=⟨_,rfl⟩
 rw [hV] at c1
 rw [hU] at c2
 rw [hV,hU]
 clear hV hU hp hp2 n1 n2 h1 k1
 obtain ⟨a1,a2,a3,rfl⟩:=c1.out.shape
 obtain ⟨b1,b2,b3,rfl⟩:=c2.out.shape
 have l1:=fun w=>c1.out.len w
 have l2:=fun w=>c2.out.len w
 have lb1:=c1.out.len_le
 have lb2:=c2.out.len_le
 have vs1:l.length<m.length→natV l<natV m:=natV_short h2.out k3.out
 have vs2:m.length<l.length→natV m<natV l:=natV_short k2.out h3.out
 replace vs1:=Hd vs1
 replace vs2:=Hd vs2
 by_cases hc:l.length=m.length
 ·have d1:((l.length:Int) != (m.length:Int))=false:=by rw [bne_eq_false_iff_eq]; omega
  replace hc:=Hd hc
  go_wp2_with fail
  go_loopw [5] (fun iv wr=>(∃ p:Nat,p≤l.length∧iv=.int .i64 ((p:Int)-1)∧l.drop p=m.drop p)∧∃ n,wr=w.drewN n) (fun iv _=>(intOf iv+1).toNat)
  case atStart=>exact ⟨⟨l.length,Nat.le_refl _,rfl,by rw [List.drop_length,hc.out,List.drop_length]⟩,0,rfl⟩
  case round =>
   obtain ⟨⟨p,hp,rfl,hd⟩,n,rfl⟩:=hrel
   by_cases hp0:p=0
   ·subst hp0
    have ei:((0:Nat):Int)-1=-1:=by omega
    rw [ei]
    have e:cmpN (natV l) (natV m)=0:=by
     rw [List.drop_zero,List.drop_zero] at hd
     unfold cmpN
     rw [hd,if_neg (Nat.lt_irrefl _),if_neg (Nat.lt_irrefl _)]
    replace e:=Hd e
    replace hd:=Hd hd
    have bE:=below_drewN (Below.refl w.heap.size w) n
    go_wp2
    go_ret
    exact ⟨_,rfl,bE,congrArg (Value.int .i64) e.out.symm⟩
   ·obtain ⟨q,rfl⟩:∃ q,p=q+1:=⟨p-1,by omega⟩
    have ei:((q+1:Nat):Int)-1=(q:Int):=by omega
    rw [ei]
    clear ei
    have hq:q<l.length:=by omega
    have hq2:q<m.length:=by rw [← hc.out]; exact hq
    have i1:=fun w'=>c1.out.idx q hq w'
    have i2:=fun w'=>c2.out.idx q hq2 w'
    have x1:=c1.out.cell q hq
    have x2:=c2.out.cell q hq2
    have at1:l.getD q 0<m.getD q 0→natV l<natV m:=natV_at h2.out hc.out hq hd
    have at2:m.getD q 0<l.getD q 0→natV m<natV l:=natV_at k2.out hc.out.symm hq2 hd.symm
    have hnx:l.getD q 0=m.getD q 0→l.drop q=m.drop q:=fun e=>by
     rw [List.drop_eq_getElem_cons hq,List.drop_eq_getElem_cons hq2,hd]
     congr 1
     simpa [List.getD,hq,hq2] using e
    obtain ⟨x,hx⟩:∃ x,l.getD q 0=x:=⟨_,rfl⟩
    obtain ⟨y,hy⟩:∃ y,m.getD q 0=y:=⟨_,rfl⟩
    rw [hx] at x1
    rw [hy] at x2
    rw [hx,hy] at at1 at2 hnx
    obtain ⟨ad1,ha1⟩:∃ a,valAt (.slice a1 a2 a3) q=a:=⟨_,rfl⟩
    obtain ⟨ad2,ha2⟩:∃ a,valAt (.slice b1 b2 b3) q=a:=⟨_,rfl⟩
    rw [ha1] at i1 x1
    rw [ha2] at i2 x2
    replace at1:=Hd at1
    replace at2:=Hd at2
    replace hnx:=Hd hnx
    clear hx hy ha1 ha2 hd hp
    rcases Nat.lt_trichotomy x y with hlt | heq | hgt
    ·have f1:decide (x<y)=true:=decide_eq_true (by omega)
     have e:cmpN (natV l) (natV m)=-1:=if_pos (at1.out hlt)
     replace e:=Hd e
     go_wp2
     go_quiet (fail)
     go_wp2
     go_ret
     exact ⟨_,rfl,below_drewN (below_drewN (Below.refl _ _) _) _,congrArg (Value.int .i64) e.out.symm⟩
    ·have f1:decide (x<y)=false:=decide_eq_false (by omega)
     have f2:decide (y<x)=false:=decide_eq_false (by omega)
     have e:=Hd (hnx.out heq)
     replace heq:=Hd heq
     go_wp2
     go_quiet (fail)
     go_wp2
     go_quiet (fail)
     go_wp2
     go_roundw
     case rel=>exact ⟨⟨q,by omega,by go_num,e.out⟩,_,rfl⟩
     case measure=>simp [intOf]
    ·have f1:decide (x<y)=false:=decide_eq_false (by omega)
     have f2:decide (y<x)=true:=decide_eq_true (by omega)
     have hab:=at2.out hgt
     have e:cmpN (natV l) (natV m)=1:=by
      unfold cmpN
      rw [if_neg (by omega),if_pos hab]
     clear hab
     replace e:=Hd e
     go_wp2
     go_quiet (fail)
     go_wp2
     go_quiet (fail)
     go_wp2
     go_ret
     exact ⟨_,rfl,below_drewN (below_drewN (below_drewN (Below.refl _ _) _) _) _,congrArg (Value.int .i64) e.out.symm⟩
 ·have d1:((l.length:Int) != (m.length:Int))=true:=by rw [bne_iff_ne]; omega
  by_cases hs:l.length<m.length
  ·have f1:decide ((l.length:Int)<(m.length:Int))=true:=decide_eq_true (by omega)
   have e:cmpN (natV l) (natV m)=-1:=if_pos (vs1.out hs)
   replace e:=Hd e
   go_wp2
   go_ret
   exact ⟨_,rfl,Below.refl _ _,congrArg (Value.int .i64) e.out.symm⟩
  ·have f1:decide ((l.length:Int)<(m.length:Int))=false:=decide_eq_false (by omega)
   have hab:=vs2.out (by omega)
   have e:cmpN (natV l) (natV m)=1:=by
    unfold cmpN
    rw [if_neg (by omega),if_pos hab]
   clear hab
   replace e:=Hd e
   go_wp2
   go_ret
   exact ⟨_,rfl,Below.refl _ _,congrArg (Value.int .i64) e.out.symm⟩
set_option maxHeartbeats 8000000
theorem sixN (n:Int):∃ (c1:Int) (c2 m:Nat),n.tmod 6=c1∧-6≤c1∧c1≤6∧c1+6=(c2:Int)∧c2≤12∧(c2:Int).tmod 6=(m:Int)∧m<6:=by
 obtain ⟨c1,c2,m,e1,e2,e3,e4,e5,e6,e7,_⟩:=ring_mod (a:=n) (n:=6) (by decide)
 exact ⟨c1,c2,m,e1,e4,e5,e2,e3,by rw [Int.tmod_eq_emod_of_nonneg (by omega)]; omega,e7⟩
theorem wordC_up {xs ys:List Int} (hl:xs.length=ys.length) (h:lexI xs ys=-1):wordC xs ys=-1:=by
 unfold wordC cmpI
 rw [hl,if_neg (Int.lt_irrefl _),if_neg (Int.lt_irrefl _),h]; rfl
theorem wordC_longer {xs ys:List Int} (hl:xs.length<ys.length):wordC xs ys=-1:=by
 unfold wordC cmpI
 rw [if_pos (by omega)]; rfl
theorem digs_end {K n x:Nat} (hK:1≤K) (h:x+1=pw K n):digs K n x=List.replicate n ((K:Int)-1):=by
 have hs:Syms K (List.replicate n ((K:Int)-1)):=fun y hy=>by
  have:=List.eq_of_mem_replicate hy
  omega
 have e:=digs_numW hK _ hs
 have h2:=numW_rep_max hK n
 rw [List.length_replicate] at e
 rw [← e]
 congr 1
 omega
theorem wholeLanguages_bad (r:Nat→Addr) (k R:Int) (va:Option Addr) (vn vc:Nat) (T:List Int) (s:Int) (t:Int×List (ByteArray×Int)) (w:World) (hg:Glob r w) (hG:GlobE w) (h:IntsAt w (.slice va vn vc) T) (hc:smallP k R T=some t) :
 Calls Tryz.prog 5 #[.agg #[.int .i64 k,.int .i64 R,.slice va vn vc],.int .i64 s] w (Ret1 (fun x _=>x=.bool true) w):=by
 have b0:=belowAlloc w (.cells #[.int .i64 k,.int .i64 R,.slice va vn vc] 24)
 have q:Box3 (w.alloc (.cells #[.int .i64 k,.int .i64 R,.slice va vn vc] 24)) w.heap.size (.int .i64 k) (.int .i64 R) (.slice va vn vc):=by simp [Box3,go_sem]
 obtain ⟨w0,hw0⟩:∃ W:World,w.alloc (.cells #[.int .i64 k,.int .i64 R,.slice va vn vc] 24)=W:=⟨_,rfl⟩
 rw [hw0] at b0 q
 obtain ⟨c1,c2,m,e1,e2,e3,e4,e5,e6,e7⟩:=sixN s
 replace hg:=Hd (hg.below b0)
 replace hG:=Hd (hG.below b0)
 replace h:=Hd (h.below b0)
 replace hc:=Hd hc
 replace q:=Hd q
 replace hw0:=Hd hw0
 go_enter Tryz.func5,Tryz.ntmps5
 go_upto_region 1 with fail
 rw [hw0.out]
 go_wp2_with fail
 refine (counts_any r _ hg.out hG.out).mono ?_
 rintro e w1 ⟨_,rfl,b1,rfl⟩
 obtain ⟨⟨z0,z1,z2⟩,-,-,-⟩:=q.out.below b1
 have hwd:=img_words_bad r k R va vn vc T (m:Int) t w1 (hg.out.below b1) (hG.out.below b1) (h.out.below b1) hc.out
 replace hwd:=Hd hwd
 go_wp2_with fail
 refine hwd.out.mono ?_
 rintro e w2 ⟨_,_,rfl,b2,⟨T1,p1,rfl⟩,rfl⟩
 have c12:=Below.step b1 b2
 obtain ⟨⟨y0,y1,y2⟩,-,-,-⟩:=q.out.below c12
 have hls:=least_bad r k R va vn vc T t w2 (hg.out.below c12) (hG.out.below c12) (h.out.below c12) hc.out
 replace hls:=Hd hls
 clear z0 z1 z2 hwd
 go_wp2_with fail
 refine hls.out.mono ?_
 rintro e w3 ⟨_,y,rfl,b3,rfl,hy⟩
 obtain ⟨T2,p2,rfl⟩:∃ T a,y=.iface T (.pointer (some a)):=by
  unfold under at hy
  exact hy.some_shape
 have bE:=Below.step b0 (Below.step c12 (Below.step b3 (belowAlloc w3 (.cells #[.int .i64 0,.slice none 0 0] 54))))
 replace bE:=Hd bE
 clear hls hy y0 y1 y2 b3 b2 b1 c12
 go_wp2
 go_ret
 exact ⟨_,rfl,bE.out,rfl⟩
theorem wholeLanguages_ok (r:Nat→Addr) (K R:Nat) (va:Option Addr) (vn vc:Nat) (T:List Int) (s:Int) (w:World) (hg:Glob r w) (hG:GlobE w) (h:IntsAt w (.slice va vn vc) T) (hr:RuleOk K R T) (hl:T.length≤256) :
 Calls Tryz.prog 5 #[.agg #[.int .i64 K,.int .i64 R,.slice va vn vc],.int .i64 s] w (Ret1 (fun x _=>x=.bool true) w):=by
 have b0:=belowAlloc w (.cells #[.int .i64 K,.int .i64 R,.slice va vn vc] 24)
 have q:Box3 (w.alloc (.cells #[.int .i64 K,.int .i64 R,.slice va vn vc] 24)) w.heap.size (.int .i64 K) (.int .i64 R) (.slice va vn vc):=by simp [Box3,go_sem]
 obtain ⟨w0,hw0⟩:∃ W:World,w.alloc (.cells #[.int .i64 K,.int .i64 R,.slice va vn vc] 24)=W:=⟨_,rfl⟩
 rw [hw0] at b0 q
 obtain ⟨c1,c2,m,e1,e2,e3,e4,e5,e6,e7⟩:=sixN s
 have hk1:=hr.k1
 have hk4:=hr.k4
 replace hg:=Hd (hg.below b0)
 replace hG:=Hd (hG.below b0)
 replace h:=Hd (h.below b0)
 replace hr:=Hd hr
 replace q:=Hd q
 replace hw0:=Hd hw0
 go_enter Tryz.func5,Tryz.ntmps5
 go_upto_region 1 with fail
 rw [hw0.out]
 go_wp2_with fail
 refine (counts_any r _ hg.out hG.out).mono ?_
 rintro e w1 ⟨_,rfl,b1,rfl⟩
 obtain ⟨⟨z0,z1,z2⟩,-,-,-⟩:=q.out.below b1
 have hwd:=img_words r K R m va vn vc T w1 (hg.out.below b1) (hG.out.below b1) (h.out.below b1) hr.out hl (by omega)
 replace hwd:=Hd hwd
 go_wp2_with fail
 refine hwd.out.mono ?_
 rintro e w2 ⟨xv,yv1,rfl,b2,hwp⟩
 have c12:=Below.step b1 b2
 obtain ⟨⟨y0,y1,y2⟩,-,-,-⟩:=q.out.below c12
 have hls:=img_Least r K R va vn vc T w2 (hg.out.below c12) (hG.out.below c12) (h.out.below c12) hr.out hl
 replace hls:=Hd hls
 replace hwp:=Hd hwp
 clear z0 z1 z2 hwd
 go_wp2_with fail
 refine hls.out.mono ?_
 rintro e w3 ⟨lv,yv2,rfl,b3,hlp⟩
 have c13:=Below.step c12 b3
 clear y0 y1 y2 hls
 by_cases hbig:IsBig K R T
 ·obtain ⟨⟨T1,p1,rfl⟩,rfl⟩:=hwp.out.1 hbig
  obtain ⟨⟨T2,p2,rfl⟩,rfl⟩:=hlp.1 hbig
  have bE:=Below.step b0 (Below.step c13 (belowAlloc w3 (.cells #[.int .i64 0,.slice none 0 0] 54)))
  replace bE:=Hd bE
  replace hlp:=Hd hlp
  replace hbig:=Hd hbig
  clear c12 c13 b1 b2 b3
  go_wp2
  go_ret
  exact ⟨_,rfl,bE.out,rfl⟩
 ·obtain ⟨rfl,M1,Y1,hL1,hN1⟩:=hwp.out.2 hbig
  obtain ⟨rfl,M,Y,yv,rfl,hYf,hL⟩:=hlp.2 hbig
  have hY:=hYf.lists
  have hYl:=hL.ok.len
  have hM:=hL.le
  have hM1:=hL.ok.n1
  have hsums:=inC_all (n:=m) hk1 hL hL1
  obtain ⟨ya,yc,rfl⟩:=hY.shape
  have lY:=fun ty w'=>hY.len ty w'
  rw [hYl] at hY lY
  rw [hYl]
  have bl:=belowAlloc w3 (.cells #[.int .i64 K,.slice ya M yc] 54)
  have qa:Box2 (w3.alloc (.cells #[.int .i64 K,.slice ya M yc] 54)) w3.heap.size (.int .i64 K) (.slice ya M yc):=by simp [Box2,go_sem]
  obtain ⟨w4,hw4⟩:∃ W:World,w3.alloc (.cells #[.int .i64 K,.slice ya M yc] 54)=W:=⟨_,rfl⟩
  obtain ⟨ab,hab⟩:∃ ab,w3.heap.size=ab:=⟨_,rfl⟩
  rw [hw4] at bl qa
  rw [hab] at qa
  have c14:=Below.step c13 bl
  have b04:=Below.step b0 c14
  obtain ⟨xa,xn,xc,rfl⟩:=hN1.shape
  obtain ⟨⟨u0,u1⟩,g0,g1⟩:=qa
  have qa:Box2 w4 ab (.int .i64 K) (.slice ya M yc):=⟨⟨u0,u1⟩,g0,g1⟩
  obtain ⟨⟨z0,z1,z2⟩,-,-,-⟩:=q.out.below c14
  have hN4:=hN1.below (Below.step b3 bl)
  replace q:=Hd (q.out.below c14)
  replace hg:=Hd (hg.out.below c14)
  replace h:=Hd (h.out.below c14)
  replace hY:=Hd (hY.below bl)
  replace hN4:=Hd hN4
  replace qa:=Hd qa
  replace hL:=Hd hL
  replace hL1:=Hd hL1
  replace hYf:=Hd hYf
  replace hYl:=Hd hYl
  replace hN1:=Hd hN1
  replace hsums:=Hd hsums
  replace hlp:=Hd hlp
  replace hbig:=Hd hbig
  replace hw4:=Hd hw4
  replace hab:=Hd hab
  replace b04:=Hd b04
  have nM:((M:Int)==0)=false:=by rw [beq_eq_false_iff_ne]; omega
  clear c12 c13 b1 b2 b3 bl c14 hwp
  go_upto_region 6 with fail
  rw [hw4.out,hab.out]
  by_cases hfour:K=4∧4<m
  ·have d4:((K:Int)==4)=true:=by rw [beq_iff_eq]; omega
   have d5:decide ((m:Int)>4)=true:=decide_eq_true (by omega)
   have d6:4<m:=hfour.2
   replace hfour:=Hd hfour
   go_wp2
   go_ret
   exact ⟨_,rfl,b04.out,rfl⟩
  ·go_cut [43] from 33 (fun s43 wx=>s43=.bool false∧wx=w4)
   case first =>
    by_cases hK4:K=4
    ·have d4:((K:Int)==4)=true:=by rw [beq_iff_eq]; omega
     have d5:decide ((m:Int)>4)=false:=decide_eq_false (by omega)
     have d6:¬ 4<m:=by omega
     replace hK4:=Hd hK4
     go_wp2
     go_meet
     case rel=>exact ⟨rfl,rfl⟩
    ·have d4:((K:Int)==4)=false:=by rw [beq_eq_false_iff_ne]; omega
     replace hK4:=Hd hK4
     go_wp2
     go_meet
     case rel=>exact ⟨rfl,rfl⟩
   case rest =>
    obtain ⟨rfl,rfl⟩:=hcut
    obtain ⟨w4,rfl⟩:∃ W:World,W=wc:=⟨_,rfl⟩
    go_wp2_with (at_make; refine wpl_make rfl _ _ rfl _ rfl rfl (by omega) (by omega) ?_)
    intro wv w5 ho5 b5
    rw [← digs_zero K] at ho5
    obtain ⟨wa,wn,wc,rfl⟩:=ho5.at.shape
    have hpos:=pw_pos (K:=K) m hk1
    have hst:=ho5.at
    replace hst:=Hd hst
    clear ho5 z0 z1 z2 u0 u1 g0 g1
    go_wp2
    go_loopg [9,10] (pw K m) (fun k hv wv wr=>∃ (x:Nat) (ww:Value),k+x=pw K m∧ww=wv∧hv=.int .u64 (inC Y K m x:Nat)∧(x<pw K m→IntsAt wr ww (digs K m x))∧(x=pw K m→IntsAt wr ww (List.replicate (m+1) 0))∧Below w4.heap.size w4 wr)
    case atStart=>exact ⟨0,_,rfl,rfl,rfl,fun _=>hst.out,fun q=>by omega,b5⟩
    case round =>
     clear hst b5
     obtain ⟨x,ww,hkx,rfl,rfl,hlt,hend,hB⟩:=hrel
     obtain ⟨wo,rfl⟩:∃ wo:World,wo=wr:=⟨_,rfl⟩
     obtain ⟨k,rfl⟩:∃ k:Nat,k=gk:=⟨_,rfl⟩
     have hin1:=inC_le Y K m x
     have hp8:=(words_small (K:=K) (n:=m) (M:=1) hk4 (by omega) (by omega)).1
     by_cases hx:x<pw K m
     ·have hW:=hlt hx
      have lW:=fun w=>hW.len w
      rw [digs_length] at lW
      have hsy:=digs_syms hk1 m x
      obtain ⟨wa,wn,wc,rfl⟩:=hW.shape
      obtain ⟨⟨z0,z1,z2⟩,-,-,-⟩:=q.out.below hB
      obtain ⟨⟨u0,u1⟩,-,-⟩:=qa.out.below hB
      have hsp:symP K (digs K m x) 256=none:=symP_ok hsy (by rw [digs_length]; omega)
      have hcw:=count_Words_any r K R va vn vc T _ (digs K m x) wo (hg.out.below hB) (h.out.below hB) hW hr.out hl
      rw [hsp] at hcw
      have hpre:=preN_has (R:=R) (T:=T) (ws:=digs K m x) hk1
      have hlg:=hL.out.pre _ hsy
      have hsuc:=inC_succ Y K m x
      have hlast:=fun e=>digs_last (n:=m) hk1 hx e
      have hup:=fun (h1:x+1<pw K m) u a j e e2=>digs_up (K:=K) (n:=m) hk1 h1 u a j e e2
      have hnw:=fun u a j e e2=>next_word (K:=K) (n:=m) hk1 hx u a j e e2
      replace hcw:=Hd hcw
      replace hW:=Hd hW
      replace hlt:=Hd hlt
      replace hend:=Hd hend
      replace hsy:=Hd hsy
      replace hkx:=Hd hkx
      replace hsp:=Hd hsp
      replace hpre:=Hd hpre
      replace hlg:=Hd hlg
      replace hsuc:=Hd hsuc
      replace hlast:=Hd hlast
      replace hup:=Hd hup
      replace hnw:=Hd hnw
      go_wp2_with fail
      refine hcw.out.mono ?_
      rintro e w6 ⟨cv,cy,rfl,b6,hcy,hcN,-⟩
      obtain rfl:=hcy.none_eq
      have hN6:=hcN trivial
      obtain ⟨ca,cn,cc,rfl⟩:=hN6.shape
      have hz:=num_zero hN6
      have c6:=hB.trans (b6.mono hB.size)
      obtain ⟨⟨z0,z1,z2⟩,-,-,-⟩:=q.out.below c6
      have hnx:=word_nextS K _ _ w6 (hW.out.below b6) hk1 hk4 hsy.out (by rw [digs_length]; omega)
      replace hN6:=Hd hN6
      replace hz:=Hd hz
      replace hnx:=Hd hnx
      clear hcw hcy hcN u0 u1
      go_wp2_with fail
      refine hnx.out.mono ?_
      rintro e w7 ⟨nv,ny,rfl,b7,rfl,zs,hzo,hzs⟩
      obtain ⟨na,nn,nc,rfl⟩:=hzo.at.shape
      have c7:=c6.trans (b7.mono c6.size)
      have b67:=Below.step b6 b7
      obtain ⟨⟨u0,u1⟩,-,-⟩:=qa.out.below c7
      have hrn:=runs_any _ _ Y _ w7 (hY.out.below c7) hL.out.ok (hW.out.below b67) hsy.out (by rw [digs_length]; omega)
      replace hrn:=Hd hrn
      replace hzs:=Hd hzs
      replace hzo:=Hd hzo
      clear hnx z0 z1 z2
      go_wp2_with fail
      refine hrn.out.mono ?_
      rintro e w8 ⟨_,rfl,b8,rfl⟩
      have c8:=c7.trans (b8.mono c7.size)
      have b68:=Below.step b67 b8
      have hwc:=wordCmp_any _ _ (digs K m x) zs w8 (hW.out.below b68) (hzo.out.at.below b8)
      have hC:wordC (digs K m x) zs=-1∧(x+1<pw K m→zs=digs K m (x+1))∧(x+1=pw K m→zs=List.replicate (m+1) 0):=by
       rcases hzs.out with ⟨u,a,j,e1,e2,rfl⟩ | ⟨e1,rfl⟩
       ·have e3:=hnw.out u a j e1 e2
        refine ⟨wordC_up ?_ ?_,fun _=>e3.symm,fun q=>?_⟩
        ·have l1:=congrArg List.length e1
         have l2:=congrArg List.length e3
         rw [digs_length] at l2
         rw [digs_length,l2]
        ·rw [e1]; exact lexI_up u (by omega) _ _
        ·exfalso
         have e4:digs K m x=List.replicate m ((K:Int)-1):=digs_end hk1 q
         rw [e4] at e1
         have:a∈List.replicate m ((K:Int)-1):=by rw [e1]; simp
         have:=List.eq_of_mem_replicate this
         omega
       ·rw [digs_length] at e1 ⊢
        have e3:=hlast.out e1
        refine ⟨wordC_longer (by rw [digs_length,List.length_replicate]; omega),fun q=>by omega,fun _=>rfl⟩
      rw [hC.1] at hwc
      have hnext:∀ W:World,Below w8.heap.size w8 W→(x+1<pw K m→IntsAt W (.slice na nn nc) (digs K m (x+1)))∧(x+1=pw K m→IntsAt W (.slice na nn nc) (List.replicate (m+1) 0)):=fun W hb=>by
       have h9:=(hzo.out.at.below b8).below hb
       exact ⟨fun q=>by rw [← hC.2.1 q]; exact h9,fun q=>by rw [← hC.2.2 q]; exact h9⟩
      obtain ⟨c,hc⟩:∃ c,inC Y K m x=c:=⟨_,rfl⟩
      have hsuc2:=hsuc.out
      rw [hc] at hin1 hsuc2
      rw [hc]
      have hcb:c≤65536:=by omega
      have hwu:IntKind.u64.wrap ((c:Int)+1)=(c:Int)+1:=by rw [IntKind.wrap_u64]; omega
      have hk0:1≤k:=by have:=hkx.out; omega
      replace hwc:=Hd hwc
      replace hnext:=Hd hnext
      replace hC:=Hd hC
      replace hc:=Hd hc
      clear hrn b67 b68 b6 b7 c6 c7 u0 u1
      by_cases hhas:0≤runA Y (digs K m x)
      ·have hcn:0<cn:=by
        have h1:=hpre.out.2 (hlg.out.1 hhas)
        have h2:=hz.out
        omega
       have dcn:decide ((cn:Int)>0)=true:=decide_eq_true (by omega)
       rw [if_pos hhas] at hsuc2
       rw [decide_eq_true hhas]
       replace hhas:=Hd hhas
       replace hsuc2:=Hd hsuc2
       go_wp2_with fail
       refine hwc.out.mono ?_
       rintro e w9 ⟨_,rfl,b9,rfl⟩
       have hn9:=hnext.out w9 b9
       have c9:=c8.trans (b9.mono c8.size)
       replace hn9:=Hd hn9
       clear b9 hwc
       go_wp2
       go_roundg (k-1)
       case measure=>omega
       case rel=>exact ⟨x+1,_,by have:=hkx.out; omega,rfl,by rw [hsuc2.out]; rfl,hn9.out.1,hn9.out.2,c9⟩
      ·have hcn:cn=0:=by
        have h1:¬ 0<preN K R T (digs K m x):=fun q=>hhas (hlg.out.2 (hpre.out.1 q))
        have h2:=hz.out
        omega
       subst hcn
       rw [if_neg hhas,Nat.add_zero] at hsuc2
       rw [decide_eq_false hhas]
       replace hhas:=Hd hhas
       replace hsuc2:=Hd hsuc2
       replace hz:=Hd hz
       go_wp2_with fail
       refine hwc.out.mono ?_
       rintro e w9 ⟨_,rfl,b9,rfl⟩
       have hn9:=hnext.out w9 b9
       have c9:=c8.trans (b9.mono c8.size)
       replace hn9:=Hd hn9
       clear b9 hwc
       go_wp2
       go_roundg (k-1)
       case measure=>omega
       case rel=>exact ⟨x+1,_,by have:=hkx.out; omega,rfl,by rw [hsuc2.out]; rfl,hn9.out.1,hn9.out.2,c9⟩
     ·have hxe:x=pw K m:=by omega
      have hW:=hend hxe
      have lW:=fun w=>hW.len w
      rw [List.length_replicate] at lW
      have hne:(((m+1:Nat):Int)==(m:Int))=false:=by rw [beq_eq_false_iff_ne]; omega
      have hne2:(((m:Int)+1)==(m:Int))=false:=by rw [beq_eq_false_iff_ne]; omega
      obtain ⟨wa,wn,wc,rfl⟩:=hW.shape
      have hs2:=hsums.out
      rw [← hxe] at hs2
      obtain ⟨c,hc⟩:∃ c,inC Y K m x=c:=⟨_,rfl⟩
      rw [hc] at hin1 hs2
      rw [hc]
      have hfr:=nat_from c wo (by omega)
      have hN9:=hN4.out.below hB
      rw [← hs2] at hN9
      replace hfr:=Hd hfr
      replace hN9:=Hd hN9
      replace hlt:=Hd hlt
      replace hend:=Hd hend
      replace hW:=Hd hW
      replace hs2:=Hd hs2
      replace hc:=Hd hc
      replace hxe:=Hd hxe
      replace hkx:=Hd hkx
      go_wp2_with fail
      refine hfr.out.mono ?_
      rintro e w6 ⟨x6,rfl,b6,hx6⟩
      have hcm:=cmp_any _ _ _ _ w6 (hN9.out.below b6) hx6.num
      have e0:cmpN c c=0:=by unfold cmpN; rw [if_neg (Nat.lt_irrefl _),if_neg (Nat.lt_irrefl _)]
      rw [e0] at hcm
      obtain ⟨fa,fn,fc,rfl⟩:=hx6.num.shape
      have c6:=hB.trans (b6.mono hB.size)
      replace hcm:=Hd hcm
      replace hx6:=Hd hx6
      go_wp2_with fail
      refine hcm.out.mono ?_
      rintro e w7 ⟨_,rfl,b7,rfl⟩
      have bE:=Below.step b04.out (c6.trans (b7.mono c6.size))
      replace bE:=Hd bE
      go_wp2
      go_ret
      exact ⟨_,rfl,bE.out,rfl⟩
theorem wholeLanguages_any (r:Nat→Addr) (k R:Int) (v:Value) (T:List Int) (s:Int) (w:World) (hg:Glob r w) (hG:GlobE w) (h:IntsAt w v T) :
 Calls Tryz.prog 5 #[.agg #[.int .i64 k,.int .i64 R,v],.int .i64 s] w (Ret1 (fun x _=>x=.bool true) w):=by
 obtain ⟨va,vn,vc,rfl⟩:=h.shape
 cases hc:smallP k R T with
 | some t=>exact wholeLanguages_bad r k R va vn vc T s t w hg hG h hc
 | none =>
  obtain ⟨hck,hl⟩:=smallP_none hc
  obtain ⟨K,Q,rfl,rfl,hr⟩:=checkP_none hck
  exact wholeLanguages_ok r K Q va vn vc T s w hg hG h hr hl
end Go.Proofs.YtkaoebokbfcmhaaGreatDoor
namespace Go.Proofs.YtkaoebokbfcmhaaGreatDoor
open Go.ChangeShapes Go.WideShapes Go.ChangeAt Go.RowKit Go.Joins
set_option maxRecDepth 100000
theorem own:ownKnob Tryz.prog.godebug=none:=by kernel_rfl
theorem laidOut:laidOutB Tryz.prog=true:=by kernel_rfl
theorem cellsInt:Tryz.prog.cellsOf 3=1:=by kernel_rfl
theorem uInt:Tryz.prog.underlying 3=some (.int .i64):=by kernel_rfl
theorem bytesInt:Tryz.prog.bytesOf 3=8:=by kernel_rfl
theorem i64_of_wf {n:Int} (h:(Lit.int .i64 n).wf=true):I64 n:=by
 have:=bounds_i64 h
 unfold I64
 omega
theorem open_intsV {H:Type} {enc:TypeId×Value→H} {W:World} {held:Bool} {fuel:Nat} {v:Value} {y:DataW H×List MemPlace}
 (h:DataW.trod enc Tryz.prog W 0 (fun _=>true) held fuel 22 [v]=some y) (hw:∀ n∈y.1.weights Tryz.prog 22,n≤reachBytes) :
 ∃ xs,IntsAt W v xs∧xs.length≤17592186043904∧∀ x∈xs,I64 x:=by
 rcases open_ints uInts uInt cellsInt h with ⟨hcs,_⟩ | ⟨a,len,cap,zs,hcs,_,hl,hm,hz,hx,hcell,hwz⟩
 ·simp at hcs
  subst hcs
  exact ⟨[],(OwnI.nil 0 W).at,by simp,by simp⟩
 ·simp at hcs
  subst hcs
  simp only [if_true] at hz
  have hzl:(zs.take len).length=len:=by simp; omega
  refine ⟨zs.take len,⟨some a,cap,by rw [hzl],by rw [hzl]; exact hl,hm,(fun e=>by cases e),fun i hi=>?_⟩,?_,fun x hx=>i64_of_wf (hwz x (List.mem_of_mem_take hx))⟩
  ·have hi':i<zs.length:=by rw [hzl] at hi; omega
   show W.cell? (a.add i)=_
   rw [hcell i hi']
   simp [List.getD,hi']
  ·rw [hx] at hw
   have:=hw ((lits (H:=H) .i64 (zs.take len)).length*8+(lits (H:=H) .i64 (zs.drop len)).length*8) (by
    simp only [DataW.weights,uInts,bytesInt,List.mem_cons]
    left; omega)
   simp only [lits,List.length_map,reachBytes] at this
   omega
theorem weights_each3 {H:Type} {t0 t1 t2:TypeId} {y0 y1 y2:DataW H} {n:Nat} (h:n∈y2.weights Tryz.prog t2):n∈DataW.weightsEach Tryz.prog [t0,t1,t2] [y0,y1,y2]:=by
 simp only [DataW.weightsEach,List.mem_append]
 exact .inr (.inr (.inl h))
theorem open_ruleV {H:Type} {enc:TypeId×Value→H} {W:World} {held:Bool} {v:Value} {d:DataW H} {p:List MemPlace} {b0:Nat}
 (hv:Value.okWide Tryz.prog W .any b0 24 v) (h:DataW.Trod enc Tryz.prog W 0 (fun _=>true) held 24 v d p) (hw:∀ n∈d.weights Tryz.prog 24,n≤reachBytes) :
 ∃ (k R:Int) (u:Value) (xs:List Int),v=.agg #[.int .i64 k,.int .i64 R,u]∧IntsAt W u xs∧xs.length≤17592186043904∧(∀ x∈xs,I64 x)∧I64 k∧I64 R:=by
 obtain ⟨v0,v1,v2,y0,y1,y2,n,rfl,rfl,rfl,h0,h1,h2⟩:=open_agg3 Tryz.underlying24 (by kernel_rfl) (by kernel_rfl) hv h
 obtain ⟨a,e0,_,wa⟩:=DataW.trod_int uInt h0
 obtain ⟨b,e1,_,wb⟩:=DataW.trod_int uInt h1
 simp at e0 e1
 subst e0 e1
 obtain ⟨xs,hx,hl,hb⟩:=open_intsV h2 fun n hn=>hw n (by
  simp only [DataW.weights,Tryz.underlying24]
  exact weights_each3 (t0:=3) (t1:=3) (t2:=22) hn)
 exact ⟨a,b,v2,xs,rfl,hx,hl,hb,i64_of_wf wa,i64_of_wf wb⟩
theorem star : "*" ++ "errors.errorString" = "*errors.errorString" := by decide
theorem rowES (u : TypeId) (h : Tryz.prog.typeName? 3 u = some "*errors.errorString") : u = 287 :=
 typeName_ptr_named (nm := "errors.errorString") (by rw [star]; kernel_rfl) (by kernel_rfl) (by decide) u (by rw [star]; exact h)
theorem pES:Tryz.prog.underlying 287=some (.pointer 307):=by kernel_rfl
theorem cES:Tryz.prog.cellsOf 307=1:=by kernel_rfl
theorem cStr:Tryz.prog.cellsOf 9=1:=by kernel_rfl
def laid12 : List (String × DataW Unit) := [("eden/api.BadRule", Rows.laid_eden_api_BadRule), ("eden/api.BadWord", Rows.laid_eden_api_BadWord), ("eden/api.BadArg", Rows.laid_eden_api_BadArg), ("eden/api.TooBig", Rows.laid_eden_api_TooBig), ("eden/api.NoBudget", Rows.laid_eden_api_NoBudget), ("eden/api.BadText", Rows.laid_eden_api_BadText), ("eden/api.BadPatch", Rows.laid_eden_api_BadPatch), ("eden/api.BadCert", Rows.laid_eden_api_BadCert), ("eden/api.NoInverse", Rows.laid_eden_api_NoInverse), ("eden/api.BadLine", Rows.laid_eden_api_BadLine), ("eden/api.BadState", Rows.laid_eden_api_BadState), ("eden/api.Unknown", Rows.laid_eden_api_Unknown)]
theorem sentinel {n:String} {text:List UInt8} {r:List (String×DataW Unit)} {W:World} {g:Nat}
 (h : laidMet Tryz.prog ((n, .iface "*errors.errorString" (.ptr (.agg [.lit (.string text)]))) :: r) W)
 (hg:Tryz.prog.globalNamed n=some g) (ht:(Tryz.prog.globals[g]?).map (·.type)=some 27) :
 (∃ a:Addr,W.cell? ⟨g,0,none⟩=some (.iface 287 (.pointer (some a)))∧∃ s,W.cell? a=some (.string s)∧s.data.toList=text∧∃ c t,W.heap[a.block]?=some (.cells c t (0,0)))∧laidMet Tryz.prog r W:=by
 refine ⟨?_,h.tail⟩
 obtain ⟨ps,⟨g0,t0,cs0,f0,p0,q0,hg0,ht0,hv0,hd0,_,e0⟩,_,hrows⟩:=h
 obtain rfl:=Option.some.inj (hg.symm.trans hg0)
 obtain rfl:=Option.some.inj (ht.symm.trans ht0)
 subst e0
 obtain ⟨l0⟩:=cs0
 have ok0:∀ u v,l0=[.iface u v]→Value.okWide Tryz.prog W .any 0 u v:=fun u v e=>by
  subst e
  exact (hrows g 0 (by simp [MemPlace.row])).2 u v (by simpa using World.var?_cell hg hv0 0)
 obtain ⟨a0,s0,rfl,hc0,hs0,hz0,rfl⟩:=errorString_of_trod Tryz.underlying27 rowES pES Tryz.underlying307 rfl rfl Tryz.underlying9 cES cStr hd0 ok0
 exact ⟨a0,by simpa using World.var?_cell hg hv0 0,s0,hc0,hs0,(hrows a0.block a0.off (by simp [MemPlace.row])).1⟩
def txt:Nat→List UInt8
 | 1=>[98,97,100,32,114,117,108,101]
 | 2=>[98,97,100,32,119,111,114,100]
 | 3=>[98,97,100,32,97,114,103,117,109,101,110,116]
 | 4=>[116,111,111,32,98,105,103]
 | 5=>[110,111,32,98,117,100,103,101,116]
 | 6=>[98,97,100,32,116,101,120,116]
 | 7=>[98,97,100,32,112,97,116,99,104]
 | 8=>[98,97,100,32,99,101,114,116,105,102,105,99,97,116,101]
 | 9=>[110,111,32,105,110,118,101,114,115,101]
 | 10=>[98,97,100,32,108,105,110,101]
 | 11=>[98,97,100,32,115,116,97,116,101]
 | 99=>[117,110,107,110,111,119,110]
 | _=>[]
theorem txt_apart:∀ m n:Fin 12,1≤m.val→1≤n.val→txt m.val=txt n.val→m=n:=by decide
theorem glob_of_laidR {W:World} {l:List (String×DataW Unit)} (h:laidMet Tryz.prog (laid12++l) W):∃ r,Glob r W:=by
 obtain ⟨⟨a1,c1,s1,e1,t1,f1⟩,h⟩:=sentinel (text:=txt 1) h (g:=0) (by kernel_rfl) (by kernel_rfl)
 obtain ⟨⟨a2,c2,s2,e2,t2,f2⟩,h⟩:=sentinel (text:=txt 2) h (g:=4) (by kernel_rfl) (by kernel_rfl)
 obtain ⟨⟨a3,c3,s3,e3,t3,f3⟩,h⟩:=sentinel (text:=txt 3) h (g:=5) (by kernel_rfl) (by kernel_rfl)
 obtain ⟨⟨a4,c4,s4,e4,t4,f4⟩,h⟩:=sentinel (text:=txt 4) h (g:=1) (by kernel_rfl) (by kernel_rfl)
 obtain ⟨⟨a5,c5,s5,e5,t5,f5⟩,h⟩:=sentinel (text:=txt 5) h (g:=6) (by kernel_rfl) (by kernel_rfl)
 obtain ⟨⟨a6,c6,s6,e6,t6,f6⟩,h⟩:=sentinel (text:=txt 6) h (g:=7) (by kernel_rfl) (by kernel_rfl)
 obtain ⟨⟨a7,c7,s7,e7,t7,f7⟩,h⟩:=sentinel (text:=txt 7) h (g:=8) (by kernel_rfl) (by kernel_rfl)
 obtain ⟨⟨a8,c8,s8,e8,t8,f8⟩,h⟩:=sentinel (text:=txt 8) h (g:=9) (by kernel_rfl) (by kernel_rfl)
 obtain ⟨⟨a9,c9,s9,e9,t9,f9⟩,h⟩:=sentinel (text:=txt 9) h (g:=2) (by kernel_rfl) (by kernel_rfl)
 obtain ⟨⟨a10,c10,s10,e10,t10,f10⟩,h⟩:=sentinel (text:=txt 10) h (g:=10) (by kernel_rfl) (by kernel_rfl)
 obtain ⟨⟨a11,c11,s11,e11,t11,f11⟩,h⟩:=sentinel (text:=txt 11) h (g:=11) (by kernel_rfl) (by kernel_rfl)
 obtain ⟨⟨a99,c99,s99,e99,t99,f99⟩,h⟩:=sentinel (text:=txt 99) h (g:=12) (by kernel_rfl) (by kernel_rfl)
 clear h
 have key:∀ n:Nat,(1≤n∧n≤11)∨n=99→∃ s,W.cell? ((fun n:Nat=>match n with | 1=>a1 | 2=>a2 | 3=>a3 | 4=>a4 | 5=>a5 | 6=>a6 | 7=>a7 | 8=>a8 | 9=>a9 | 10=>a10 | 11=>a11 | _=>a99) n)=some (.string s)∧s.data.toList=txt n∧∃ c t,W.heap[((fun n:Nat=>match n with | 1=>a1 | 2=>a2 | 3=>a3 | 4=>a4 | 5=>a5 | 6=>a6 | 7=>a7 | 8=>a8 | 9=>a9 | 10=>a10 | 11=>a11 | _=>a99) n).block]?=some (.cells c t (0,0)):=by
  intro n hn
  have:n=1∨n=2∨n=3∨n=4∨n=5∨n=6∨n=7∨n=8∨n=9∨n=10∨n=11∨n=99:=by omega
  rcases this with rfl | rfl | rfl | rfl | rfl | rfl | rfl | rfl | rfl | rfl | rfl | rfl
  ·exact ⟨s1,e1,t1,f1⟩
  ·exact ⟨s2,e2,t2,f2⟩
  ·exact ⟨s3,e3,t3,f3⟩
  ·exact ⟨s4,e4,t4,f4⟩
  ·exact ⟨s5,e5,t5,f5⟩
  ·exact ⟨s6,e6,t6,f6⟩
  ·exact ⟨s7,e7,t7,f7⟩
  ·exact ⟨s8,e8,t8,f8⟩
  ·exact ⟨s9,e9,t9,f9⟩
  ·exact ⟨s10,e10,t10,f10⟩
  ·exact ⟨s11,e11,t11,f11⟩
  ·exact ⟨s99,e99,t99,f99⟩
 refine ⟨(fun n:Nat=>match n with | 1=>a1 | 2=>a2 | 3=>a3 | 4=>a4 | 5=>a5 | 6=>a6 | 7=>a7 | 8=>a8 | 9=>a9 | 10=>a10 | 11=>a11 | _=>a99),c1,c2,c3,c4,c5,c6,c7,c8,c9,c10,c11,c99,(fun n hn=>?_),fun m n hm1 hm2 hn1 hn2 he=>?_,fun n hn=>?_⟩
 ·obtain ⟨s,hs,_⟩:=key n hn
  exact ⟨s,hs⟩
 ·obtain ⟨s,hs,ts,_⟩:=key m.toNat (by omega)
  obtain ⟨s',hs',ts',_⟩:=key n.toNat (by omega)
  have hss:s=s':=by
   have:=hs.symm.trans ((congrArg W.cell? he).trans hs')
   simpa using this
  subst hss
  have:=txt_apart ⟨m.toNat,by omega⟩ ⟨n.toNat,by omega⟩ (by simp; omega) (by simp; omega) (ts.symm.trans ts')
  have:=congrArg Fin.val this
  simp at this
  omega
 ·obtain ⟨_,_,_,hf⟩:=key n hn
  exact hf
theorem glob_of_laid {W:World} (h:laidMet Tryz.prog laid12 W):∃ r,Glob r W:=glob_of_laidR (l:=[]) h
end Go.Proofs.YtkaoebokbfcmhaaGreatDoor
namespace Go.Proofs.YtkaoebokbfcmhaaGreatDoor
open Go.RowKit
set_option maxRecDepth 100000
def laid13 : List (String × DataW Unit) := ("errors.errorType", Rows.laid_errors_errorType) :: laid12
theorem rtypeNo : (Tryz.prog.cutTypes.find? (·.1 == "internal/reflectlite.rtype")).map (·.2) = some 192 := by kernel_rfl
theorem errorTypeNo : Tryz.prog.globalNamed "errors.errorType" = some 3 := by kernel_rfl
theorem typesNo:Tryz.prog.types.size=419-100:=by kernel_rfl
theorem oneError:((List.range (419-100)).filter fun t=>Tryz.prog.rowNamed t [101,114,114,111,114])=[27]:=by kernel_rfl
theorem handleErr:typeHandle Tryz.prog 27=.pointer (some ⟨13,27,none⟩):=by kernel_rfl
theorem glob_of_laidH {W:World} (h:laidMetH Tryz.prog laid13 W):∃ r,Glob r W∧GlobE W:=by
 have h' : laidMet Tryz.prog laid12 W ∧ handlesMet Tryz.prog [("errors.errorType", Rows.laid_errors_errorType)] W := h
 obtain ⟨r,hg⟩:=glob_of_laid h'.1
 refine ⟨r,hg,?_⟩
 obtain ⟨name,u,ty,e1,e2,e3,e4,e5⟩:=h'.2 _ (List.mem_cons_self ..)
 have en:name=[101,114,114,111,114]:=(Option.some.inj e1).symm
 subst en
 obtain rfl:=Option.some.inj (rtypeNo.symm.trans e2)
 have hm:ty∈(List.range (419-100)).filter fun t=>Tryz.prog.rowNamed t [101,114,114,111,114]:=List.mem_filter.2 ⟨List.mem_range.2 (by rw [← typesNo]; exact e3),e4⟩
 rw [oneError] at hm
 obtain rfl:=List.mem_singleton.1 hm
 rw [handleErr] at e5
 simpa [GlobE] using World.var?_cell errorTypeNo e5 0
end Go.Proofs.YtkaoebokbfcmhaaGreatDoor
namespace Go.Proofs.YtkaoebokbfcmhaaGreatDoor
open Go.ChangeShapes Go.WideShapes Go.ChangeAt Go.RowKit Go.Joins
namespace WholeLanguagesP
set_option maxRecDepth 100000 in
theorem door_met (os:Os) (args:Array Value):laidMetH Tryz.prog Rows.wholeLanguagesRow.laid ((World.doorLaid Tryz.prog 400 os).forCall (fun _ _=>0) ⟨#[],args,[]⟩).memory :=
 laidMetH_of_parts3 (fuel:=8) (laidMet_of_run' 8 (by kernel_rfl) (by kernel_rfl)) (by kernel_rfl) (by kernel_rfl)
set_option maxRecDepth 100000 in
theorem lifted (os:Os) (started:os.Started) (H:Type) (enc:TypeId×Value→H) :
 ReturnsInHanded {} Tryz.checked os 5 .any (fun w args=>(Rows.wholeLanguagesSpec.pre enc Tryz.prog Tryz.f5 [] false w args∧laidMetH Tryz.prog Rows.wholeLanguagesRow.laid w)∧sizedMet enc Tryz.prog Tryz.f5 (OpenSpec.ofChange Rows.wholeLanguagesSpec) false w args)
  (Rows.wholeLanguagesSpec.post enc Tryz.prog Tryz.f5 false true false false):=by
 refine returnsInHanded_of_change_and (C:=Tryz.checked) (X:=fun w _=>laidMetH Tryz.prog Rows.wholeLanguagesRow.laid w) (fun _ _ _ hh h=>h.of_heap hh) own started (by kernel_rfl) Tryz.func5
  (ChangeSpec.witness_shaped (enc:=enc) (C:=Tryz.checked) (os:=os) (X:=fun w _=>laidMetH Tryz.prog Rows.wholeLanguagesRow.laid w) false (World.doorLaid Tryz.prog 400 os) #[.agg #[.int .i64 0,.int .i64 0,.slice none 0 0],.int .i64 0] 8 rfl (World.shaped_of_RefB (by kernel_rfl) (by kernel_rfl)) (by kernel_rfl) (by kernel_rfl) (by kernel_rfl) (door_met os _)) ?_
 intro W base args ds gs before hval0 hW _ hsz hL _
 have hval:∀ (j:Nat) t v,Tryz.f5.params[j]?=some t→args[j]?=some v→Value.okWide Tryz.prog W .any base t v:=hval0
 have hW':=hW
 obtain ⟨p,q,hA0,hV,rfl,hfz,hnd⟩:=hW
 have hA:DataW.TrodAll enc Tryz.prog W 0 (fun _=>true) true Tryz.f5.params.toList args.toList ds p:=hA0
 rw [Tryz.params5] at hA hval hsz
 obtain ⟨v0,vs0,d0,ds0,p0,q0,hargs,rfl,rfl,g0,t0⟩:=trodAll_cons hA
 obtain ⟨v1,vs1,d1,ds1,p1,q1,rfl,rfl,rfl,g1,t1⟩:=trodAll_cons t0
 obtain ⟨rfl,rfl,rfl⟩:=trodAll_nil t1
 obtain rfl:args=#[v0,v1]:=by cases args; simp_all
 obtain ⟨rfl,rfl⟩:=trodVars_none hV
 have kk0:=g0
 have lt0:∀ x∈p0,x.block<W.heap.size:=by obtain ⟨m,hm⟩:=kk0; exact DataW.trod_lt m _ _ _ hm
 obtain ⟨kr0,rr0,u0,x0,rfl,h0,l0,b0,bk0,br0⟩:=open_ruleV (hval 0 24 v0 rfl rfl) g0 (fun n hn=>by
  have:=List.all_eq_true.1 hsz n (DataW.weights_mem_each (j:=0) (t:=24) rfl rfl n hn)
  simpa using this)
 obtain ⟨k1,rfl,rfl,rfl,w1⟩:=open_int uInt (hval 1 3 v1 rfl rfl) g1
 have b1:=i64_of_wf w1
 obtain ⟨r,hg,hG⟩:=glob_of_laidH (W:=W) (by
  exact hL)
 clear hA0 hval0
 refine (wholeLanguages_any r _ _ _ _ _ _ hg hG h0).mono fun e W' ⟨x,he,bel,hxx⟩=>?_
 subst he; subst hxx
 exact ⟨_,rfl,_,_,_,[],_,[],hW',trodAll_mk1 (shut_bool Tryz.underlying4 _),(trodAll_cons_mk (Below.trod laidOut (by kernel_rfl) (of_decide_eq_true (by kernel_rfl)) kk0 bel lt0) (trodAll_cons_mk (shut_int uInt w1) trodAll_mk0)),rfl,bel.frame _,fun h=>by cases h⟩
theorem and_t {a b:Bool} (h:a=true) (k:b=true):(a&&b)=true:=by rw [h,k]; rfl
theorem jf_wf:Rows.wholeLanguagesRow.wf (OpenSpec.ofChange Rows.wholeLanguagesSpec)=true:=by kernel_rfl
theorem jf_lo:laidOutB Tryz.prog=true:=by kernel_rfl
theorem jf_mr:mapsRowed Tryz.prog=true:=by kernel_rfl
theorem jf_nt:namedTie Tryz.prog Rows.wholeLanguagesRow.named Rows.wholeLanguagesSpec.vars=true:=by kernel_rfl
theorem jf_ip:(Rows.wholeLanguagesRow.inPlace==Tryz.prog.inPlace 5)=true:=by kernel_rfl
theorem jf_uf:(Rows.wholeLanguagesRow.unfollowed==Tryz.prog.unfollowed 5)=true:=by kernel_rfl
theorem jf_rc:(Rows.wholeLanguagesRow.recurses==Tryz.prog.recurses 5)=true:=by kernel_rfl
theorem jf_nm:(Rows.wholeLanguagesRow.named==Tryz.prog.varsNamed 5)=true:=by kernel_rfl
theorem jf_pk:(Rows.wholeLanguagesRow.plainKeys==Tryz.prog.plainKeys)=true:=by kernel_rfl
theorem jf_sh:Tryz.prog.stopsHeard=true:=by kernel_rfl
theorem jf_me:Tryz.prog.mayEnter=true:=by kernel_rfl
theorem jf_lf:(Rows.wholeLanguagesRow.lifted==Tryz.prog.liftsFinal)=true:=by kernel_rfl
theorem jf_mk:(Tryz.prog.make==some Rows.wholeLanguagesRow.make)=true:=by kernel_rfl
theorem joined:joinedFacts Tryz.prog 5 Tryz.f5 Rows.wholeLanguagesSpec Rows.wholeLanguagesRow=true:=and_t (and_t (and_t (and_t (and_t (and_t (and_t (and_t (and_t (and_t (and_t (and_t (and_t (and_t (and_t (and_t (and_t (and_t (and_t (and_t (and_t (and_t (and_t (and_t (and_t (and_t (and_t (and_t (and_t (and_t (and_t jf_wf jf_lo) jf_mr) (by kernel_rfl)) jf_nt) (by kernel_rfl)) (by kernel_rfl)) (by kernel_rfl)) (by kernel_rfl)) jf_ip) jf_uf) jf_rc) jf_nm) (by kernel_rfl)) (by kernel_rfl)) (by kernel_rfl)) (by kernel_rfl)) (by kernel_rfl)) (by kernel_rfl)) (by kernel_rfl)) (by kernel_rfl)) (by kernel_rfl)) jf_pk) (by kernel_rfl)) jf_sh) jf_me) jf_lf) jf_mk) (by kernel_rfl)) (by kernel_rfl)) (by kernel_rfl)) (by kernel_rfl)
theorem fnamed:Tryz.prog.funcNamed Rows.wholeLanguagesRow.func=some 5:=by kernel_rfl
theorem inst:Tryz.f5.isInstance Tryz.prog Rows.wholeLanguagesRow.origin Rows.wholeLanguagesRow.targs:=of_decide_eq_true (by kernel_rfl)
theorem wrapd:Tryz.f5.isWrapper Tryz.prog Rows.wholeLanguagesRow.wrapper Rows.wholeLanguagesRow.mainSum:=by unfold Func.isWrapper; first | (rw [if_pos (by decide +kernel)]; kernel_rfl) | (rw [if_neg (by decide +kernel)]; exact ⟨rfl,rfl⟩)
theorem over:Rows.WholeLanguagesSaid :=
 OpenClaim.holds_of_wide 5 Tryz.f5 rfl rfl rfl rfl rfl rfl rfl ⟨rfl,rfl,rfl,rfl,rfl⟩ rfl rfl rfl rfl rfl fnamed Tryz.func5 joined
  inst wrapd
  (fun os started H enc _=>lifted os started H enc)
theorem cw:Rows.wholeLanguagesRow.wfByText (OpenSpec.ofChange Rows.wholeLanguagesSpec)=true:=by kernel_rfl
theorem cm:Tryz.prog.mainIs=some (Rows.wholeLanguagesCard.stood.harness.1,Rows.wholeLanguagesCard.stood.harness.2.toList):=by kernel_rfl
theorem cl:Rows.wholeLanguagesCard.stood.looks=Tryz.prog.looks []:=by kernel_rfl
theorem cg:false=Rows.wholeLanguagesRow.goesBy Tryz.prog:=by kernel_rfl
theorem cs:([24,3].all fun u=>!Tryz.prog.wantsStandIn u)=true:=by kernel_rfl
theorem card_holds:Rows.WholeLanguagesCardSaid :=
 Claim7.holds_tied_plain_at .later [] [.handle,.sentinel,.sentinel,.sentinel,.sentinel,.sentinel,.sentinel,.sentinel,.sentinel,.sentinel,.sentinel,.sentinel,.sentinel] true _ _
  over (fun _ h=>by cases h) cw (fun _ h=>by cases h) wholeLanguages_row_tie rfl ⟨rfl,rfl⟩ cm rfl
  (fun f fn hf hfn=>by
    obtain rfl:f=5:=Option.some.inj (fnamed.symm.trans hf) |>.symm
    obtain rfl:fn=Tryz.f5:=(Option.some.inj (Tryz.func5.symm.trans hfn)).symm
    exact ⟨cl,fun j t ht=>by
     rw [Tryz.params5] at ht
     have hm:t∈[24,3]:=by simpa using Array.mem_of_getElem? ht
     exact (show Tryz.prog.wantsStandIn t=false by simpa using List.all_eq_true.1 cs t hm)⟩)
  cg
end WholeLanguagesP
#print axioms WholeLanguagesP.card_holds
end Go.Proofs.YtkaoebokbfcmhaaGreatDoor
