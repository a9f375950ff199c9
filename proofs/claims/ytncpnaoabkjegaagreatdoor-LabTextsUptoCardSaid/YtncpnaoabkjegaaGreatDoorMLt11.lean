/-
  Texts that the proof leans on.
-/
import Derived.Test.YtncpnaoabkjegaaGreatDoorMLt10
import Derived.Deep.DeepCutAuto
import Derived.BigQuiet
import Derived.Deep.RegionWith
import Derived.Deep.CutBlock
namespace Go.Proofs.YtncpnaoabkjegaaGreatDoor
open Go.RowKit
set_option maxRecDepth 100000
set_option maxHeartbeats 8000000
structure GBox (w:World) (G:Nat) (K R:Nat) (Tv:Value) (d:Nat) (tv:Value):Prop where
 c0:w.cell? ⟨G,0,none⟩=some (.int .i64 K)
 c1:w.cell? ⟨G,1,none⟩=some (.int .i64 R)
 c2:w.cell? ⟨G,2,none⟩=some Tv
 c3:w.cell? ⟨G,3,none⟩=some (.int .i64 d)
 c4:w.cell? ⟨G,4,none⟩=some tv
theorem GBox.kept {w w':World} {G tb K R d:Nat} {Tv tv:Value} (h:GBox w G K R Tv d tv) (hg:w.grownBy w' (some tb)) (hne:G≠tb):GBox w' G K R Tv d tv:=by
 have k:∀ {i x},w.cell? ⟨G,i,none⟩=some x→w'.cell? ⟨G,i,none⟩=some x:=fun {i x} hc=>by
  rw [World.cell?_of_block (a:=⟨G,i,none⟩) (hg.block G (World.block_lt_of_cell? _ _ hc) (by simpa using hne))]; exact hc
 exact ⟨k h.c0,k h.c1,k h.c2,k h.c3,k h.c4⟩
theorem IntsAt.grown {w w':World} {v:Value} {xs:List Int} {tb:Nat} (h:IntsAt w v xs) (hg:w.grownBy w' (some tb)) (hoff:∀ i,i<xs.length→(valAt v i).block≠tb):IntsAt w' v xs :=
 h.cells_eq fun i hi=>World.cell?_of_block (hg.block _ (h.blk i hi) (by simpa using hoff i hi))
theorem setCell_grown {w:World} {v:Value} {i g n c:Nat} (hv:v=.slice (some ⟨g,0,none⟩) n c) (x:Value):w.grownBy (w.setCell (valAt v i) x) (some g):=by
 subst hv
 rw [valAt_row]
 exact ⟨rfl,rfl,rfl,by simp [World.setCell],fun k _ hk=>Below.heap_setCell _ _ _ _ (by simp at hk; omega)⟩
theorem drewN_grown (w:World) (n:Nat) (row:Option Nat):w.grownBy (w.drewN n) row:=⟨rfl,rfl,rfl,Nat.le_refl _,fun _ _ _=>rfl⟩
theorem fill_any (K R d G tb tn tc B:Nat) (va:Option Addr) (vn vc:Nat) (T:List Int) (hr:RuleOk K R T) (hl:T.length≤256) (hd:d≤3) (hne:G≠tb) (hoff:∀ i,i<T.length→(valAt (.slice va vn vc) i).block≠tb) :
 ∀ (f n front image middle:Nat) (w:World) (tab:List Int),n+f=2*(R+d)+1→FillOk K R T n front image→middle<K→GBox w G K R (.slice va vn vc) d (.slice (some ⟨tb,0,none⟩) tn tc)→IntsAt w (.slice va vn vc) T→OwnI B w (.slice (some ⟨tb,0,none⟩) tn tc) tab→tab.length=pw K (2*d+1) →
 Calls Tryz.prog 154 #[.pointer (some ⟨G,0,none⟩),.int .i64 front,.int .i64 image,.int .i64 middle,.int .i64 n] w fun e w' =>
  e=.returned (.bool (fillF K R (2*(R+d)+1) T f front image middle tab).1)∧OwnI B w' (.slice (some ⟨tb,0,none⟩) tn tc) (fillF K R (2*(R+d)+1) T f front image middle tab).2∧w.grownBy w' (some tb):=by
 have hk1:=hr.k1
 have hk4:=hr.k4
 have hr3:=hr.r3
 intro f
 induction f with
 | zero =>
  intro n front image middle w tab hn hf hm hbox hT ho htl
  have him:image<tab.length:=by
   have:=hf.2
   rw [htl,show 2*d+1=n-2*R by omega]; exact this
  have lT:=ho.at.len
  have iT:=fun w'=>ho.at.idx image him w'
  have cT:=ho.at.cellD image him
  have fT:=ho.frz image him
  obtain ⟨y,hy⟩:∃ y,tab.getD image 0=y:=⟨_,rfl⟩
  rw [hy] at cT
  have hset:=ho.set image him (middle:Int)
  have hgr:=setCell_grown (w:=w) (v:=.slice (some ⟨tb,0,none⟩) tn tc) (i:=image) rfl (.int .i64 (middle:Int))
  have hF:fillF K R (2*(R+d)+1) T 0 front image middle tab=if 0≤y∧y≠(middle:Int) then (false,tab) else (true,tab.set image middle):=by unfold fillF; rw [hy]
  obtain ⟨p,hp⟩:∃ p,valAt (.slice (some ⟨tb,0,none⟩) tn tc) image=p:=⟨_,rfl⟩
  rw [hp] at iT cT fT hset hgr
  obtain ⟨z0,z1,z2,z3,z4⟩:=id hbox
  have hn1:(2:Int)*((R:Int)+(d:Int))+1=(n:Int):=by omega
  have hnn:((n:Int)==(n:Int))=true:=by simp
  replace hr:=Hd hr
  replace hoff:=Hd hoff
  replace hf:=Hd hf
  replace hT:=Hd hT
  replace ho:=Hd ho
  replace hset:=Hd hset
  replace hgr:=Hd hgr
  replace hy:=Hd hy
  replace hp:=Hd hp
  replace hF:=Hd hF
  replace hbox:=Hd hbox
  replace htl:=Hd htl
  by_cases hy0:0≤y
  ·have d0:decide ((0:Int)≤y)=true:=decide_eq_true hy0
   by_cases hym:y=(middle:Int)
   ·have d1:(y != (middle:Int))=false:=by rw [hym]; simp
    rw [hF.out,if_neg (fun h=>h.2 hym)]
    go_enter Tryz.func154,Tryz.ntmps154
    go_upto_region 1 with fail
    go_quiet (fail)
    go_wp2
    go_ret
    exact ⟨rfl,hset.out,hgr.out.trans (drewN_grown _ nq _)⟩
   ·have d1:(y != (middle:Int))=true:=by rw [bne_iff_ne]; exact hym
    rw [hF.out,if_pos ⟨hy0,hym⟩]
    go_enter Tryz.func154,Tryz.ntmps154
    go_upto_region 1 with fail
    go_quiet (fail)
    go_wp2
    go_ret
    exact ⟨rfl,ho.out,drewN_grown w nq _⟩
  ·have d0:decide ((0:Int)≤y)=false:=decide_eq_false hy0
   rw [hF.out,if_neg (fun h=>hy0 h.1)]
   go_enter Tryz.func154,Tryz.ntmps154
   go_upto_region 1 with fail
   go_quiet (fail)
   go_wp2
   go_ret
   exact ⟨rfl,hset.out,hgr.out.trans (drewN_grown _ nq _)⟩
 | succ f ih =>
  intro n front image middle w tab hn hf hm hbox hT ho htl
  have lT:=hT.len
  obtain ⟨wd,hwd⟩:∃ wd,2*(R+d)+1=wd:=⟨_,rfl⟩
  have hw1:(2:Int)*((R:Int)+(d:Int))+1=(wd:Int):=by omega
  have hnw:((n:Int)==(wd:Int))=false:=by rw [beq_eq_false_iff_ne]; omega
  have hh1:(wd:Int).tdiv 2=((R+d:Nat):Int):=by rw [Int.tdiv_eq_ediv_of_nonneg (by omega)]; omega
  have hh2:(wd:Int)/2=((R+d:Nat):Int):=by omega
  have hnb:n≤12:=by omega
  have hnsub:2*(R+d)+1-(f+1)=n:=by omega
  have hhalf:(2*(R+d)+1)/2=R+d:=by omega
  obtain ⟨g,hg⟩:∃ g:Nat→List Int→Bool×List Int,g=fun s t=>fillF K R (2*(R+d)+1) T f ((front*K+s)%(T.length/K)) (if 2*R≤n then image*K+(T.getD (front*K+s) 0).toNat else image) (if n=R+d then s else middle) t:=⟨_,rfl⟩
  have hF:fillF K R (2*(R+d)+1) T (f+1) front image middle tab=fillL g (List.range K) tab:=by
   rw [hg]
   conv=>lhs; unfold fillF
   rw [hnsub,hhalf]
  rw [hF]
  have him:image<16384:=Nat.lt_of_lt_of_le hf.2 (pw_le hk1 hk4 (by omega))
  have hTl:T.length/K≤256:=Nat.le_trans (Nat.div_le_self _ _) hl
  have hf1:=hf.1
  have hfr:front<256:=by omega
  obtain ⟨z0,z1,z2,z3,z4⟩:=id hbox
  obtain ⟨tl,htl2⟩:∃ tl,T.length=tl:=⟨_,rfl⟩
  rw [htl2] at lT hl
  obtain ⟨Lq,hLq⟩:∃ q,tl/K=q:=⟨_,rfl⟩
  rw [htl2,hLq] at hTl hf1
  have hLz:¬ Lq=0:=by omega
  have hLz2:((Lq:Int)==0)=false:=by rw [beq_eq_false_iff_ne]; omega
  have hKz:¬ K=0:=by omega
  have hKz2:((K:Int)==0)=false:=by rw [beq_eq_false_iff_ne]; omega
  have e1:(tl:Int).tdiv (K:Int)=(Lq:Int):=by rw [Int.tdiv_eq_ediv_of_nonneg (by omega),← Int.natCast_ediv,hLq]
  have e2:(tl:Int)/(K:Int)=(Lq:Int):=by rw [← Int.natCast_ediv,hLq]
  replace hr:=Hd hr
  replace hoff:=Hd hoff
  replace hf:=Hd hf
  replace hT:=Hd hT
  replace ho:=Hd ho
  replace hF:=Hd hF
  replace hg:=Hd hg
  replace hbox:=Hd hbox
  replace htl:=Hd htl
  replace hwd:=Hd hwd
  replace htl2:=Hd htl2
  replace hLq:=Hd hLq
  replace ih:=Hd ih
  replace hhalf:=Hd hhalf
  replace hnsub:=Hd hnsub
  go_enter Tryz.func154,Tryz.ntmps154
  go_upto_region 1 with fail
  go_quiet (fail)
  go_wp2_with fail
  go_loopw [62] (fun iv wr=>∃ (s:Nat) (t:List Int),s≤K∧iv=.int .i64 s∧fillL g (List.range s) tab=(true,t)∧OwnI B wr (.slice (some ⟨tb,0,none⟩) tn tc) t∧w.grownBy wr (some tb)) (fun iv _=>K-(intOf iv).toNat)
  case atStart=>exact ⟨0,tab,Nat.zero_le _,rfl,rfl,ho.out,drewN_grown w nq _⟩
  case round =>
   clear z0 z1 z2 z3 z4
   obtain ⟨s,t,hs,rfl,hft,hO,hG⟩:=hrel
   obtain ⟨wo,rfl⟩:∃ wo:World,wo=wr:=⟨_,rfl⟩
   by_cases hsK:s<K
   ·have ds:decide ((s:Int)<(K:Int))=true:=decide_eq_true (by omega)
    obtain ⟨z0,z1,z2,z3,z4⟩:=hbox.out.kept hG hne
    have hTo:=hT.out.grown hG hoff.out
    have hwin:=hf.out.window hr.out hsK
    have hstep:=hf.out.step hr.out hsK
    have hgs:g s t=fillF K R (2*(R+d)+1) T f ((front*K+s)%(T.length/K)) (if 2*R≤n then image*K+(T.getD (front*K+s) 0).toNat else image) (if n=R+d then s else middle) t:=by rw [hg.out]
    have htlen:t.length=pw K (2*d+1):=by
     have:=fillL_len (g:=g) (fun s t=>by rw [hg.out]; exact fillF_len _ _ _ _ _ _ _ _ _) (List.range s) tab
     rw [hft] at this
     rw [← htl.out]; exact this
    have hxs:=getD_syms hr.out.syms hwin
    have iT:=fun w'=>hTo.idx (front*K+s) hwin w'
    have cT:=hTo.cellD (front*K+s) hwin
    obtain ⟨x,hx⟩:∃ x,T.getD (front*K+s) 0=x:=⟨_,rfl⟩
    rw [hx] at hxs cT hstep hgs
    obtain ⟨xn,rfl⟩:∃ m:Nat,x=(m:Int):=⟨x.toNat,by omega⟩
    rw [Int.toNat_natCast] at hstep hgs
    rw [htl2.out,hLq.out] at hstep hgs
    rw [htl2.out] at hwin
    obtain ⟨fk,hfk⟩:∃ q,front*K=q:=⟨_,rfl⟩
    have hfk1:(front:Int)*(K:Int)=(fk:Int):=by rw [← hfk]; simp
    rw [hfk] at iT cT hwin hstep hgs hx
    obtain ⟨win,hwn⟩:∃ q,fk+s=q:=⟨_,rfl⟩
    have hwn1:(fk:Int)+(s:Int)=(win:Int):=by omega
    rw [hwn] at iT cT hwin hstep hgs hx
    obtain ⟨wm,hwm⟩:∃ q,win%Lq=q:=⟨_,rfl⟩
    have hwml:wm<Lq:=by rw [← hwm]; exact Nat.mod_lt _ (by omega)
    have e3:(win:Int).tmod (Lq:Int)=(wm:Int):=by rw [Int.tmod_eq_emod_of_nonneg (by omega),← Int.natCast_emod,hwm]
    have e4:(win:Int)%(Lq:Int)=(wm:Int):=by rw [← Int.natCast_emod,hwm]
    rw [hwm] at hstep hgs
    have hik:image*K≤16384*4:=Nat.mul_le_mul (by omega) hk4
    obtain ⟨ik,hikn⟩:∃ q,image*K=q:=⟨_,rfl⟩
    have hik1:(image:Int)*(K:Int)=(ik:Int):=by rw [← hikn]; simp
    rw [hikn] at hstep hgs hik
    obtain ⟨px,hpx⟩:∃ p,valAt (.slice va vn vc) win=p:=⟨_,rfl⟩
    rw [hpx] at iT cT
    have hfkb:fk≤1024:=by rw [← hfk]; exact Nat.le_trans (Nat.mul_le_mul (show front≤256 by omega) hk4) (by decide)
    have hwinb:win≤1028:=by omega
    have wL:=wrapK (x:=(Lq:Int)) (by omega) (by omega)
    have wn1:=wrapK (x:=(n:Int)+1) (by omega) (by omega)
    replace hfk:=Hd hfk
    replace hwn:=Hd hwn
    replace hwm:=Hd hwm
    replace hikn:=Hd hikn
    replace hpx:=Hd hpx
    replace hx:=Hd hx
    replace hft:=Hd hft
    replace hO:=Hd hO
    replace hTo:=Hd hTo
    replace htlen:=Hd htlen
    by_cases hge:2*R≤n<;>by_cases hmid:n=R+d
    ·have hgs2:g s t=fillF K R (2*(R+d)+1) T f wm (ik+xn) s t:=by rw [hgs,if_pos hge,if_pos hmid]
     have hst2:FillOk K R T (n+1) wm (ik+xn):=by rw [if_pos hge] at hstep; exact hstep
     have dg:decide ((2:Int)*(R:Int)≤(n:Int))=true:=decide_eq_true (by omega)
     have dm:((n:Int)==((R+d:Nat):Int))=true:=by rw [beq_iff_eq]; omega
     have e5:((n+1:Nat):Int)=(n:Int)+1:=rfl
     have e6:(((ik+xn):Nat):Int)=(ik:Int)+(xn:Int):=Int.natCast_add _ _
     have hih:∀ (W:World) (t:List Int),GBox W G K R (.slice va vn vc) d (.slice (some ⟨tb,0,none⟩) tn tc)→IntsAt W (.slice va vn vc) T→OwnI B W (.slice (some ⟨tb,0,none⟩) tn tc) t→t.length=pw K (2*d+1) →
      Calls Tryz.prog 154 #[.pointer (some ⟨G,0,none⟩),.int .i64 (wm:Int),.int .i64 ((ik:Int)+(xn:Int)),.int .i64 (s:Int),.int .i64 ((n:Int)+1)] W fun e w' =>
       e=.returned (.bool (fillF K R (2*(R+d)+1) T f wm (ik+xn) s t).1)∧OwnI B w' (.slice (some ⟨tb,0,none⟩) tn tc) (fillF K R (2*(R+d)+1) T f wm (ik+xn) s t).2∧W.grownBy w' (some tb):=fun W t a1 a2 a3 a4=>by
      have:=ih.out (n+1) wm (ik+xn) s W t (by omega) hst2 (by omega) a1 a2 a3 a4
      rw [e5,e6] at this
      exact this
     clear e5 e6
     replace hmid:=Hd hmid
     replace hgs:=Hd hgs
     replace hgs2:=Hd hgs2
     replace hst2:=Hd hst2
     replace hstep:=Hd hstep
     replace hih:=Hd hih
     go_upto_region 13 with fail
     go_quiet (fail)
     go_upto_region 17 with fail
     refine wp_region_plan (fun w'=>w'.cell? ⟨G,0,none⟩=some (.int .i64 K)∧w'.cell? ⟨G,2,none⟩=some (.slice va vn vc)) 20 [(0,true),(1,true),(2,true),(3,true),(4,true),(5,true),(6,true),(7,true),(8,true),(9,true),(10,true),(11,true),(12,true),(13,true),(14,true),(15,true),(16,true),(17,true),(18,true),(19,false)] (by kernel_rfl) (by kernel_rfl) ?_
     obtain ⟨W1,hW1⟩:∃ W':World,(wo.drewN nq).drew=W':=⟨_,rfl⟩
     have hS1:W1.cell? ⟨G,0,none⟩=some (.int .i64 K)∧W1.cell? ⟨G,2,none⟩=some (.slice va vn vc):=by rw [← hW1]; exact ⟨z0,z2⟩
     have hg1:wo.grownBy W1 (some tb):=by rw [← hW1]; exact (drewN_grown wo nq _).trans (drewN_grown _ 1 _)
     have hO1:OwnI B W1 (.slice (some ⟨tb,0,none⟩) tn tc) t:=by rw [← hW1]; exact hO.out
     rw [hW1]
     replace hW1:=Hd hW1
     replace hO1:=Hd hO1
     refine pqY 105 hS1 ?_
     refine pqY 106 hS1 ?_
     refine pqY 107 hS1 ?_
     refine pqY 108 hS1 ?_
     refine pqY 109 hS1 ?_
     refine pqY 110 hS1 ?_
     refine pqY 111 hS1 ?_
     refine pqY 112 hS1 ?_
     refine pqY 113 hS1 ?_
     refine pqY 114 hS1 ?_
     refine pqY 115 hS1 ?_
     refine pqY 116 hS1 ?_
     refine pqY 117 hS1 ?_
     refine pqY 118 hS1 ?_
     refine pqY 119 hS1 ?_
     refine pqY 120 hS1 ?_
     refine pqY 121 hS1 ?_
     refine pqY 122 hS1 ?_
     refine pqY 123 hS1 ?_
     refine headC rfl (fun KK hK=>?_)
     go_simp
     have hcall:=hih.out W1 t (hbox.out.kept (hG.trans hg1) hne) (hT.out.grown (hG.trans hg1) hoff.out) hO1.out htlen.out
     rw [← hgs2.out] at hcall
     refine hcall.mono ?_
     rintro e W2 ⟨rfl,hO2,hg2⟩
     have hG2:=(hG.trans hg1).trans hg2
     have hb2:=hbox.out.kept hG2 hne
     refine hK _ _ ⟨hb2.c0,hb2.c2⟩ ?_
     clear hK KK hS1
     refine head0 ?_
     simp only [List.drop_succ_cons,List.drop_zero]
     replace hO2:=Hd hO2
     replace hb2:=Hd hb2
     cases hb:(g s t).1 with
     | true =>
      have hsu:=fillL_succ hft.out
      have hpr:g s t=(true,(g s t).2):=Prod.ext hb rfl
      replace hsu:=Hd hsu
      replace hpr:=Hd hpr
      replace hb:=Hd hb
      go_wp2
      refine NoPanic.normal ?_
      go_wp2
      go_roundw
      case measure=>simp [intOf]; omega
      case rel=>exact ⟨s+1,(g s t).2,by omega,by go_num,by rw [hsu.out]; exact hpr.out,hO2.out,hG2⟩
     | false =>
      have hso:=fillL_stop hsK hft.out hb
      replace hb:=Hd hb
      replace hso:=Hd hso
      go_wp2
      refine NoPanic.normal ?_
      go_wp2
      go_ret
      exact ⟨by rw [hso.out,hb.out]; rfl,by rw [hso.out]; exact hO2.out,hG2⟩
    ·have hgs2:g s t=fillF K R (2*(R+d)+1) T f wm (ik+xn) middle t:=by rw [hgs,if_pos hge,if_neg hmid]
     have hst2:FillOk K R T (n+1) wm (ik+xn):=by rw [if_pos hge] at hstep; exact hstep
     have dg:decide ((2:Int)*(R:Int)≤(n:Int))=true:=decide_eq_true (by omega)
     have dm:((n:Int)==((R+d:Nat):Int))=false:=by rw [beq_eq_false_iff_ne]; omega
     have e5:((n+1:Nat):Int)=(n:Int)+1:=rfl
     have e6:(((ik+xn):Nat):Int)=(ik:Int)+(xn:Int):=Int.natCast_add _ _
     have hih:∀ (W:World) (t:List Int),GBox W G K R (.slice va vn vc) d (.slice (some ⟨tb,0,none⟩) tn tc)→IntsAt W (.slice va vn vc) T→OwnI B W (.slice (some ⟨tb,0,none⟩) tn tc) t→t.length=pw K (2*d+1) →
      Calls Tryz.prog 154 #[.pointer (some ⟨G,0,none⟩),.int .i64 (wm:Int),.int .i64 ((ik:Int)+(xn:Int)),.int .i64 (middle:Int),.int .i64 ((n:Int)+1)] W fun e w' =>
       e=.returned (.bool (fillF K R (2*(R+d)+1) T f wm (ik+xn) middle t).1)∧OwnI B w' (.slice (some ⟨tb,0,none⟩) tn tc) (fillF K R (2*(R+d)+1) T f wm (ik+xn) middle t).2∧W.grownBy w' (some tb):=fun W t a1 a2 a3 a4=>by
      have:=ih.out (n+1) wm (ik+xn) middle W t (by omega) hst2 (by omega) a1 a2 a3 a4
      rw [e5,e6] at this
      exact this
     clear e5 e6
     replace hmid:=Hd hmid
     replace hgs:=Hd hgs
     replace hgs2:=Hd hgs2
     replace hst2:=Hd hst2
     replace hstep:=Hd hstep
     replace hih:=Hd hih
     go_upto_region 13 with fail
     go_quiet (fail)
     go_upto_region 17 with fail
     refine wp_region_plan (fun w'=>w'.cell? ⟨G,0,none⟩=some (.int .i64 K)∧w'.cell? ⟨G,2,none⟩=some (.slice va vn vc)) 20 [(0,true),(1,true),(2,true),(3,true),(4,true),(5,true),(6,true),(7,true),(8,true),(9,true),(10,true),(11,true),(12,true),(13,true),(14,true),(15,true),(16,true),(17,true),(18,true),(19,false)] (by kernel_rfl) (by kernel_rfl) ?_
     obtain ⟨W1,hW1⟩:∃ W':World,(wo.drewN nq).drew=W':=⟨_,rfl⟩
     have hS1:W1.cell? ⟨G,0,none⟩=some (.int .i64 K)∧W1.cell? ⟨G,2,none⟩=some (.slice va vn vc):=by rw [← hW1]; exact ⟨z0,z2⟩
     have hg1:wo.grownBy W1 (some tb):=by rw [← hW1]; exact (drewN_grown wo nq _).trans (drewN_grown _ 1 _)
     have hO1:OwnI B W1 (.slice (some ⟨tb,0,none⟩) tn tc) t:=by rw [← hW1]; exact hO.out
     rw [hW1]
     replace hW1:=Hd hW1
     replace hO1:=Hd hO1
     refine pqY 105 hS1 ?_
     refine pqY 106 hS1 ?_
     refine pqY 107 hS1 ?_
     refine pqY 108 hS1 ?_
     refine pqY 109 hS1 ?_
     refine pqY 110 hS1 ?_
     refine pqY 111 hS1 ?_
     refine pqY 112 hS1 ?_
     refine pqY 113 hS1 ?_
     refine pqY 114 hS1 ?_
     refine pqY 115 hS1 ?_
     refine pqY 116 hS1 ?_
     refine pqY 117 hS1 ?_
     refine pqY 118 hS1 ?_
     refine pqY 119 hS1 ?_
     refine pqY 120 hS1 ?_
     refine pqY 121 hS1 ?_
     refine pqY 122 hS1 ?_
     refine pqY 123 hS1 ?_
     refine headC rfl (fun KK hK=>?_)
     go_simp
     have hcall:=hih.out W1 t (hbox.out.kept (hG.trans hg1) hne) (hT.out.grown (hG.trans hg1) hoff.out) hO1.out htlen.out
     rw [← hgs2.out] at hcall
     refine hcall.mono ?_
     rintro e W2 ⟨rfl,hO2,hg2⟩
     have hG2:=(hG.trans hg1).trans hg2
     have hb2:=hbox.out.kept hG2 hne
     refine hK _ _ ⟨hb2.c0,hb2.c2⟩ ?_
     clear hK KK hS1
     refine head0 ?_
     simp only [List.drop_succ_cons,List.drop_zero]
     replace hO2:=Hd hO2
     replace hb2:=Hd hb2
     cases hb:(g s t).1 with
     | true =>
      have hsu:=fillL_succ hft.out
      have hpr:g s t=(true,(g s t).2):=Prod.ext hb rfl
      replace hsu:=Hd hsu
      replace hpr:=Hd hpr
      replace hb:=Hd hb
      go_wp2
      refine NoPanic.normal ?_
      go_wp2
      go_roundw
      case measure=>simp [intOf]; omega
      case rel=>exact ⟨s+1,(g s t).2,by omega,by go_num,by rw [hsu.out]; exact hpr.out,hO2.out,hG2⟩
     | false =>
      have hso:=fillL_stop hsK hft.out hb
      replace hb:=Hd hb
      replace hso:=Hd hso
      go_wp2
      refine NoPanic.normal ?_
      go_wp2
      go_ret
      exact ⟨by rw [hso.out,hb.out]; rfl,by rw [hso.out]; exact hO2.out,hG2⟩
    ·have hgs2:g s t=fillF K R (2*(R+d)+1) T f wm image s t:=by rw [hgs,if_neg hge,if_pos hmid]
     have hst2:FillOk K R T (n+1) wm image:=by rw [if_neg hge] at hstep; exact hstep
     have dg:decide ((2:Int)*(R:Int)≤(n:Int))=false:=decide_eq_false (by omega)
     have dm:((n:Int)==((R+d:Nat):Int))=true:=by rw [beq_iff_eq]; omega
     have e5:((n+1:Nat):Int)=(n:Int)+1:=rfl
     have e6:((image:Nat):Int)=(image:Int):=rfl
     have hih:∀ (W:World) (t:List Int),GBox W G K R (.slice va vn vc) d (.slice (some ⟨tb,0,none⟩) tn tc)→IntsAt W (.slice va vn vc) T→OwnI B W (.slice (some ⟨tb,0,none⟩) tn tc) t→t.length=pw K (2*d+1) →
      Calls Tryz.prog 154 #[.pointer (some ⟨G,0,none⟩),.int .i64 (wm:Int),.int .i64 ((image:Int)),.int .i64 (s:Int),.int .i64 ((n:Int)+1)] W fun e w' =>
       e=.returned (.bool (fillF K R (2*(R+d)+1) T f wm image s t).1)∧OwnI B w' (.slice (some ⟨tb,0,none⟩) tn tc) (fillF K R (2*(R+d)+1) T f wm image s t).2∧W.grownBy w' (some tb):=fun W t a1 a2 a3 a4=>by
      have:=ih.out (n+1) wm image s W t (by omega) hst2 (by omega) a1 a2 a3 a4
      rw [e5,e6] at this
      exact this
     clear e5 e6
     replace hmid:=Hd hmid
     replace hgs:=Hd hgs
     replace hgs2:=Hd hgs2
     replace hst2:=Hd hst2
     replace hstep:=Hd hstep
     replace hih:=Hd hih
     go_upto_region 17 with fail
     refine wp_region_plan (fun w'=>w'.cell? ⟨G,0,none⟩=some (.int .i64 K)∧w'.cell? ⟨G,2,none⟩=some (.slice va vn vc)) 20 [(0,true),(1,true),(2,true),(3,true),(4,true),(5,true),(6,true),(7,true),(8,true),(9,true),(10,true),(11,true),(12,true),(13,true),(14,true),(15,true),(16,true),(17,true),(18,true),(19,false)] (by kernel_rfl) (by kernel_rfl) ?_
     obtain ⟨W1,hW1⟩:∃ W':World,wo.drew=W':=⟨_,rfl⟩
     have hS1:W1.cell? ⟨G,0,none⟩=some (.int .i64 K)∧W1.cell? ⟨G,2,none⟩=some (.slice va vn vc):=by rw [← hW1]; exact ⟨z0,z2⟩
     have hg1:wo.grownBy W1 (some tb):=by rw [← hW1]; exact drewN_grown wo 1 _
     have hO1:OwnI B W1 (.slice (some ⟨tb,0,none⟩) tn tc) t:=by rw [← hW1]; exact hO.out
     rw [hW1]
     replace hW1:=Hd hW1
     replace hO1:=Hd hO1
     refine pqY 105 hS1 ?_
     refine pqY 106 hS1 ?_
     refine pqY 107 hS1 ?_
     refine pqY 108 hS1 ?_
     refine pqY 109 hS1 ?_
     refine pqY 110 hS1 ?_
     refine pqY 111 hS1 ?_
     refine pqY 112 hS1 ?_
     refine pqY 113 hS1 ?_
     refine pqY 114 hS1 ?_
     refine pqY 115 hS1 ?_
     refine pqY 116 hS1 ?_
     refine pqY 117 hS1 ?_
     refine pqY 118 hS1 ?_
     refine pqY 119 hS1 ?_
     refine pqY 120 hS1 ?_
     refine pqY 121 hS1 ?_
     refine pqY 122 hS1 ?_
     refine pqY 123 hS1 ?_
     refine headC rfl (fun KK hK=>?_)
     go_simp
     have hcall:=hih.out W1 t (hbox.out.kept (hG.trans hg1) hne) (hT.out.grown (hG.trans hg1) hoff.out) hO1.out htlen.out
     rw [← hgs2.out] at hcall
     refine hcall.mono ?_
     rintro e W2 ⟨rfl,hO2,hg2⟩
     have hG2:=(hG.trans hg1).trans hg2
     have hb2:=hbox.out.kept hG2 hne
     refine hK _ _ ⟨hb2.c0,hb2.c2⟩ ?_
     clear hK KK hS1
     refine head0 ?_
     simp only [List.drop_succ_cons,List.drop_zero]
     replace hO2:=Hd hO2
     replace hb2:=Hd hb2
     cases hb:(g s t).1 with
     | true =>
      have hsu:=fillL_succ hft.out
      have hpr:g s t=(true,(g s t).2):=Prod.ext hb rfl
      replace hsu:=Hd hsu
      replace hpr:=Hd hpr
      replace hb:=Hd hb
      go_wp2
      refine NoPanic.normal ?_
      go_wp2
      go_roundw
      case measure=>simp [intOf]; omega
      case rel=>exact ⟨s+1,(g s t).2,by omega,by go_num,by rw [hsu.out]; exact hpr.out,hO2.out,hG2⟩
     | false =>
      have hso:=fillL_stop hsK hft.out hb
      replace hb:=Hd hb
      replace hso:=Hd hso
      go_wp2
      refine NoPanic.normal ?_
      go_wp2
      go_ret
      exact ⟨by rw [hso.out,hb.out]; rfl,by rw [hso.out]; exact hO2.out,hG2⟩
    ·have hgs2:g s t=fillF K R (2*(R+d)+1) T f wm image middle t:=by rw [hgs,if_neg hge,if_neg hmid]
     have hst2:FillOk K R T (n+1) wm image:=by rw [if_neg hge] at hstep; exact hstep
     have dg:decide ((2:Int)*(R:Int)≤(n:Int))=false:=decide_eq_false (by omega)
     have dm:((n:Int)==((R+d:Nat):Int))=false:=by rw [beq_eq_false_iff_ne]; omega
     have e5:((n+1:Nat):Int)=(n:Int)+1:=rfl
     have e6:((image:Nat):Int)=(image:Int):=rfl
     have hih:∀ (W:World) (t:List Int),GBox W G K R (.slice va vn vc) d (.slice (some ⟨tb,0,none⟩) tn tc)→IntsAt W (.slice va vn vc) T→OwnI B W (.slice (some ⟨tb,0,none⟩) tn tc) t→t.length=pw K (2*d+1) →
      Calls Tryz.prog 154 #[.pointer (some ⟨G,0,none⟩),.int .i64 (wm:Int),.int .i64 ((image:Int)),.int .i64 (middle:Int),.int .i64 ((n:Int)+1)] W fun e w' =>
       e=.returned (.bool (fillF K R (2*(R+d)+1) T f wm image middle t).1)∧OwnI B w' (.slice (some ⟨tb,0,none⟩) tn tc) (fillF K R (2*(R+d)+1) T f wm image middle t).2∧W.grownBy w' (some tb):=fun W t a1 a2 a3 a4=>by
      have:=ih.out (n+1) wm image middle W t (by omega) hst2 (by omega) a1 a2 a3 a4
      rw [e5,e6] at this
      exact this
     clear e5 e6
     replace hmid:=Hd hmid
     replace hgs:=Hd hgs
     replace hgs2:=Hd hgs2
     replace hst2:=Hd hst2
     replace hstep:=Hd hstep
     replace hih:=Hd hih
     go_upto_region 17 with fail
     refine wp_region_plan (fun w'=>w'.cell? ⟨G,0,none⟩=some (.int .i64 K)∧w'.cell? ⟨G,2,none⟩=some (.slice va vn vc)) 20 [(0,true),(1,true),(2,true),(3,true),(4,true),(5,true),(6,true),(7,true),(8,true),(9,true),(10,true),(11,true),(12,true),(13,true),(14,true),(15,true),(16,true),(17,true),(18,true),(19,false)] (by kernel_rfl) (by kernel_rfl) ?_
     obtain ⟨W1,hW1⟩:∃ W':World,wo.drew=W':=⟨_,rfl⟩
     have hS1:W1.cell? ⟨G,0,none⟩=some (.int .i64 K)∧W1.cell? ⟨G,2,none⟩=some (.slice va vn vc):=by rw [← hW1]; exact ⟨z0,z2⟩
     have hg1:wo.grownBy W1 (some tb):=by rw [← hW1]; exact drewN_grown wo 1 _
     have hO1:OwnI B W1 (.slice (some ⟨tb,0,none⟩) tn tc) t:=by rw [← hW1]; exact hO.out
     rw [hW1]
     replace hW1:=Hd hW1
     replace hO1:=Hd hO1
     refine pqY 105 hS1 ?_
     refine pqY 106 hS1 ?_
     refine pqY 107 hS1 ?_
     refine pqY 108 hS1 ?_
     refine pqY 109 hS1 ?_
     refine pqY 110 hS1 ?_
     refine pqY 111 hS1 ?_
     refine pqY 112 hS1 ?_
     refine pqY 113 hS1 ?_
     refine pqY 114 hS1 ?_
     refine pqY 115 hS1 ?_
     refine pqY 116 hS1 ?_
     refine pqY 117 hS1 ?_
     refine pqY 118 hS1 ?_
     refine pqY 119 hS1 ?_
     refine pqY 120 hS1 ?_
     refine pqY 121 hS1 ?_
     refine pqY 122 hS1 ?_
     refine pqY 123 hS1 ?_
     refine headC rfl (fun KK hK=>?_)
     go_simp
     have hcall:=hih.out W1 t (hbox.out.kept (hG.trans hg1) hne) (hT.out.grown (hG.trans hg1) hoff.out) hO1.out htlen.out
     rw [← hgs2.out] at hcall
     refine hcall.mono ?_
     rintro e W2 ⟨rfl,hO2,hg2⟩
     have hG2:=(hG.trans hg1).trans hg2
     have hb2:=hbox.out.kept hG2 hne
     refine hK _ _ ⟨hb2.c0,hb2.c2⟩ ?_
     clear hK KK hS1
     refine head0 ?_
     simp only [List.drop_succ_cons,List.drop_zero]
     replace hO2:=Hd hO2
     replace hb2:=Hd hb2
     cases hb:(g s t).1 with
     | true =>
      have hsu:=fillL_succ hft.out
      have hpr:g s t=(true,(g s t).2):=Prod.ext hb rfl
      replace hsu:=Hd hsu
      replace hpr:=Hd hpr
      replace hb:=Hd hb
      go_wp2
      refine NoPanic.normal ?_
      go_wp2
      go_roundw
      case measure=>simp [intOf]; omega
      case rel=>exact ⟨s+1,(g s t).2,by omega,by go_num,by rw [hsu.out]; exact hpr.out,hO2.out,hG2⟩
     | false =>
      have hso:=fillL_stop hsK hft.out hb
      replace hb:=Hd hb
      replace hso:=Hd hso
      go_wp2
      refine NoPanic.normal ?_
      go_wp2
      go_ret
      exact ⟨by rw [hso.out,hb.out]; rfl,by rw [hso.out]; exact hO2.out,hG2⟩
   ·obtain rfl:s=K:=by omega
    have ds:decide ((s:Int)<(s:Int))=false:=decide_eq_false (by omega)
    replace hft:=Hd hft
    replace hO:=Hd hO
    go_wp2
    go_ret
    exact ⟨by rw [hft.out]; rfl,by rw [hft.out]; exact hO.out,hG⟩
end Go.Proofs.YtncpnaoabkjegaaGreatDoor
namespace Go.Proofs.YtncpnaoabkjegaaGreatDoor
open Go.RowKit
set_option maxRecDepth 100000
set_option maxHeartbeats 8000000
def sInverse:ByteArray:=⟨#[105,110,118,101,114,115,101]⟩
theorem inverse_wrong (r:Nat→Addr) (at_ n:Int) (w:World) (hg:Glob r w) (h1:1≤n) (h2:n≤11) :
 Calls Tryz.prog 153 #[.int .i64 at_,.int .i64 n] w (Ret1 (fun v w'=>ErrIs r w' (fresh sInverse at_ n) v) w):=by
 go_enter Tryz.func153,Tryz.ntmps153
 go_wp2_with fail
 refine (new_any r _ at_ n w hg h1 h2).mono ?_
 rintro e w' ⟨v,rfl,hb,he⟩
 go_wp2
 go_ret
 exact ⟨_,rfl,hb,he⟩
theorem OwnI.open {B:Nat} {w:World} {v:Value} {xs:List Int} (h:OwnI B w v xs) (hne:xs≠[]):∃ g n c,v=.slice (some ⟨g,0,none⟩) n c∧B≤g∧g<w.heap.size:=by
 rcases h.2 with ⟨_,hn⟩ | ⟨g,cap,cur,e,hb,hg,_⟩
 ·exact absurd (List.length_eq_zero_iff.1 hn) hne
 ·exact ⟨g,_,_,e,hb,(Array.getElem?_eq_some_iff.1 hg).1⟩
def FindPost (r:Nat→Addr) (w:World) (K R:Nat) (T:List Int) (x y:Value) (w':World):Prop :=
 (NotOne K R T∧x=zR∧ErrIs r w' (fresh sInverse 0 9) y)∨(¬ NotOne K R T∧findP K R T=none∧x=zR∧ErrIs r w' (fresh sInverse 0 4) y) ∨
   (¬ NotOne K R T∧∃ d S a n c,findP K R T=some (d,S)∧y=.nilIface∧x=.agg #[.int .i64 K,.int .i64 ((d:Nat):Int),.slice a n c]∧OwnI w.heap.size w' (.slice a n c) S)
theorem find_bad (r:Nat→Addr) (k R:Int) (va:Option Addr) (vn vc:Nat) (T:List Int) (t:Int×List (ByteArray×Int)) (w:World) (hg:Glob r w) (h:IntsAt w (.slice va vn vc) T) (hc:smallP k R T=some t) :
 Calls Tryz.prog 72 #[.agg #[.int .i64 k,.int .i64 R,.slice va vn vc]] w (Ret2 (fun x y w'=>x=zR∧ErrIs r w' (under sInverse 0 (under sInject 0 (under sPairs 0 (some t)))) y) w):=by
 have b0:=Below.step (belowAlloc w (.cells #[.int .i64 k,.int .i64 R,.slice va vn vc] 24)) (belowAlloc _ (.cells #[.int .i64 0,.int .i64 0,.slice none 0 0] 24))
 have qz:Box3 ((w.alloc (.cells #[.int .i64 k,.int .i64 R,.slice va vn vc] 24)).alloc (.cells #[.int .i64 0,.int .i64 0,.slice none 0 0] 24)) (w.heap.size+1) (.int .i64 0) (.int .i64 0) (.slice none 0 0):=by simp [Box3,go_sem]
 replace hg:=Hd (hg.below b0)
 replace h:=Hd (h.below b0)
 replace hc:=Hd hc
 go_enter Tryz.func72,Tryz.ntmps72
 go_wp2_with fail
 refine (one_bad r k R va vn vc T t _ hg.out h.out hc.out).mono ?_
 rintro e w1 ⟨_,_,_,y,rfl,b1,rfl,rfl,rfl,hy⟩
 have hy':=hy
 obtain ⟨T2,a2,rfl⟩:∃ T a,y=.iface T (.pointer (some a)):=by
  unfold under at hy'
  exact ErrIs.some_shape hy'
 have b2:=Below.step b1 (Below.step (belowAlloc w1 (.cells #[.int .i64 0,.slice none 0 0,.slice none 0 0,.slice none 0 0] 36)) (belowAlloc _ (.cells #[.int .i64 0,.slice none 0 0,.slice none 0 0,.slice none 0 0] 36)))
 have hy2:=hy.below (Below.step (belowAlloc w1 (.cells #[.int .i64 0,.slice none 0 0,.slice none 0 0,.slice none 0 0] 36)) (belowAlloc _ (.cells #[.int .i64 0,.slice none 0 0,.slice none 0 0,.slice none 0 0] 36)))
 replace hy:=Hd hy
 replace hy2:=Hd hy2
 go_wp2_with fail
 refine (under_any r _ _ _ _ _ hy2.out).mono ?_
 rintro e w3 ⟨u,rfl,b3,hu⟩
 have hu':=hu
 obtain ⟨T3,a3,rfl⟩:∃ T a,u=.iface T (.pointer (some a)):=by
  unfold under at hu'
  exact ErrIs.some_shape hu'
 have bE:=Below.step b0 (Below.step b2 b3)
 obtain ⟨⟨y0,y1,y2⟩,-,-,-⟩:=qz.below (Below.step b2 b3)
 obtain ⟨-,f0,f1,f2⟩:=qz.below (Below.step b2 b3)
 replace hu:=Hd hu
 clear hu'
 go_wp2
 rw [setCell_self3 y0 y1 y2]
 exact bodyPost_ret (v:=.tuple #[zR,.iface T3 (.pointer (some a3))]) (by simp [results,Tryz.results72,go_sem,y0,y1,y2]) rfl ⟨_,_,rfl,bE,rfl,hu.out⟩
theorem findF_succ (K R:Nat) (T:List Int) (m e:Nat):findF K R T (m+1) e=if (tryF K R T e).1=true then some (e,(tryF K R T e).2) else findF K R T m (e+1):=rfl
theorem minus_step (j n:Nat) (h:j<n):(List.replicate j (-1:Int)++List.replicate (n-j) 0).set j (-1)=List.replicate (j+1) (-1)++List.replicate (n-(j+1)) 0:=by
 rw [show n-j=(n-(j+1))+1 by omega,List.replicate_succ,List.set_append_right _ _ (by simp),List.length_replicate,Nat.sub_self,List.set_cons_zero,List.replicate_succ',List.append_assoc]
 rfl
theorem find_ok (r:Nat→Addr) (K R:Nat) (va:Option Addr) (vn vc:Nat) (T:List Int) (w:World) (hg:Glob r w) (h:IntsAt w (.slice va vn vc) T) (hr:RuleOk K R T) (hl:T.length≤256) :
 Calls Tryz.prog 72 #[.agg #[.int .i64 K,.int .i64 R,.slice va vn vc]] w (Ret2 (FindPost r w K R T) w):=by
 have b0:=Below.step (belowAlloc w (.cells #[.int .i64 K,.int .i64 R,.slice va vn vc] 24)) (belowAlloc _ (.cells #[.int .i64 0,.int .i64 0,.slice none 0 0] 24))
 have q:=(show Box3 ((w.alloc (.cells #[.int .i64 K,.int .i64 R,.slice va vn vc] 24)).alloc (.cells #[.int .i64 0,.int .i64 0,.slice none 0 0] 24)) w.heap.size (.int .i64 K) (.int .i64 R) (.slice va vn vc) by simp [Box3,go_sem])
 have qz:=(show Box3 ((w.alloc (.cells #[.int .i64 K,.int .i64 R,.slice va vn vc] 24)).alloc (.cells #[.int .i64 0,.int .i64 0,.slice none 0 0] 24)) (w.heap.size+1) (.int .i64 0) (.int .i64 0) (.slice none 0 0) by simp [Box3,go_sem])
 have hk1:=hr.k1
 have hk4:=hr.k4
 have hblk0:=fun i hi=>h.blk i hi
 have hs0:((w.alloc (.cells #[.int .i64 K,.int .i64 R,.slice va vn vc] 24)).alloc (.cells #[.int .i64 0,.int .i64 0,.slice none 0 0] 24)).heap.size=w.heap.size+2:=by simp
 replace hg:=Hd (hg.below b0)
 replace h:=Hd (h.below b0)
 replace hr:=Hd hr
 replace hl:=Hd hl
 replace hblk0:=Hd hblk0
 obtain ⟨W0,hW0⟩:∃ W0:World,(w.alloc (.cells #[.int .i64 K,.int .i64 R,.slice va vn vc] 24)).alloc (.cells #[.int .i64 0,.int .i64 0,.slice none 0 0] 24)=W0:=⟨_,rfl⟩
 rw [hW0] at b0 q qz hs0 hg h
 go_enter Tryz.func72,Tryz.ntmps72
 obtain ⟨⟨z0,z1,z2⟩,-,-,-⟩:=id q
 go_upto_region 1 with fail
 replace hW0:=Hd hW0
 go_wp2_with fail
 refine (one_ok r K R va vn vc T _ hg.out h.out hr.out hl.out).mono ?_
 rintro e w1 ⟨_,_,_,_,rfl,b1,hp⟩
 obtain ⟨rfl,Y,rfl,hY,a1,n1,c1,a2,n2,c2,a3,n3,c3,a4,n4,c4,a5,n5,c5,a6,n6,c6,rfl,rfl⟩:=hp.ans
 have b2:=Below.step b1 (Below.step (belowAlloc w1 (.cells #[.int .i64 0,.slice a1 n1 c1,.slice a2 n2 c2,.slice a3 n3 c3] 36)) (belowAlloc _ (.cells #[.int .i64 0,.slice a4 n4 c4,.slice a5 n5 c5,.slice a6 n6 c6] 36)))
 obtain ⟨w2,hw2⟩:∃ W:World,(w1.alloc (.cells #[.int .i64 0,.slice a1 n1 c1,.slice a2 n2 c2,.slice a3 n3 c3] 36)).alloc (.cells #[.int .i64 0,.slice a4 n4 c4,.slice a5 n5 c5,.slice a6 n6 c6] 36)=W:=⟨_,rfl⟩
 rw [hw2] at b2
 have q2:=q.below b2
 have qz2:=qz.below b2
 have hg2:=hg.out.below b2
 have h2:=h.out.below b2
 have bw2:=Below.step b0 b2
 have hs2:w.heap.size+2≤w2.heap.size:=by rw [← hs0]; exact b2.size
 replace hg2:=Hd hg2
 replace h2:=Hd h2
 clear hp z0 z1 z2
 cases Y with
 | false =>
  have hno:NotOne K R T:=Classical.byContradiction fun hc=>by have:=hY.2 hc; cases this
  go_upto_region 4 with fail
  replace hw2:=Hd hw2
  go_wp2_with fail
  refine (inverse_wrong r _ _ _ hg2.out (by decide) (by decide)).mono ?_
  rintro e w3 ⟨u,rfl,b3,hu⟩
  obtain ⟨T3,a3,rfl⟩:=ErrIs.some_shape hu
  obtain ⟨⟨y0,y1,y2⟩,f0,f1,f2⟩:=qz2.below b3
  have bE:=Below.step bw2 b3
  replace hu:=Hd hu
  replace hY:=Hd hY
  go_wp2
  rw [setCell_self3 y0 y1 y2]
  exact bodyPost_ret (v:=.tuple #[zR,.iface T3 (.pointer (some a3))]) (by simp [results,Tryz.results72,go_sem,y0,y1,y2]) rfl ⟨_,_,rfl,bE,.inl ⟨hno,rfl,hu.out⟩⟩
 | true =>
  have hone:¬ NotOne K R T:=hY.1 rfl
  replace hone:=Hd hone
  clear hY
  go_upto_region 4 with fail
  replace hw2:=Hd hw2
  go_wp2_with fail
  go_loopw [29] (fun iv wr=>∃ e:Nat,e≤4∧iv=.int .i64 e∧findP K R T=findF K R T (4-e) e∧Below w2.heap.size w2 wr) (fun iv _=>4-(intOf iv).toNat)
  case atStart=>exact ⟨0,by omega,rfl,rfl,Below.refl _ _⟩
  case round =>
   obtain ⟨e,he,rfl,hfp,hB⟩:=hrel
   obtain ⟨wo,rfl⟩:∃ wo:World,wo=wr:=⟨_,rfl⟩
   by_cases he4:e<4
   ·have de:decide ((e:Int)<4)=true:=decide_eq_true (by omega)
    obtain ⟨⟨z0,z1,z2⟩,-,-,-⟩:=q2.below hB
    replace hfp:=Hd hfp
    go_wp2_with fail
    refine (size_ok K e wo hk1 hk4 (by omega)).mono ?_
    rintro e' w' ⟨rfl,rfl⟩
    obtain ⟨n,hn⟩:∃ n,pw K (2*e+1)=n:=⟨_,rfl⟩
    have hn1:1≤n:=by rw [← hn]; exact pw_pos _ hk1
    have hnb:n≤16384:=by rw [← hn]; exact pw_le hk1 hk4 (by omega)
    rw [hn]
    replace hn:=Hd hn
    go_upto_region 10 with fail
    refine wp_region_plan (fun w'=>w'.cell? ⟨w.heap.size,0,none⟩=some (.int .i64 K)∧w'.cell? ⟨w.heap.size,1,none⟩=some (.int .i64 R)∧w'.cell? ⟨w.heap.size,2,none⟩=some (.slice va vn vc)) 6 [(0,true),(1,true),(2,true),(3,false),(4,true),(5,false)] (by kernel_rfl) (by kernel_rfl) ?_
    obtain ⟨W1,hW1⟩:∃ W':World,wo.drew=W':=⟨_,rfl⟩
    have bd:Below wo.heap.size wo W1:=by rw [← hW1]; exact (Below.refl _ _).drew
    have bB1:=Below.step hB bd
    rw [hW1]
    replace hW1:=Hd hW1
    have hS1:=(q2.below bB1).1
    refine pqY 39 hS1 ?_
    refine pqY 40 hS1 ?_
    refine pqY 41 hS1 ?_
    obtain ⟨tv,w3,mk,ho3,b3⟩:=run_makeI (n:Int) n W1 rfl (by omega)
    have bB3:=Below.step bB1 b3
    have hS3:=(q2.below bB3).1
    refine headC rfl (fun KK hK=>?_)
    go_simp
    refine hK _ _ hS3 ?_
    clear hK KK mk
    obtain ⟨tb,tn,tc,rfl,htb1,htb2⟩:=ho3.open (by intro e; have:=congrArg List.length e; simp at this; omega)
    refine pqY 43 hS3 ?_
    have ba:=belowAlloc w3 (.cells #[.int .i64 K,.int .i64 R,.slice va vn vc,.int .i64 e,.slice (some ⟨tb,0,none⟩) tn tc] 209)
    have bB4:=Below.step bB3 ba
    have hS4:=(q2.below bB4).1
    have hbox:GBox (w3.alloc (.cells #[.int .i64 K,.int .i64 R,.slice va vn vc,.int .i64 e,.slice (some ⟨tb,0,none⟩) tn tc] 209)) w3.heap.size K R (.slice va vn vc) e (.slice (some ⟨tb,0,none⟩) tn tc):=by
     refine ⟨?_,?_,?_,?_,?_⟩<;>simp [go_sem]
    have ho4:=ho3.below ba
    obtain ⟨W4,hW4⟩:∃ W':World,w3.alloc (.cells #[.int .i64 K,.int .i64 R,.slice va vn vc,.int .i64 e,.slice (some ⟨tb,0,none⟩) tn tc] 209)=W':=⟨_,rfl⟩
    rw [hW4] at ba bB4 hS4 hbox ho4
    obtain ⟨G,hG⟩:∃ G,w3.heap.size=G:=⟨_,rfl⟩
    rw [hG] at hbox htb2
    have hGt:G≠tb:=by omega
    refine headC rfl (fun KK hK=>?_)
    go_simp
    refine hK _ _ hS4 ?_
    clear hK KK hS1 hS3 hS4 z0 z1 z2
    refine head0 ?_
    simp only [List.drop_succ_cons,List.drop_zero]
    replace hW4:=Hd hW4
    have sB1:=bB1.size
    have hoff:∀ i,i<T.length→(valAt (.slice va vn vc) i).block≠tb:=fun i hi=>by
     have:=hblk0.out i hi
     omega
    have hT4:=h2.out.below bB4
    have q4:=q2.below bB4
    have lz:=ho4.at.len
    rw [List.length_replicate] at lz
    have z4:=hbox.c4
    replace hbox:=Hd hbox
    replace ho3:=Hd ho3
    replace ho4:=Hd ho4
    replace hT4:=Hd hT4
    replace hoff:=Hd hoff
    replace hG:=Hd hG
    go_wp2
    refine NoPanic.normal ?_
    go_wp2_with fail
    clear z4
    go_loopw [50] (fun jv wr=>∃ j:Nat,j≤n∧jv=.int .i64 j∧OwnI W1.heap.size wr (.slice (some ⟨tb,0,none⟩) tn tc) (List.replicate j (-1)++List.replicate (n-j) 0)∧W4.grownBy wr (some tb)) (fun jv _=>n-(intOf jv).toNat)
    case atStart=>exact ⟨0,Nat.zero_le _,rfl,by simpa using ho4.out,World.grownBy.refl _ _⟩
    case round =>
     obtain ⟨j,hj,rfl,hO,hGr⟩:=hrel
     obtain ⟨wi,rfl⟩:∃ wo:World,wo=wr:=⟨_,rfl⟩
     have hb4:=(hbox.out.kept hGr hGt)
     have z4:=hb4.c4
     by_cases hjn:j<n
     ·have dj:decide ((j:Int)<(n:Int))=true:=decide_eq_true (by omega)
      have hOl:(List.replicate j (-1:Int)++List.replicate (n-j) 0).length=n:=by simp; omega
      have iO:=fun w'=>hO.at.idx j (by rw [hOl]; exact hjn) w'
      have fO:=hO.frz j (by rw [hOl]; exact hjn)
      obtain ⟨c0,cO⟩:∃ z,wi.cell? (valAt (.slice (some ⟨tb,0,none⟩) tn tc) j)=some z:=⟨_,hO.at.cell j (by rw [hOl]; exact hjn)⟩
      have hset:=hO.set j (by rw [hOl]; exact hjn) (-1)
      rw [minus_step j n hjn] at hset
      have hgr:=setCell_grown (w:=wi) (v:=.slice (some ⟨tb,0,none⟩) tn tc) (i:=j) rfl (.int .i64 (-1))
      have hgr2:=hGr.trans hgr
      obtain ⟨p,hp⟩:∃ p,valAt (.slice (some ⟨tb,0,none⟩) tn tc) j=p:=⟨_,rfl⟩
      rw [hp] at iO fO cO hset hgr2
      replace hset:=Hd hset
      replace hgr2:=Hd hgr2
      replace hO:=Hd hO
      replace hb4:=Hd hb4
      replace hp:=Hd hp
      replace hOl:=Hd hOl
      clear hgr
      go_wp2
      go_roundw
      case measure=>simp [intOf]; omega
      case rel=>exact ⟨j+1,by omega,by go_num,hset.out,hgr2.out⟩
     ·obtain rfl:j=n:=by omega
      have dj:decide ((j:Int)<(j:Int))=false:=decide_eq_false (by omega)
      rw [Nat.sub_self,List.replicate_zero,List.append_nil] at hO
      have hfill:=fill_any K R e G tb tn tc W1.heap.size va vn vc T hr.out hl.out (by omega) hGt hoff.out (2*(R+e)+1) 0 0 0 0 wi _ (by omega) (FillOk.zero hr.out) (by omega) hb4 (hT4.out.grown hGr hoff.out) hO (by rw [List.length_replicate,← hn.out])
      rw [← hn.out,show fillF K R (2*(R+e)+1) T (2*(R+e)+1) 0 0 0 (List.replicate (pw K (2*e+1)) (-1))=tryF K R T e from rfl,show ((0:Nat):Int)=0 from rfl] at hfill
      obtain ⟨X,hX⟩:∃ X,tryF K R T e=X:=⟨_,rfl⟩
      rw [hX] at hfill
      have hfs:findF K R T (4-e) e=if X.1=true then some (e,X.2) else findF K R T (4-(e+1)) (e+1):=by
       rw [show 4-e=(4-(e+1))+1 by omega,findF_succ,hX]
      have sW4:=bB4.size
      replace hfill:=Hd hfill
      replace hO:=Hd hO
      replace hb4:=Hd hb4
      replace hfs:=Hd hfs
      replace hX:=Hd hX
      go_wp2_with fail
      refine hfill.out.mono ?_
      rintro e' w5 ⟨rfl,hO5,hg5⟩
      have hG5:=hGr.trans hg5
      have b5:Below w2.heap.size w2 w5:=bB4.grown hG5 sW4 (fun k hk=>by cases hk; omega)
      have hb5:=hbox.out.kept hG5 hGt
      obtain ⟨X1,X2⟩:=X
      have qE:=q2.below b5
      have qzE:=qz2.below b5
      cases X1 with
      | false =>
       replace hO5:=Hd hO5
       replace hb5:=Hd hb5
       clear z4
       go_wp2
       go_roundw
       case measure=>simp [intOf]; omega
       case rel=>exact ⟨e+1,by omega,by go_num,by rw [hfp.out,hfs.out]; rfl,b5⟩
      | true =>
       clear z4
       have hO5':=Hd hO5
       clear hO5
       have hb54:=hb5.c4
       replace hb5:=Hd hb5
       go_upto_region 17 with fail
       refine wp_region_plan (fun w'=>w'.cell? ⟨w.heap.size,0,none⟩=some (.int .i64 K)∧w'.cell? ⟨G,4,none⟩=some (.slice (some ⟨tb,0,none⟩) tn tc)) 8 [(0,true),(1,true),(2,true),(3,true),(4,true),(5,true),(6,true),(7,true)] (by kernel_rfl) (by kernel_rfl) ?_
       obtain ⟨W6,hW6⟩:∃ W':World,w5.drew=W':=⟨_,rfl⟩
       have bd6:Below w5.heap.size w5 W6:=by rw [← hW6]; exact (Below.refl _ _).drew
       have hS6:W6.cell? ⟨w.heap.size,0,none⟩=some (.int .i64 K)∧W6.cell? ⟨G,4,none⟩=some (.slice (some ⟨tb,0,none⟩) tn tc):=by rw [← hW6]; exact ⟨qE.1.1,hb54⟩
       have hO6:OwnI W1.heap.size W6 (.slice (some ⟨tb,0,none⟩) tn tc) X2:=by rw [← hW6]; exact hO5'.out
       rw [hW6]
       replace hW6:=Hd hW6
       have b6:=Below.step b5 bd6
       obtain ⟨⟨y0,y1,y2⟩,f0,f1,f2⟩:=qz2.below b6
       have bE:=Below.step bw2 b6
       refine pqY 62 hS6 ?_
       refine pqY 63 hS6 ?_
       refine pqY 64 hS6 ?_
       refine pqY 65 hS6 ?_
       refine pqY 66 hS6 ?_
       refine pqY 67 hS6 ?_
       refine pqY 68 hS6 ?_
       refine pqY 69 hS6 ?_
       refine head0 ?_
       simp only [List.drop_succ_cons,List.drop_zero]
       clear hS6 hb54
       replace hO6:=Hd hO6
       go_wp2
       refine NoPanic.normal ?_
       go_wp2
       refine bodyPost_ret (v:=.tuple #[.agg #[.int .i64 K,.int .i64 e,.slice (some ⟨tb,0,none⟩) tn tc],.nilIface]) (by simp [results,Tryz.results72,go_sem,y0,y1,y2]) rfl ⟨_,_,rfl,below_set3 bE (Nat.le_succ _) _ _ _,.inr (.inr ⟨hone.out,e,X2,_,_,_,by rw [hfp.out,hfs.out]; rfl,rfl,rfl,(hO6.out.set3 (b:=w.heap.size+1) (by omega) _ _ _).mono (by omega)⟩)⟩
   ·obtain rfl:e=4:=by omega
    have de:decide (((4:Nat):Int)<4)=false:=by decide
    have hnone:findP K R T=none:=by rw [hfp]; rfl
    replace hfp:=Hd hfp
    replace hnone:=Hd hnone
    go_wp2_with fail
    refine (inverse_wrong r _ _ _ (hg2.out.below hB) (by decide) (by decide)).mono ?_
    rintro e' w3 ⟨u,rfl,b3,hu⟩
    obtain ⟨T3,a3,rfl⟩:=ErrIs.some_shape hu
    obtain ⟨⟨y0,y1,y2⟩,f0,f1,f2⟩:=qz2.below (Below.step hB b3)
    have bE:=Below.step bw2 (Below.step hB b3)
    replace hu:=Hd hu
    go_wp2
    rw [setCell_self3 y0 y1 y2]
    exact bodyPost_ret (v:=.tuple #[zR,.iface T3 (.pointer (some a3))]) (by simp [results,Tryz.results72,go_sem,y0,y1,y2]) rfl ⟨_,_,rfl,bE,.inr (.inl ⟨hone.out,hnone.out,rfl,hu.out⟩)⟩
noncomputable def invE (k R:Int) (T:List Int):PErr:=open Classical in
 match smallP k R T with
 | some t=>under sInverse 0 (under sInject 0 (under sPairs 0 (some t)))
 | none=>if NotOne k.toNat R.toNat T then fresh sInverse 0 9 else match findP k.toNat R.toNat T with
  | none=>fresh sInverse 0 4
  | some _=>none
def InvIs (B:Nat) (w:World) (k R:Int) (T:List Int) (x:Value):Prop :=
 (invE k R T=none→∃ d S a n c,findP k.toNat R.toNat T=some (d,S)∧x=.agg #[.int .i64 k,.int .i64 ((d:Nat):Int),.slice a n c]∧OwnI B w (.slice a n c) S)∧(invE k R T≠none→x=zR)
theorem invE_bad {k R:Int} {T:List Int} {t:Int×List (ByteArray×Int)} (h:smallP k R T=some t):invE k R T=under sInverse 0 (under sInject 0 (under sPairs 0 (some t))):=by unfold invE; rw [h]
theorem smallP_of {k R:Int} {T:List Int} (h:smallP k R T=none):∃ K Q:Nat,k=K∧R=Q∧RuleOk K Q T∧T.length≤256:=by
 obtain ⟨hck,hl⟩:=smallP_none h
 obtain ⟨K,Q,h1,h2,hr⟩:=checkP_none hck
 exact ⟨K,Q,h1,h2,hr,hl⟩
theorem invE_ok {K Q:Nat} {T:List Int} (hr:RuleOk K Q T) (hl:T.length≤256):(NotOne K Q T→invE K Q T=fresh sInverse 0 9)∧(¬ NotOne K Q T→findP K Q T=none→invE K Q T=fresh sInverse 0 4)∧(¬ NotOne K Q T→findP K Q T≠none→invE K Q T=none):=by
 have hsm:smallP K Q T=none:=by rw [smallP_ok hr,if_neg (by omega)]
 refine ⟨fun h=>?_,fun h hf=>?_,fun h hf=>?_⟩
 ·unfold invE; rw [hsm]; simp only [Int.toNat_natCast]; rw [if_pos h]
 ·unfold invE; rw [hsm]; simp only [Int.toNat_natCast]; rw [if_neg h,hf]
 ·unfold invE; rw [hsm]; simp only [Int.toNat_natCast]; rw [if_neg h]
  cases hq:findP K Q T with
  | none=>exact absurd hq hf
  | some _=>rfl
theorem find_any (r:Nat→Addr) (k R:Int) (va:Option Addr) (vn vc:Nat) (T:List Int) (w:World) (hg:Glob r w) (h:IntsAt w (.slice va vn vc) T) :
 Calls Tryz.prog 72 #[.agg #[.int .i64 k,.int .i64 R,.slice va vn vc]] w (Ret2 (fun x y w'=>ErrIs r w' (invE k R T) y∧InvIs w.heap.size w' k R T x) w):=by
 cases hc:smallP k R T with
 | some t =>
  have e:=invE_bad hc
  refine (find_bad r k R va vn vc T t w hg h hc).mono ?_
  rintro e1 w' ⟨x,y,he,hb,hx,hy⟩
  exact ⟨x,y,he,hb,by rw [e]; exact hy,fun q=>(by rw [e] at q; cases q),fun _=>hx⟩
 | none =>
  obtain ⟨K,Q,rfl,rfl,hr,hl⟩:=smallP_of hc
  obtain ⟨i1,i2,i3⟩:=invE_ok hr hl
  refine (find_ok r K Q va vn vc T w hg h hr hl).mono ?_
  rintro e1 w' ⟨x,y,he,hb,hp⟩
  refine ⟨x,y,he,hb,?_⟩
  rcases hp with ⟨h1,hx,hy⟩ | ⟨h1,h2,hx,hy⟩ | ⟨h1,d,S,a,n,c,hf,hy,hx,ho⟩
  ·rw [i1 h1]; exact ⟨hy,fun q=>(by rw [i1 h1] at q; cases q),fun _=>hx⟩
  ·rw [i2 h1 h2]; exact ⟨hy,fun q=>(by rw [i2 h1 h2] at q; cases q),fun _=>hx⟩
  ·have e:=i3 h1 (by rw [hf]; simp)
   rw [e]
   exact ⟨hy,fun _=>⟨d,S,a,n,c,by rw [Int.toNat_natCast,Int.toNat_natCast]; exact hf,hx,ho⟩,fun q=>absurd e q⟩
theorem InvIs.shape {B:Nat} {w:World} {k R:Int} {T:List Int} {x:Value} (h:InvIs B w k R T x):∃ k' q a n c,x=.agg #[.int .i64 k',.int .i64 q,.slice a n c]:=by
 by_cases e:invE k R T=none
 ·obtain ⟨d,S,a,n,c,_,hx,_⟩:=h.1 e
  exact ⟨_,_,_,_,_,hx⟩
 ·exact ⟨0,0,none,0,0,h.2 e⟩
theorem InvIs.set3 {B b:Nat} {w:World} {k R:Int} {T:List Int} {x:Value} (h:InvIs B w k R T x) (hb:b<B) (x0 x1 x2:Value):InvIs B (((w.setCell ⟨b,0,none⟩ x0).setCell ⟨b,1,none⟩ x1).setCell ⟨b,2,none⟩ x2) k R T x :=
 ⟨fun e=>by
   obtain ⟨d,S,a,n,c,hf,hx,ho⟩:=h.1 e
   exact ⟨d,S,a,n,c,hf,hx,ho.set3 hb _ _ _⟩,h.2⟩
theorem InvIs.mono {B B':Nat} {w:World} {k R:Int} {T:List Int} {x:Value} (h:InvIs B w k R T x) (hb:B'≤B):InvIs B' w k R T x :=
 ⟨fun e=>by
   obtain ⟨d,S,a,n,c,hf,hx,ho⟩:=h.1 e
   exact ⟨d,S,a,n,c,hf,hx,ho.mono hb⟩,h.2⟩
theorem ErrIs.open2 {r:Nat→Addr} {w:World} {t:PErr} {v:Value} (h:ErrIs r w t v):v=.nilIface∨∃ T a,v=.iface T (.pointer (some a)):=by
 cases t with
 | none=>exact .inl h.none_eq
 | some t=>exact .inr h.some_shape
noncomputable def radN (k R:Int) (T:List Int):Int:=match invE k R T with
 | some _=>0
 | none=>match findP k.toNat R.toNat T with
  | some (d,_)=>d
  | none=>0
theorem inv_radius (r:Nat→Addr) (k R:Int) (va:Option Addr) (vn vc:Nat) (T:List Int) (w:World) (hg:Glob r w) (h:IntsAt w (.slice va vn vc) T) :
 Calls Tryz.prog 62 #[.agg #[.int .i64 k,.int .i64 R,.slice va vn vc]] w (Ret2 (fun x y w'=>ErrIs r w' (invE k R T) y∧x=.int .i64 (radN k R T)) w):=by
 have b0:=belowAlloc w (.cells #[.int .i64 k,.int .i64 R,.slice va vn vc] 24)
 replace hg:=Hd (hg.below b0)
 replace h:=Hd (h.below b0)
 go_enter Tryz.func62,Tryz.ntmps62
 go_wp2_with fail
 refine (find_any r k R va vn vc T _ hg.out h.out).mono ?_
 rintro e w1 ⟨x,y,rfl,b1,hy,hx⟩
 have hn:∃ k' a n c,x=.agg #[.int .i64 k',.int .i64 (radN k R T),.slice a n c]:=by
  unfold radN
  cases he:invE k R T with
  | none =>
   obtain ⟨d,S,a,n,c,hf,hxx,_⟩:=hx.1 he
   rw [hf]
   exact ⟨_,_,_,_,hxx⟩
  | some t=>exact ⟨0,none,0,0,hx.2 (by rw [he]; simp)⟩
 obtain ⟨k',a,n,c,rfl⟩:=hn
 obtain ⟨N,hN⟩:∃ N,radN k R T=N:=⟨_,rfl⟩
 rw [hN]
 have b2:=belowAlloc w1 (.cells #[.int .i64 k',.int .i64 N,.slice a n c] 24)
 have bE:=Below.step b0 (Below.step b1 b2)
 have hy2:=hy.below b2
 have q:Box3 (w1.alloc (.cells #[.int .i64 k',.int .i64 N,.slice a n c] 24)) w1.heap.size (.int .i64 k') (.int .i64 N) (.slice a n c):=by simp [Box3,go_sem]
 obtain ⟨⟨z0,z1,z2⟩,-,-,-⟩:=q
 replace hx:=Hd hx
 replace hN:=Hd hN
 replace hy:=Hd hy
 replace hy2:=Hd hy2
 rcases hy.out.open2 with rfl | ⟨T3,a3,rfl⟩
 ·go_wp2
  go_ret2
  exact ⟨_,_,rfl,bE,hy2.out,by rw [hN.out]; rfl⟩
 ·go_wp2
  go_ret2
  exact ⟨_,_,rfl,bE,hy2.out,by rw [hN.out]; rfl⟩
theorem of_ok (K R:Nat) (v:Value) (xs:List Int) (w:World) (h:IntsAt w v xs) (hr:RuleOk K R xs) :
 Calls Tryz.prog 57 #[.agg #[.int .i64 K,.int .i64 R,v]] w (Ret3 (fun x y z w'=>z=.nilIface∧y=.bool (isSum K R xs)∧(isSum K R xs=true→OwnI w.heap.size w' x (facs K R xs))∧(isSum K R xs=false→x=.slice none 0 0)) w):=by
 obtain ⟨va,vn,vc,hv⟩:=h.shape
 subst hv
 have hb0:=(Below.refl w.heap.size w).alloc (Nat.le_refl _) (.cells #[.int .i64 K,.int .i64 R,.slice va vn vc] 24)
 have h0:=Hd (h.below hb0)
 clear h
 have hk1:=hr.k1
 have hk4:=hr.k4
 have hr3:=hr.r3
 replace hr:=Hd hr
 obtain ⟨n,hn⟩:∃ n,n=2*R+1:=⟨_,rfl⟩
 have hn7:n≤7:=by omega
 have hnc:(2*(R:Int)+1)=(n:Int):=by omega
 replace hn:=Hd hn
 go_enter Tryz.func57,Tryz.ntmps57
 go_wp2_with fail
 refine (check_ok K R _ xs _ h0.out hr.out).mono ?_
 rintro e w1 ⟨x,rfl,hb,rfl⟩
 obtain ⟨z0,z1,z2,f0,f1,f2⟩:=cells3 hb
 go_wp2_with (at_make; refine wpl_make rfl _ _ rfl _ rfl rfl (by omega) (by omega) ?_)
 intro fv w2 ho hb2
 clear z0 z1 z2 f0 f1 f2
 have hfl:∀ w',(Builtin.len_ #[22] 3 #[fv]).run Tryz.prog w'=.ok (.int .i64 n) w':=by have:=ho.at.len; rwa [List.length_replicate] at this
 go_wp2
 go_loopw [7,22] (fun g i wr=>∃ j:Nat,j≤n∧i=.int .i64 j∧g=.int .i64 (wI K j)∧OwnI w1.heap.size wr fv (facI K n xs j)∧Below w1.heap.size w1 wr) (fun _ i _=>n-(intOf i).toNat)
 case atStart=>exact ⟨0,by omega,rfl,by unfold wI; split<;>rfl,by rw [facI_zero]; exact ho,hb2⟩
 case round =>
  obtain ⟨j,hj,rfl,rfl,ho,hbr⟩:=hrel
  obtain ⟨wo,rfl⟩:∃ wo:World,wo=wr:=⟨_,rfl⟩
  have hbw:=hb.trans (hbr.mono hb.size)
  obtain ⟨z0,z1,z2,f0,f1,f2⟩:=cells3 hbw
  by_cases hlt:j<n
  ·by_cases hK:1<K
   ·have hxl:pw K j<xs.length:=by rw [hr.out.len,← hn.out]; exact pw_lt hK hlt
    have ha:=h0.out.below hbw
    have i1:=ha.idx (pw K j) hxl
    have c1:=ha.cell (pw K j) hxl
    have i2:∀ w',(Instr.indexAt 22 fv (.int .i64 ((n:Int)-1-(j:Int)))).run Tryz.prog w'=.ok (.pointer (some (valAt fv (n-1-j)))) w':=by
     intro w'
     have:=ho.at.idxI ((n:Int)-1-(j:Int)) (by omega) (by rw [facI_length]; omega) w'
     rwa [show ((n:Int)-1-(j:Int)).toNat=n-1-j by omega] at this
    have c2:=ho.at.cell (n-1-j) (by rw [facI_length]; omega)
    have g2:=ho.frz (n-1-j) (by rw [facI_length]; omega)
    have hset:=Hd (ho.set (n-1-j) (by rw [facI_length]; omega) xs[pw K j])
    have hsb:=Hd (ho.setBelow hbr (n-1-j) (by rw [facI_length]; omega) (.int .i64 xs[pw K j]))
    have hne:∀ o,(valAt fv (n-1-j)=⟨w.heap.size,o,none⟩)=False:=by
     intro o
     have hbk:=ho.blkB (n-1-j) (by rw [facI_length]; omega)
     have hs:=hb.size
     simp at hs
     apply eq_false
     intro e
     rw [e] at hbk
     simp at hbk
     omega
    have hfe:Hid ((facI K n xs j).set (n-1-j) xs[pw K j]=facI K n xs (j+1)):=by
     show _=_
     simp only [facI,if_pos hK]
     exact facL_succ K n xs j hlt hxl
    have hwj:wI K j=pw K j:=if_pos hK
    have hwj1:Hid (wI K (j+1)=pw K j*K):=by show _=_; rw [wI,if_pos hK,pw_succ]
    rw [hwj]
    clear hwj
    have hb1:0≤(pw K j:Int)*(K:Int):=Int.mul_nonneg (by omega) (by omega)
    have hb2:(pw K j:Int)*(K:Int)≤16384:=by
     have:=pw_le (i:=j+1) hk1 hk4 (by omega)
     rw [pw_succ] at this
     exact_mod_cast this
    go_wp2
    go_roundw
    case rel =>
     refine ⟨j+1,by omega,by go_num,by rw [hwj1.out]; simp,?_,hsb.out⟩
     rw [← hfe.out]; exact hset.out
    case measure=>simp [intOf]; omega
   ·have hfe:Hid (facI K n xs (j+1)=facI K n xs j):=by show _=_; simp only [facI,if_neg hK]
    have hwj1:Hid (wI K (j+1)=1):=if_neg hK
    have hwj:wI K j=1:=if_neg hK
    rw [hwj]
    clear hwj
    have hK1:K=1:=by omega
    clear hK
    have hKK:(K:Int)≤1:=by omega
    have hKK1:(1:Int)≤K:=by omega
    clear hK1
    go_wp2
    go_roundw
    case rel =>
     refine ⟨j+1,by omega,by go_num,?_,by rw [hfe.out]; exact ho,hbr⟩
     rw [hwj1.out]
    case measure=>simp [intOf]; omega
  ·obtain rfl:j=n:=by omega
   have ha:=h0.out.below hbw
   have hfac:facI K j xs j=facs K R xs:=by rw [hn.out]; rfl
   rw [hfac] at ho
   clear hfac
   replace ha:=Hd ha
   replace ho:=Hd ho
   have hfs:=Hd (facs_syms hr.out)
   have hsz:w.heap.size<wo.heap.size:=World.block_lt_of_cell? _ _ z0
   have hf7:(facs K R xs).length≤7:=by rw [facs_length]; omega
   have hfd:=field_T
   go_wp2
   go_region_held3 (fun w'=>w'.cell? ⟨w.heap.size,0,none⟩=some (.int .i64 K)∧w'.cell? ⟨w.heap.size,2,none⟩=some (.slice va vn vc)) (go_keep)
    (first | (go_at_call 133; refine (sum_any K fv (facs K R xs) _ (by exact ho.out.at) hfs.out hk1 hk4 hf7).mono ?_; rintro e w3 ⟨x,rfl,hb3,ua,un,uc,rfl,hu⟩; have y0:=(hb3.cell (p:=⟨w.heap.size,0,none⟩) (by simp; omega)).trans z0; have y2:=(hb3.cell (p:=⟨w.heap.size,2,none⟩) (by simp; omega)).trans z2) | (go_at_call 134; refine (equal_any _ _ (sumT K (facs K R xs)) xs _ (by exact hu.at) (by exact ha.out.drew.below hb3)).mono ?_; rintro e w4 hq; obtain ⟨rfl,hb4⟩:=hq.below; have y4:=(hb4.cell (p:=⟨w.heap.size,0,none⟩) (World.block_lt_of_cell? _ _ y0)).trans y0; have y5:=(hb4.cell (p:=⟨w.heap.size,2,none⟩) (World.block_lt_of_cell? _ _ y2)).trans y2))
   have hball:Below w.heap.size w w4:=(hb0.trans ((hbw.drew.trans (hb3.mono (by have:=hbw.size; simp at this ⊢; omega))).mono (by simp))).trans (hb4.mono (by have:=hb3.size; simp at this; omega))
   have hown:OwnI w.heap.size w4 fv (facs K R xs):=(((ho.out.drew).below hb3).below hb4).mono (by have:=hb.size; simp at this; omega)
   replace hball:=Hd hball
   replace hown:=Hd hown
   clear y0 y2 y4 y5 hq
   cases hs:isSum K R xs
   ·rw [show decide (sumT K (facs K R xs)=xs)=false from hs]
    replace hs:=Hd hs
    go_wp2
    go_ret3
    exact ⟨_,_,_,rfl,hball.out,rfl,(by rw [hs.out]; rfl),(fun h=>by rw [hs.out] at h; cases h),fun _=>rfl⟩
   ·rw [show decide (sumT K (facs K R xs)=xs)=true from hs]
    replace hs:=Hd hs
    go_wp2
    go_ret3
    exact ⟨_,_,_,rfl,hball.out,rfl,(by rw [hs.out]; rfl),fun _=>hown.out,(fun h=>by rw [hs.out] at h; cases h)⟩
theorem OntoPost.parts {r:Nat→Addr} {B:Nat} {s:SubR} {x y z:Value} {w:World} (h:OntoPost r B s x y z w):(∃ a n c,y=.slice a n c∧OwnI B w (.slice a n c) (orphL s)):=by
 cases s with
 | on _ _=>obtain ⟨rfl,rfl,rfl⟩:=h; exact ⟨_,_,_,rfl,OwnI.nil _ _⟩
 | orphan wd=>obtain ⟨rfl,rfl,ho⟩:=h; obtain ⟨a,n,c,rfl⟩:=ho.at.shape; exact ⟨_,_,_,rfl,ho⟩
 | big=>obtain ⟨rfl,rfl,he⟩:=h; exact ⟨_,_,_,rfl,OwnI.nil _ _⟩
theorem idx5_0 (w:World):(Instr.index 101 (.agg #[.nilIface,.nilIface,.nilIface,.nilIface,.nilIface]) (.int .i64 0)).run Tryz.prog w=.ok .nilIface w:=by kernel_rfl
theorem idx5_1 (w:World):(Instr.index 101 (.agg #[.nilIface,.nilIface,.nilIface,.nilIface,.nilIface]) (.int .i64 1)).run Tryz.prog w=.ok .nilIface w:=by kernel_rfl
theorem idx5_2 (w:World):(Instr.index 101 (.agg #[.nilIface,.nilIface,.nilIface,.nilIface,.nilIface]) (.int .i64 2)).run Tryz.prog w=.ok .nilIface w:=by kernel_rfl
theorem idx5_3 (w:World):(Instr.index 101 (.agg #[.nilIface,.nilIface,.nilIface,.nilIface,.nilIface]) (.int .i64 3)).run Tryz.prog w=.ok .nilIface w:=by kernel_rfl
theorem idx5_4 (w:World):(Instr.index 101 (.agg #[.nilIface,.nilIface,.nilIface,.nilIface,.nilIface]) (.int .i64 4)).run Tryz.prog w=.ok .nilIface w:=by kernel_rfl
noncomputable def radL (K R:Nat) (T:List Int):Int:=if invE K R T=none then radN K R T else -1
def facR (K R:Nat) (T:List Int):List Int:=if isSum K R T=true then facs K R T else []
def RepIs (B:Nat) (w:World) (K R:Nat) (T:List Int) (v:Value):Prop :=
 ∃ (Y F:Bool) (oa:Option Addr) (on oc:Nat) (fa:Option Addr) (fn fc:Nat),(Y=true↔¬ NotOne K R T)∧(F=true↔∀ x y,¬ IsTwins K R T x y) ∧
  v=.agg #[.int .i64 (ontoN (subR K (pw K (2*R)) T)),.slice oa on oc,.bool Y,.bool F,.int .i64 (radL K R T),.bool (isSum K R T),.slice fa fn fc,.bool (unlikeP K T (T.length/K)),.bool (unlikeP K T 1)] ∧
  OwnI B w (.slice oa on oc) (orphL (subR K (pw K (2*R)) T))∧OwnI B w (.slice fa fn fc) (facR K R T)∧((Value.slice oa on oc).ownBlock=none∨(Value.slice oa on oc).ownBlock≠(Value.slice fa fn fc).ownBlock)
theorem look_ok (r:Nat→Addr) (K R:Nat) (va:Option Addr) (vn vc:Nat) (T:List Int) (w:World) (hg:Glob r w) (hG:GlobE w) (h:IntsAt w (.slice va vn vc) T) (hr:RuleOk K R T) (hl:T.length≤256) :
 Calls Tryz.prog 23 #[.agg #[.int .i64 K,.int .i64 R,.slice va vn vc]] w (Ret2 (fun x y w'=>y=.nilIface∧RepIs w.heap.size w' K R T x) w):=by
 have b0:=belowAlloc w (.cells #[.int .i64 K,.int .i64 R,.slice va vn vc] 24)
 have q:Box3 (w.alloc (.cells #[.int .i64 K,.int .i64 R,.slice va vn vc] 24)) w.heap.size (.int .i64 K) (.int .i64 R) (.slice va vn vc):=by simp [Box3,go_sem]
 obtain ⟨f0,hR0,n45,-⟩:=(Rows.void w.heap.size w).mkN (45,0) (Nat.le_refl _) 24 3 #[.int .i64 K,.int .i64 R,.slice va vn vc] rfl
 obtain ⟨f1,hR1,n42,o1⟩:=hR0.mkN (42,0) (by simp) 46 9 #[.int .i64 0,.slice none 0 0,.bool false,.bool false,.int .i64 0,.bool false,.slice none 0 0,.bool false,.bool false] rfl
 replace n45:=(o1 _ (by decide)).trans n45
 have b1:=belowAlloc (w.alloc (.cells #[.int .i64 K,.int .i64 R,.slice va vn vc] 24)) (.cells #[.int .i64 0,.slice none 0 0,.bool false,.bool false,.int .i64 0,.bool false,.slice none 0 0,.bool false,.bool false] 46)
 have hsz:(w.alloc (.cells #[.int .i64 K,.int .i64 R,.slice va vn vc] 24)).heap.size=w.heap.size+1:=by simp
 rw [hsz] at n42
 replace q:=q.below b1
 have b01:=Below.step b0 b1
 obtain ⟨w1,hw1⟩:∃ W:World,(w.alloc (.cells #[.int .i64 K,.int .i64 R,.slice va vn vc] 24)).alloc (.cells #[.int .i64 0,.slice none 0 0,.bool false,.bool false,.int .i64 0,.bool false,.slice none 0 0,.bool false,.bool false] 46)=W:=⟨_,rfl⟩
 have hs1:((w.alloc (.cells #[.int .i64 K,.int .i64 R,.slice va vn vc] 24)).alloc (.cells #[.int .i64 0,.slice none 0 0,.bool false,.bool false,.int .i64 0,.bool false,.slice none 0 0,.bool false,.bool false] 46)).heap.size=w.heap.size+2:=by simp
 rw [hw1] at q b01 hR1 hs1
 have hsm:=smallP_small hr hl
 have hg1:=Hd (hg.below b01)
 have hG1:=Hd (hG.below b01)
 have hT1:=Hd (h.below b01)
 obtain ⟨S,hS⟩:∃ S,subR K (pw K (2*R)) T=S:=⟨_,rfl⟩
 obtain ⟨i1,i2,i3⟩:=invE_ok hr hl
 obtain ⟨L,hL⟩:∃ L,unlikeP K T (T.length/K)=L:=⟨_,rfl⟩
 obtain ⟨P,hP⟩:∃ P,unlikeP K T 1=P:=⟨_,rfl⟩
 have hsum:(isSum K R T=true→facR K R T=facs K R T)∧(isSum K R T=false→facR K R T=[]):=⟨fun e=>by unfold facR; rw [if_pos e],fun e=>by unfold facR; rw [e]; rfl⟩
 have hrad:(invE K R T=none→radL K R T=radN K R T)∧(invE K R T≠none→radL K R T=-1):=⟨fun e=>by unfold radL; rw [if_pos e],fun e=>by unfold radL; rw [if_neg e]⟩
 have hB:w.heap.size≤w1.heap.size:=b01.size
 replace hg:=Hd hg
 replace hG:=Hd hG
 replace h:=Hd h
 replace hr:=Hd hr
 replace hsm:=Hd hsm
 replace hS:=Hd hS
 replace i1:=Hd i1
 replace i2:=Hd i2
 replace i3:=Hd i3
 replace hL:=Hd hL
 replace hP:=Hd hP
 replace hsum:=Hd hsum
 replace hrad:=Hd hrad
 replace hR1:=Hd hR1
 replace n42:=Hd n42
 replace n45:=Hd n45
 replace hw1:=Hd hw1
 replace hsz:=Hd hsz
 clear b0 b1 o1 hR0
 obtain ⟨⟨z0,z1,z2⟩,-,-,-⟩:=id q
 go_enter Tryz.func23,Tryz.ntmps23
 go_upto_region 1 with fail
 rw [hw1.out]
 go_wp2_with fail
 refine (small_any r K R va vn vc T w1 hg1.out hT1.out).mono ?_
 rintro e w2 ⟨x,rfl,b2,he⟩
 rw [hsm.out] at he
 obtain rfl:=he.none_eq
 clear he z0 z1 z2
 have b12:=Below.step b01 b2
 -- the boxes of the report and of the errors
 obtain ⟨f3,hR3,n40,o3⟩:=(hR1.out.below b2).mkN (40,0) b12.size 46 9 #[.int .i64 0,.slice none 0 0,.bool false,.bool false,.int .i64 0,.bool false,.slice none 0 0,.bool false,.bool false] rfl
 have b3:=belowAlloc w2 (.cells #[.int .i64 0,.slice none 0 0,.bool false,.bool false,.int .i64 0,.bool false,.slice none 0 0,.bool false,.bool false] 46)
 have b13:=Below.step b12 b3
 obtain ⟨f4,hR4,n41,o4⟩:=hR3.mkN (41,0) b13.size 101 5 #[.nilIface,.nilIface,.nilIface,.nilIface,.nilIface] rfl
 have b4:=belowAlloc (w2.alloc (.cells #[.int .i64 0,.slice none 0 0,.bool false,.bool false,.int .i64 0,.bool false,.slice none 0 0,.bool false,.bool false] 46)) (.cells #[.nilIface,.nilIface,.nilIface,.nilIface,.nilIface] 101)
 have hsz3:(w2.alloc (.cells #[.int .i64 0,.slice none 0 0,.bool false,.bool false,.int .i64 0,.bool false,.slice none 0 0,.bool false,.bool false] 46)).heap.size=w2.heap.size+1:=by simp
 rw [hsz3] at n41
 have b24:=Below.step b3 b4
 have b14:=Below.step b12 b24
 obtain ⟨w4,hw4⟩:∃ W:World,(w2.alloc (.cells #[.int .i64 0,.slice none 0 0,.bool false,.bool false,.int .i64 0,.bool false,.slice none 0 0,.bool false,.bool false] 46)).alloc (.cells #[.nilIface,.nilIface,.nilIface,.nilIface,.nilIface] 101)=W:=⟨_,rfl⟩
 rw [hw4] at hR4 b14 b24
 have A4:LkAt w.heap.size w4 w.heap.size w2.heap.size (w2.heap.size+1) (w.heap.size+1) [.int .i64 K,.int .i64 R,.slice va vn vc] [.int .i64 0,.slice none 0 0,.bool false,.bool false,.int .i64 0,.bool false,.slice none 0 0,.bool false,.bool false] [.nilIface,.nilIface,.nilIface,.nilIface,.nilIface] [.int .i64 0,.slice none 0 0,.bool false,.bool false,.int .i64 0,.bool false,.slice none 0 0,.bool false,.bool false] (.slice none 0 0) (.slice none 0 0) [] []:=by
  obtain ⟨f5,hR5,n43,o5⟩:=hR4.addE (43,0) (r':=rowI (.slice none 0 0) []) (Below.refl _ _) (OwnI.nil _ _) (fun k hk=>by cases hk)
  obtain ⟨f6,hR6,n44,o6⟩:=hR5.addE (44,0) (r':=rowI (.slice none 0 0) []) (Below.refl _ _) (OwnI.nil _ _) (fun k hk=>by cases hk)
  exact ⟨f6,hR6,(o6 _ (by decide)).trans ((o5 _ (by decide)).trans ((o4 _ (by decide)).trans n40)),(o6 _ (by decide)).trans ((o5 _ (by decide)).trans n41),(o6 _ (by decide)).trans ((o5 _ (by decide)).trans ((o4 _ (by decide)).trans ((o3 _ (by decide)).trans n42.out))),(o6 _ (by decide)).trans n43,n44,(o6 _ (by decide)).trans ((o5 _ (by decide)).trans ((o4 _ (by decide)).trans ((o3 _ (by decide)).trans n45.out)))⟩
 obtain ⟨x,hx⟩:∃ x,w2.heap.size=x:=⟨_,rfl⟩
 obtain ⟨ee,hee⟩:∃ x,w2.heap.size+1=x:=⟨_,rfl⟩
 obtain ⟨o,ho⟩:∃ x,w.heap.size+1=x:=⟨_,rfl⟩
 rw [hee,hx,ho] at A4
 have hs2:=b2.size
 have hxe:¬ (x=ee):=by omega
 have hex:¬ (ee=x):=by omega
 have hxo:¬ (x=o):=by omega
 have hox:¬ (o=x):=by omega
 have heo:¬ (ee=o):=by omega
 have hoe:¬ (o=ee):=by omega
 clear hs1 hs2
 clear hR3 hR4 n40 n41 o3 o4 b3 b4 b13 hsz3 f3 f4
 replace A4:=Hd A4
 replace hw4:=Hd hw4
 replace hx:=Hd hx
 replace hee:=Hd hee
 replace ho:=Hd ho
 clear hR1 n42 n45 hsz hw1 q
 go_upto_region 7 with fail
 rw [hw4.out,hee.out,hx.out,ho.out]
 clear hw4
 have z0:=A4.out.cr 0 (by decide)
 have z1:=A4.out.cr 1 (by decide)
 have z2:=A4.out.cr 2 (by decide)
 have lowx:=A4.out.low
 go_wp2_with fail
 refine (sub_onto r K R va vn vc T w4 (hg.out.below b14) (hG.out.below b14) (h.out.below b14) hr.out hl).mono ?_
 rintro e w5 ⟨xv,_,zv,rfl,b5,hon⟩
 clear z0 z1 z2
 rw [hS.out] at hon
 obtain ⟨oa,on,oc,rfl,hor⟩:=hon.parts
 obtain ⟨xb,rfl⟩:∃ b,xv=.bool b:=by
  cases S with
  | on _ _=>exact ⟨_,hon.1⟩
  | orphan _=>exact ⟨_,hon.1⟩
  | big=>exact ⟨_,hon.1⟩
 have hcz:(zv=.nilIface∧(xb=true→ontoN S=1)∧(xb=false→ontoN S=2))∨∃ p,zv=.iface 119 (.pointer (some p))∧ErrIs r w5 (fresh sSubset 0 4) zv∧ontoN S=3:=by
  cases S with
  | on _ _=>obtain ⟨h1,-,h3⟩:=hon; injection h1 with h1; exact .inl ⟨h3,fun _=>rfl,fun q=>by rw [h1] at q; cases q⟩
  | orphan _=>obtain ⟨h1,h3,-⟩:=hon; injection h1 with h1; exact .inl ⟨h3,(fun q=>by rw [h1] at q; cases q),fun _=>rfl⟩
  | big =>
   obtain ⟨-,-,h3⟩:=hon
   have h4:=h3
   obtain ⟨p,u,rfl,-⟩:=h4
   exact .inr ⟨_,rfl,h3,rfl⟩
 clear hon
 have A5:=A4.out.orphan b5 b14.size hor
 have c5:=Below.step b14 b5
 replace hor:=Hd hor
 rcases hcz with ⟨rfl,k1,k2⟩ | ⟨zp,rfl,hze,k3⟩
 case' inl =>
  have g1:=A5.cx 1 (by decide)
  have h1:=A5.fx 1
  have S1:=A5.sx 1 (.slice oa on oc)
  have d1:=c5.setCell (p:=⟨x,1,none⟩) lowx.1 (.slice oa on oc)
  have g2:=S1.ce 0 (by decide)
  have h2:=S1.fe 0
  have S2:=S1.se 0 (.nilIface)
  have d2:=d1.setCell (p:=⟨ee,0,none⟩) lowx.2.1 (.nilIface)
  replace k1:=Hd k1
  replace k2:=Hd k2
  go_upto_block 0 with fail
  clear g1 h1 g2 h2
  go_cut [] from 27 (fun wx=>Below w.heap.size w wx∧LkAt w.heap.size wx w.heap.size x ee o [.int .i64 K,.int .i64 R,.slice va vn vc] [.int .i64 (ontoN S),.slice oa on oc,.bool false,.bool false,.int .i64 0,.bool false,.slice none 0 0,.bool false,.bool false] [.nilIface,.nilIface,.nilIface,.nilIface,.nilIface] [.int .i64 0,.slice none 0 0,.bool false,.bool false,.int .i64 0,.bool false,.slice none 0 0,.bool false,.bool false] (.slice oa on oc) (.slice none 0 0) (orphL S) [])
  case first =>
   have tb:=(hg.out.below d2).c4
   have e1:=S2.ce 0 (by decide)
   go_wp2_with fail
   refine (Errs.is_nil _ _ _).mono ?_
   rintro e w6 ⟨rfl,rfl⟩
   clear e1
   cases xb with
   | true =>
    have g3:=S2.cx 0 (by decide)
    have h3:=S2.fx 0
    have S3:=S2.sx 0 (.int .i64 1)
    have d3:=d2.setCell (p:=⟨x,0,none⟩) lowx.1 (.int .i64 1)
    have RK:=S3
    have Rb:=d3
    have hfin:Below w.heap.size w (((w5.setCell ⟨x,1,none⟩ (.slice oa on oc)).setCell ⟨ee,0,none⟩ .nilIface).setCell ⟨x,0,none⟩ (.int .i64 1))∧LkAt w.heap.size (((w5.setCell ⟨x,1,none⟩ (.slice oa on oc)).setCell ⟨ee,0,none⟩ .nilIface).setCell ⟨x,0,none⟩ (.int .i64 1)) w.heap.size x ee o [.int .i64 K,.int .i64 R,.slice va vn vc] [.int .i64 (ontoN S),.slice oa on oc,.bool false,.bool false,.int .i64 0,.bool false,.slice none 0 0,.bool false,.bool false] [.nilIface,.nilIface,.nilIface,.nilIface,.nilIface] [.int .i64 0,.slice none 0 0,.bool false,.bool false,.int .i64 0,.bool false,.slice none 0 0,.bool false,.bool false] (.slice oa on oc) (.slice none 0 0) (orphL S) []:=by rw [k1.out rfl]; exact ⟨Rb,RK⟩
    clear RK Rb k1 k2
    replace hfin:=Hd hfin
    go_wp2
    go_meet
    case rel=>exact hfin.out
   | false =>
    have g3:=S2.cx 0 (by decide)
    have h3:=S2.fx 0
    have S3:=S2.sx 0 (.int .i64 2)
    have d3:=d2.setCell (p:=⟨x,0,none⟩) lowx.1 (.int .i64 2)
    have RK:=S3
    have Rb:=d3
    have hfin:Below w.heap.size w (((w5.setCell ⟨x,1,none⟩ (.slice oa on oc)).setCell ⟨ee,0,none⟩ .nilIface).setCell ⟨x,0,none⟩ (.int .i64 2))∧LkAt w.heap.size (((w5.setCell ⟨x,1,none⟩ (.slice oa on oc)).setCell ⟨ee,0,none⟩ .nilIface).setCell ⟨x,0,none⟩ (.int .i64 2)) w.heap.size x ee o [.int .i64 K,.int .i64 R,.slice va vn vc] [.int .i64 (ontoN S),.slice oa on oc,.bool false,.bool false,.int .i64 0,.bool false,.slice none 0 0,.bool false,.bool false] [.nilIface,.nilIface,.nilIface,.nilIface,.nilIface] [.int .i64 0,.slice none 0 0,.bool false,.bool false,.int .i64 0,.bool false,.slice none 0 0,.bool false,.bool false] (.slice oa on oc) (.slice none 0 0) (orphL S) []:=by rw [k2.out rfl]; exact ⟨Rb,RK⟩
    clear RK Rb k1 k2
    replace hfin:=Hd hfin
    go_wp2
    go_meet
    case rel=>exact hfin.out
 case' inr =>
  have g1:=A5.cx 1 (by decide)
  have h1:=A5.fx 1
  have S1:=A5.sx 1 (.slice oa on oc)
  have d1:=c5.setCell (p:=⟨x,1,none⟩) lowx.1 (.slice oa on oc)
  have g2:=S1.ce 0 (by decide)
  have h2:=S1.fe 0
  have S2:=S1.se 0 ((.iface 119 (.pointer (some zp))))
  have d2:=d1.setCell (p:=⟨ee,0,none⟩) lowx.2.1 ((.iface 119 (.pointer (some zp))))
  replace k3:=Hd k3
  go_upto_block 0 with fail
  clear g1 h1 g2 h2
  go_cut [] from 27 (fun wx=>Below w.heap.size w wx∧LkAt w.heap.size wx w.heap.size x ee o [.int .i64 K,.int .i64 R,.slice va vn vc] [.int .i64 (ontoN S),.slice oa on oc,.bool false,.bool false,.int .i64 0,.bool false,.slice none 0 0,.bool false,.bool false] [.nilIface,.nilIface,.nilIface,.nilIface,.nilIface] [.int .i64 0,.slice none 0 0,.bool false,.bool false,.int .i64 0,.bool false,.slice none 0 0,.bool false,.bool false] (.slice oa on oc) (.slice none 0 0) (orphL S) [])
  case first =>
   have tb:=(hg.out.below d2).c4
   have his:=Errs.is_any r 4 _ _ _ ((hze.set (b:=x) (i:=1) (fun s q=>by rw [A5.cx 0 (by decide)] at q; cases q) (.slice oa on oc)).set (b:=ee) (i:=0) (fun s q=>by rw [S1.ce 0 (by decide)] at q; cases q) (.iface 119 (.pointer (some zp))))
   have e1:=S2.ce 0 (by decide)
   replace hze:=Hd hze
   go_wp2_with fail
   refine his.mono ?_
   rintro e w6 ⟨rfl,rfl⟩
   clear his
   clear e1
   have g3:=S2.cx 0 (by decide)
   have h3:=S2.fx 0
   have S3:=S2.sx 0 (.int .i64 3)
   have d3:=d2.setCell (p:=⟨x,0,none⟩) lowx.1 (.int .i64 3)
   have g4:=S3.ce 0 (by decide)
   have h4:=S3.fe 0
   have S4:=S3.se 0 (.nilIface)
   have d4:=d3.setCell (p:=⟨ee,0,none⟩) lowx.2.1 (.nilIface)
   have RK:=S4
   have Rb:=d4
   have hfin:Below w.heap.size w ((((w5.setCell ⟨x,1,none⟩ (.slice oa on oc)).setCell ⟨ee,0,none⟩ (.iface 119 (.pointer (some zp)))).setCell ⟨x,0,none⟩ (.int .i64 3)).setCell ⟨ee,0,none⟩ .nilIface)∧LkAt w.heap.size ((((w5.setCell ⟨x,1,none⟩ (.slice oa on oc)).setCell ⟨ee,0,none⟩ (.iface 119 (.pointer (some zp)))).setCell ⟨x,0,none⟩ (.int .i64 3)).setCell ⟨ee,0,none⟩ .nilIface) w.heap.size x ee o [.int .i64 K,.int .i64 R,.slice va vn vc] [.int .i64 (ontoN S),.slice oa on oc,.bool false,.bool false,.int .i64 0,.bool false,.slice none 0 0,.bool false,.bool false] [.nilIface,.nilIface,.nilIface,.nilIface,.nilIface] [.int .i64 0,.slice none 0 0,.bool false,.bool false,.int .i64 0,.bool false,.slice none 0 0,.bool false,.bool false] (.slice oa on oc) (.slice none 0 0) (orphL S) []:=by rw [k3.out]; exact ⟨Rb,RK⟩
   clear RK Rb k3
   replace hfin:=Hd hfin
   go_wp2
   go_meet
   case rel=>exact hfin.out
 all_goals
  obtain ⟨bc,AC⟩:=hcut
  clear S1 S2 d1 d2 A5 c5 b14 A4 lowx
  have lowx:=AC.low
  have hBx:=bc.size
  have z0:=AC.cr 0 (by decide)
  have z1:=AC.cr 1 (by decide)
  have z2:=AC.cr 2 (by decide)
  go_wp2_with fail
  refine (one_ok r K R va vn vc T _ (hg.out.below bc) (h.out.below bc) hr.out hl).mono ?_
  rintro e w7 ⟨_,_,_,_,rfl,b7,hp⟩
  clear z0 z1 z2
  obtain ⟨rfl,Y,rfl,hY,e1,f1,g1,e2,f2,g2,e3,f3,g3,e4,f4,g4,e5,f5,g5,e6,f6,g6,rfl,rfl⟩:=hp.ans
  clear hp
  replace hY:=Hd hY
  have A7:=AC.below b7
  have c7:=Below.step bc b7
  have g11:=A7.cx 2 (by decide)
  have h11:=A7.fx 2
  have S11:=A7.sx 2 (.bool Y)
  have d11:=c7.setCell (p:=⟨x,2,none⟩) lowx.1 (.bool Y)
  have g12:=S11.ce 1 (by decide)
  have h12:=S11.fe 1
  have S12:=S11.se 1 (.nilIface)
  have d12:=d11.setCell (p:=⟨ee,1,none⟩) lowx.2.1 (.nilIface)
  have z0:=S12.cr 0 (by decide)
  have z1:=S12.cr 1 (by decide)
  have z2:=S12.cr 2 (by decide)
  go_wp2_with fail
  refine (finite_ok r K R va vn vc T _ (hg.out.below d12) (h.out.below d12) hr.out hl).mono ?_
  rintro e w8 ⟨fy,fa9,fb9,_,rfl,b8,hf⟩
  clear g11 h11 g12 h12 z0 z1 z2
  obtain ⟨F,rfl,hF⟩:∃ F:Bool,fy=.bool F∧(F=true↔∀ x y,¬ IsTwins K R T x y):=by
   obtain ⟨-,⟨rfl,-,-,hn⟩ | ⟨rfl,x1,y1,-,ht,-⟩⟩:=hf
   ·exact ⟨true,rfl,⟨fun _=>hn,fun _=>rfl⟩⟩
   ·exact ⟨false,rfl,⟨fun q=>(by cases q),fun q=>absurd ht (q x1 y1)⟩⟩
  obtain ⟨⟨qa1,qa2,qa3,rfl⟩,qb1,qb2,qb3,rfl⟩:(∃ a n c,fa9=.slice a n c)∧∃ a n c,fb9=.slice a n c:=by
   obtain ⟨-,⟨-,rfl,rfl,-⟩ | ⟨-,x1,y1,-,-,-,-,o1,o2,-⟩⟩:=hf
   ·exact ⟨⟨_,_,_,rfl⟩,_,_,_,rfl⟩
   ·exact ⟨o1.at.shape,o2.at.shape⟩
  obtain rfl:=hf.1
  clear hf
  replace hF:=Hd hF
  have A8:=S12.below b8
  have c8:=Below.step d12 b8
  have g13:=A8.cx 3 (by decide)
  have h13:=A8.fx 3
  have S13:=A8.sx 3 (.bool F)
  have d13:=c8.setCell (p:=⟨x,3,none⟩) lowx.1 (.bool F)
  have g14:=S13.ce 2 (by decide)
  have h14:=S13.fe 2
  have S14:=S13.se 2 (.nilIface)
  have d14:=d13.setCell (p:=⟨ee,2,none⟩) lowx.2.1 (.nilIface)
  have z0:=S14.cr 0 (by decide)
  have z1:=S14.cr 1 (by decide)
  have z2:=S14.cr 2 (by decide)
  go_wp2_with fail
  refine (inv_radius r K R va vn vc T _ (hg.out.below d14) (h.out.below d14)).mono ?_
  rintro e w9 ⟨_,ev,rfl,b9,hev,rfl⟩
  clear g13 h13 g14 h14 z0 z1 z2
  have A9:=S14.below b9
  have c9:=Below.step d14 b9
  obtain ⟨N,hN⟩:∃ N,radN K R T=N:=⟨_,rfl⟩
  rw [hN]
  replace hN:=Hd hN
  have hev2:=hev.open2
  go_upto_block 1 with fail
  go_cut [] from 61 (fun wx=>Below w.heap.size w wx∧LkAt w.heap.size wx w.heap.size x ee o [.int .i64 K,.int .i64 R,.slice va vn vc] [.int .i64 (ontoN S),.slice oa on oc,.bool Y,.bool F,.int .i64 (radL K R T),.bool false,.slice none 0 0,.bool false,.bool false] [.nilIface,.nilIface,.nilIface,.nilIface,.nilIface] [.int .i64 0,.slice none 0 0,.bool false,.bool false,.int .i64 0,.bool false,.slice none 0 0,.bool false,.bool false] (.slice oa on oc) (.slice none 0 0) (orphL S) [])
  case first =>
   by_cases hE:invE K R T=none
   ·rw [hE] at hev
    obtain rfl:=hev.none_eq
    have hrd:=hrad.out.1 hE
    rw [hN.out] at hrd
    clear hev2
    replace hE:=Hd hE
    replace hev:=Hd hev
    have g15:=A9.cx 4 (by decide)
    have h15:=A9.fx 4
    have S15:=A9.sx 4 (.int .i64 N)
    have d15:=c9.setCell (p:=⟨x,4,none⟩) lowx.1 (.int .i64 N)
    have RK:=S15
    have Rb:=d15
    have hfin:LkAt w.heap.size (w9.setCell ⟨x,4,none⟩ (.int .i64 N)) w.heap.size x ee o [.int .i64 K,.int .i64 R,.slice va vn vc] [.int .i64 (ontoN S),.slice oa on oc,.bool Y,.bool F,.int .i64 (radL K R T),.bool false,.slice none 0 0,.bool false,.bool false] [.nilIface,.nilIface,.nilIface,.nilIface,.nilIface] [.int .i64 0,.slice none 0 0,.bool false,.bool false,.int .i64 0,.bool false,.slice none 0 0,.bool false,.bool false] (.slice oa on oc) (.slice none 0 0) (orphL S) []:=by rw [hrd]; exact RK
    clear RK hrd
    replace hfin:=Hd hfin
    replace Rb:=Hd Rb
    go_wp2
    go_meet
    case rel=>exact ⟨Rb.out,hfin.out⟩
   ·have hrd:=hrad.out.2 hE
    have hcode:invE K R T=fresh sInverse 0 9∨invE K R T=fresh sInverse 0 4:=by
     by_cases hno:NotOne K R T
     ·exact .inl (i1.out hno)
     ·refine .inr (i2.out hno (Classical.byContradiction fun q=>hE (i3.out hno q)))
    have tb:=(hg.out.below c9).c4
    have tn:=(hg.out.below c9).c9
    have hgw:=hg.out.below c9
    clear hev2
    replace hE:=Hd hE
    replace hgw:=Hd hgw
    rcases hcode with hc | hc
    ·rw [hc] at hev
     have hev':=hev
     obtain ⟨zp,zu,rfl,-⟩:=hev'
     replace hc:=Hd hc
     replace hev:=Hd hev
     go_wp2_with fail
     refine (Errs.is_any r 9 _ _ _ hev.out).mono ?_
     rintro e w11 ⟨rfl,rfl⟩
     have g15:=A9.cx 4 (by decide)
     have h15:=A9.fx 4
     have S15:=A9.sx 4 (.int .i64 (-1))
     have d15:=c9.setCell (p:=⟨x,4,none⟩) lowx.1 (.int .i64 (-1))
     have RK:=S15
     have Rb:=d15
     have hfin:LkAt w.heap.size (w9.setCell ⟨x,4,none⟩ (.int .i64 (-1))) w.heap.size x ee o [.int .i64 K,.int .i64 R,.slice va vn vc] [.int .i64 (ontoN S),.slice oa on oc,.bool Y,.bool F,.int .i64 (radL K R T),.bool false,.slice none 0 0,.bool false,.bool false] [.nilIface,.nilIface,.nilIface,.nilIface,.nilIface] [.int .i64 0,.slice none 0 0,.bool false,.bool false,.int .i64 0,.bool false,.slice none 0 0,.bool false,.bool false] (.slice oa on oc) (.slice none 0 0) (orphL S) []:=by rw [hrd]; exact RK
     clear RK hrd
     replace hfin:=Hd hfin
     replace Rb:=Hd Rb
     go_wp2
     go_meet
     case rel=>exact ⟨Rb.out,hfin.out⟩
    ·rw [hc] at hev
     have hev':=hev
     obtain ⟨zp,zu,rfl,-⟩:=hev'
     replace hc:=Hd hc
     replace hev:=Hd hev
     go_wp2_with fail
     refine (Errs.is_no r 4 9 _ _ _ hgw.out hev.out (by decide) (by decide) (by decide)).mono ?_
     rintro e w11 ⟨rfl,rfl⟩
     go_wp2_with fail
     refine (Errs.is_any r 4 _ _ _ hev.out).mono ?_
     rintro e w11 ⟨rfl,rfl⟩
     have g15:=A9.cx 4 (by decide)
     have h15:=A9.fx 4
     have S15:=A9.sx 4 (.int .i64 (-1))
     have d15:=c9.setCell (p:=⟨x,4,none⟩) lowx.1 (.int .i64 (-1))
     have RK:=S15
     have Rb:=d15
     have hfin:LkAt w.heap.size (w9.setCell ⟨x,4,none⟩ (.int .i64 (-1))) w.heap.size x ee o [.int .i64 K,.int .i64 R,.slice va vn vc] [.int .i64 (ontoN S),.slice oa on oc,.bool Y,.bool F,.int .i64 (radL K R T),.bool false,.slice none 0 0,.bool false,.bool false] [.nilIface,.nilIface,.nilIface,.nilIface,.nilIface] [.int .i64 0,.slice none 0 0,.bool false,.bool false,.int .i64 0,.bool false,.slice none 0 0,.bool false,.bool false] (.slice oa on oc) (.slice none 0 0) (orphL S) []:=by rw [hrd]; exact RK
     clear RK hrd
     replace hfin:=Hd hfin
     replace Rb:=Hd Rb
     go_wp2
     go_meet
     case rel=>exact ⟨Rb.out,hfin.out⟩
  case rest =>
   obtain ⟨bd,AD⟩:=hcut
   clear hev hev2
   clear lowx
   have lowx:=AD.low
   have hBd:=bd.size
   have z0:=AD.cr 0 (by decide)
   have z1:=AD.cr 1 (by decide)
   have z2:=AD.cr 2 (by decide)
   go_wp2_with fail
   refine (of_ok K R _ T _ (h.out.below bd) hr.out).mono ?_
   rintro e w12 ⟨fv9,_,_,rfl,b12,rfl,rfl,hs1,hs0⟩
   clear z0 z1 z2
   obtain ⟨fa,fn,fc,rfl,hfo⟩:∃ a n c,fv9=.slice a n c∧OwnI wc.heap.size w12 (.slice a n c) (facR K R T):=by
    cases hi:isSum K R T with
    | true=>have ho:=hs1 hi; rw [← hsum.out.1 hi] at ho; obtain ⟨a,n,c,rfl⟩:=ho.at.shape; exact ⟨_,_,_,rfl,ho⟩
    | false=>rw [hs0 hi,hsum.out.2 hi]; exact ⟨_,_,_,rfl,OwnI.nil _ _⟩
   clear hs1 hs0
   have A12:=AD.facs b12 bd.size hfo
   have c12:=Below.step bd b12
   replace hfo:=Hd hfo
   have g21:=A12.cx 6 (by decide)
   have h21:=A12.fx 6
   have S21:=A12.sx 6 (.slice fa fn fc)
   have d21:=c12.setCell (p:=⟨x,6,none⟩) lowx.1 (.slice fa fn fc)
   have g22:=S21.cx 5 (by decide)
   have h22:=S21.fx 5
   have S22:=S21.sx 5 (.bool (isSum K R T))
   have d22:=d21.setCell (p:=⟨x,5,none⟩) lowx.1 (.bool (isSum K R T))
   have g23:=S22.ce 3 (by decide)
   have h23:=S22.fe 3
   have S23:=S22.se 3 (.nilIface)
   have d23:=d22.setCell (p:=⟨ee,3,none⟩) lowx.2.1 (.nilIface)
   have z0:=S23.cr 0 (by decide)
   have z1:=S23.cr 1 (by decide)
   have z2:=S23.cr 2 (by decide)
   go_wp2_with fail
   refine (sides_ok K R va vn vc T _ (h.out.below d23) hr.out).mono ?_
   rintro e w13 ⟨_,_,_,rfl,b13,rfl,rfl,rfl⟩
   clear g21 h21 g22 h22 g23 h23 z0 z1 z2
   rw [hL.out,hP.out]
   have A13:=S23.below b13
   have c13:=Below.step d23 b13
   have g24:=A13.cx 7 (by decide)
   have h24:=A13.fx 7
   have S24:=A13.sx 7 (.bool L)
   have d24:=c13.setCell (p:=⟨x,7,none⟩) lowx.1 (.bool L)
   have g25:=S24.cx 8 (by decide)
   have h25:=S24.fx 8
   have S25:=S24.sx 8 (.bool P)
   have d25:=d24.setCell (p:=⟨x,8,none⟩) lowx.1 (.bool P)
   have g26:=S25.ce 4 (by decide)
   have h26:=S25.fe 4
   have S26:=S25.se 4 (.nilIface)
   have d26:=d25.setCell (p:=⟨ee,4,none⟩) lowx.2.1 (.nilIface)
   have AE:=S26
   have bE:=d26
   obtain ⟨WE,hWE⟩:∃ W:World,(((w13.setCell ⟨x,7,none⟩ (.bool L)).setCell ⟨x,8,none⟩ (.bool P)).setCell ⟨ee,4,none⟩ .nilIface)=W:=⟨_,rfl⟩
   rw [hWE] at AE bE
   replace AE:=Hd AE
   replace bE:=Hd bE
   replace hWE:=Hd hWE
   go_upto_region 23 with fail
   rw [hWE.out]
   replace AE:=AE.out
   replace bE:=bE.out
   clear g24 h24 g25 h25 g26 h26
   clear hWE
   have ce0:=AE.ce 0 (by decide)
   have ce1:=AE.ce 1 (by decide)
   have ce2:=AE.ce 2 (by decide)
   have ce3:=AE.ce 3 (by decide)
   have ce4:=AE.ce 4 (by decide)
   have cx0:=AE.cx 0 (by decide)
   have co0:=AE.co 0 (by decide)
   have cf0:=AE.fo 0
   have cx1:=AE.cx 1 (by decide)
   have co1:=AE.co 1 (by decide)
   have cf1:=AE.fo 1
   have cx2:=AE.cx 2 (by decide)
   have co2:=AE.co 2 (by decide)
   have cf2:=AE.fo 2
   have cx3:=AE.cx 3 (by decide)
   have co3:=AE.co 3 (by decide)
   have cf3:=AE.fo 3
   have cx4:=AE.cx 4 (by decide)
   have co4:=AE.co 4 (by decide)
   have cf4:=AE.fo 4
   have cx5:=AE.cx 5 (by decide)
   have co5:=AE.co 5 (by decide)
   have cf5:=AE.fo 5
   have cx6:=AE.cx 6 (by decide)
   have co6:=AE.co 6 (by decide)
   have cf6:=AE.fo 6
   have cx7:=AE.cx 7 (by decide)
   have co7:=AE.co 7 (by decide)
   have cf7:=AE.fo 7
   have cx8:=AE.cx 8 (by decide)
   have co8:=AE.co 8 (by decide)
   have cf8:=AE.fo 8
   have AF:=(((((((((AE.so 0 (.int .i64 (ontoN S))).so 1 (.slice oa on oc)).so 2 (.bool Y)).so 3 (.bool F)).so 4 (.int .i64 (radL K R T))).so 5 (.bool (isSum K R T))).so 6 (.slice fa fn fc)).so 7 (.bool L)).so 8 (.bool P))
   have bF:=(((((((((bE.setCell (p:=⟨o,0,none⟩) lowx.2.2 (.int .i64 (ontoN S))).setCell (p:=⟨o,1,none⟩) lowx.2.2 (.slice oa on oc)).setCell (p:=⟨o,2,none⟩) lowx.2.2 (.bool Y)).setCell (p:=⟨o,3,none⟩) lowx.2.2 (.bool F)).setCell (p:=⟨o,4,none⟩) lowx.2.2 (.int .i64 (radL K R T))).setCell (p:=⟨o,5,none⟩) lowx.2.2 (.bool (isSum K R T))).setCell (p:=⟨o,6,none⟩) lowx.2.2 (.slice fa fn fc)).setCell (p:=⟨o,7,none⟩) lowx.2.2 (.bool L)).setCell (p:=⟨o,8,none⟩) lowx.2.2 (.bool P))
   obtain ⟨WF,hWF⟩:∃ W:World,(((((((((WE.setCell ⟨o,0,none⟩ (.int .i64 (ontoN S))).setCell ⟨o,1,none⟩ (.slice oa on oc)).setCell ⟨o,2,none⟩ (.bool Y)).setCell ⟨o,3,none⟩ (.bool F)).setCell ⟨o,4,none⟩ (.int .i64 (radL K R T))).setCell ⟨o,5,none⟩ (.bool (isSum K R T))).setCell ⟨o,6,none⟩ (.slice fa fn fc)).setCell ⟨o,7,none⟩ (.bool L)).setCell ⟨o,8,none⟩ (.bool P))=W:=⟨_,rfl⟩
   rw [hWF] at AF bF
   have cr0:=AF.co 0 (by decide)
   have cr1:=AF.co 1 (by decide)
   have cr2:=AF.co 2 (by decide)
   have cr3:=AF.co 3 (by decide)
   have cr4:=AF.co 4 (by decide)
   have cr5:=AF.co 5 (by decide)
   have cr6:=AF.co 6 (by decide)
   have cr7:=AF.co 7 (by decide)
   have cr8:=AF.co 8 (by decide)
   replace hWF:=Hd hWF
   replace cr0:=Hd cr0
   replace cr1:=Hd cr1
   replace cr2:=Hd cr2
   replace cr3:=Hd cr3
   replace cr4:=Hd cr4
   replace cr5:=Hd cr5
   replace cr6:=Hd cr6
   replace cr7:=Hd cr7
   replace cr8:=Hd cr8
   obtain ⟨l1,l2,l3⟩:=AF.lists
   have hrep:RepIs w.heap.size WF K R T (.agg #[.int .i64 (ontoN S),.slice oa on oc,.bool Y,.bool F,.int .i64 (radL K R T),.bool (isSum K R T),.slice fa fn fc,.bool L,.bool P]):=⟨Y,F,oa,on,oc,fa,fn,fc,hY.out,hF.out,by rw [hS.out,hL.out,hP.out],by rw [hS.out]; exact l1,l2,l3⟩
   clear AE AF l1 l2 l3 bE hg1 hG1 hT1 hB i1 i2 i3 hsum hrad hsm AC AD bc bd hN
   replace hrep:=Hd hrep
   replace bF:=Hd bF
   have ix0:=idx5_0
   have ix1:=idx5_1
   have ix2:=idx5_2
   have ix3:=idx5_3
   have ix4:=idx5_4
   go_wp2
   refine wp_loop_rounds 6 ?_
   iterate 6
    rw [rounds_succ]
    go_wp2
   rw [hWF.out]
   exact bodyPost_ret (v:=.tuple #[.agg #[.int .i64 (ontoN S),.slice oa on oc,.bool Y,.bool F,.int .i64 (radL K R T),.bool (isSum K R T),.slice fa fn fc,.bool L,.bool P],.nilIface]) (by simp [results,Tryz.results23,go_sem,cr0.out,cr1.out,cr2.out,cr3.out,cr4.out,cr5.out,cr6.out,cr7.out,cr8.out]) rfl ⟨_,_,rfl,bF.out,rfl,hrep.out⟩
end Go.Proofs.YtncpnaoabkjegaaGreatDoor
namespace Go.Proofs.YtncpnaoabkjegaaGreatDoor
theorem right_ext {K R:Nat} {T:List Int} (h:RuleOk K R T) (hp:unlikeP K T 1=true) {u:List Int} (hu:Syms K u) (hl:u.length=2*R) {y:Int} (y0:0≤y) (y1:y<K):∃ s:Int,0≤s∧s<K∧T.getD (numW K (u++[s])) 0=y:=by
 have h1:=h.k1
 have hn:=numW_lt u hu
 rw [hl] at hn
 have hf:=unlikeP_full hp (numW K u*K) (by rw [h.half.2]; exact Nat.mul_lt_mul_of_pos_right hn (by omega)) (by rw [Nat.div_one,Nat.mul_mod_left])
 obtain ⟨s,hs,he⟩:=fullP_all h1 h.syms hf y.toNat (by omega)
 rw [Nat.mul_one] at he
 refine ⟨s,by omega,by omega,?_⟩
 rw [numW_snoc,Int.toNat_natCast,he]
 omega
theorem left_ext {K R:Nat} {T:List Int} (h:RuleOk K R T) (hp:unlikeP K T (T.length/K)=true) {u:List Int} (hu:Syms K u) (hl:u.length=2*R) {y:Int} (y0:0≤y) (y1:y<K):∃ s:Int,0≤s∧s<K∧T.getD (numW K (s::u)) 0=y:=by
 obtain ⟨s,s0,s1,e⟩:=right_ext (mirT_ok h) (by rw [(mir_sides h).2]; exact hp) (syms_rev hu) (by rw [List.length_reverse,hl]) y0 y1
 refine ⟨s,s0,s1,?_⟩
 have sw:Syms K (u.reverse++[s]):=syms_snoc s0 s1 (syms_rev hu)
 rw [mirT_at h.k1 h.len _ sw (by simp [hl]),List.reverse_append,List.reverse_reverse] at e
 exact e
theorem firstP_ne {a b:List Int} (hl:a.length=b.length) (hne:a≠b):∃ t,t<a.length∧a.getD t 0≠b.getD t 0∧∀ i,i<t→a.getD i 0=b.getD i 0:=by
 have key:∀ n,(∃ t,t≤n∧t<a.length∧a.getD t 0≠b.getD t 0)→∃ t,t<a.length∧a.getD t 0≠b.getD t 0∧∀ i,i<t→a.getD i 0=b.getD i 0:=by
  intro n
  induction n with
  | zero=>rintro ⟨t,h1,h2,h3⟩; exact ⟨t,h2,h3,fun i hi=>by omega⟩
  | succ n ih =>
   rintro ⟨t,h1,h2,h3⟩
   by_cases q:∃ t,t≤n∧t<a.length∧a.getD t 0≠b.getD t 0
   ·exact ih q
   ·refine ⟨t,h2,h3,fun i hi=>Classical.byContradiction fun r=>q ⟨i,by omega,by omega,r⟩⟩
 obtain ⟨j,hj,h⟩:=ne_at hl hne
 exact key j ⟨j,Nat.le_refl _,hj,h⟩
theorem right_no_twins {K R:Nat} {T:List Int} (h:RuleOk K R T) (hp:unlikeP K T 1=true) (a b:List Int):¬ IsTwins K R T a b:=fun t=>by
 have hw:=(unlike_rightW h).1 hp
 have hl:=t.len
 obtain ⟨i,hi,hne,heq⟩:=firstP_ne hl t.ne
 have hi2:2*R≤i:=by
  apply Classical.byContradiction
  intro q
  have e:=congrArg (fun l:List Int=>l.getD i 0) t.front
  rw [List.getD_eq_getElem?_getD,List.getD_eq_getElem?_getD,List.getElem?_take,List.getElem?_take,if_pos (by omega),if_pos (by omega),← List.getD_eq_getElem?_getD,← List.getD_eq_getElem?_getD] at e
  exact hne e
 have hu:(a.drop (i-2*R)).take (2*R)=(b.drop (i-2*R)).take (2*R):=ext_getD (by simp only [List.length_take,List.length_drop]; omega) fun k hk=>by
  rw [List.length_take,List.length_drop] at hk
  rw [sub_get (by omega),sub_get (by omega)]
  exact heq _ (by omega)
 have win:∀ c:List Int,c.length=a.length→(c.drop (i-2*R)).take (2*R+1)=(c.drop (i-2*R)).take (2*R)++[c.getD i 0]:=fun c hc=>by
  have hk:2*R<(c.drop (i-2*R)).length:=by rw [List.length_drop]; omega
  rw [List.take_succ_eq_append_getElem hk]
  congr 2
  rw [List.getElem_drop]
  have:i-2*R+2*R=i:=by omega
  simp [this,List.getD,show i<c.length by omega]
 have e:=congrArg (fun l:List Int=>l.getD (i-2*R) 0) t.img
 rw [imgP_getD _ _ _ _ _ (by omega),imgP_getD _ _ _ _ _ (by omega),win a rfl,win b hl.symm,hu] at e
 have ga:=getD_syms t.sa hi
 have gb:=getD_syms t.sb (i:=i) (by omega)
 exact hw _ (syms_take (syms_drop t.sb _) _) (by rw [List.length_take,List.length_drop]; omega) _ _ ga.1 ga.2 gb.1 gb.2 hne e
theorem side_no_twins {K R:Nat} {T:List Int} (h:RuleOk K R T) (hp:unlikeP K T (T.length/K)=true∨unlikeP K T 1=true) (a b:List Int):¬ IsTwins K R T a b:=fun t=>by
 rcases hp with hp | hp
 ·exact right_no_twins (mirT_ok h) (by rw [(mir_sides h).2]; exact hp) _ _ (mir_twins h t)
 ·exact right_no_twins h hp a b t
def AllAt (K R:Nat) (T:List Int) (z:Int) (x:List Int):Prop:=∀ j,j+2*R<x.length→T.getD (numW K ((x.drop j).take (2*R+1))) 0=z
theorem all_right {K R:Nat} {T:List Int} (h:RuleOk K R T) (hp:unlikeP K T 1=true) {z:Int} (z0:0≤z) (z1:z<K) {x:List Int} (sx:Syms K x) (hx:AllAt K R T z x) (hl:2*R≤x.length):∃ v:Int,0≤v∧v<K∧AllAt K R T z (x++[v]):=by
 obtain ⟨v,v0,v1,e⟩:=right_ext h hp (u:=x.drop (x.length-2*R)) (syms_drop sx _) (by rw [List.length_drop]; omega) z0 z1
 refine ⟨v,v0,v1,fun j hj=>?_⟩
 rw [List.length_append,List.length_singleton] at hj
 by_cases q:j+2*R<x.length
 ·rw [List.drop_append_of_le_length (by omega),List.take_append_of_le_length (by rw [List.length_drop]; omega)]
  exact hx j q
 ·obtain rfl:j=x.length-2*R:=by omega
  rw [List.drop_append_of_le_length (by omega),List.take_of_length_le (by simp; omega)]
  exact e
theorem all_left {K R:Nat} {T:List Int} (h:RuleOk K R T) (hp:unlikeP K T (T.length/K)=true) {z:Int} (z0:0≤z) (z1:z<K) {x:List Int} (sx:Syms K x) (hx:AllAt K R T z x) (hl:2*R≤x.length):∃ v:Int,0≤v∧v<K∧AllAt K R T z (v::x):=by
 obtain ⟨v,v0,v1,e⟩:=left_ext h hp (u:=x.take (2*R)) (syms_take sx _) (by rw [List.length_take]; omega) z0 z1
 refine ⟨v,v0,v1,fun j hj=>?_⟩
 rw [List.length_cons] at hj
 cases j with
 | zero=>rw [List.drop_zero,List.take_succ_cons]; exact e
 | succ j=>rw [List.drop_succ_cons]; exact hx j (by omega)
theorem all_word {K R:Nat} {T:List Int} (h:RuleOk K R T) (hl:unlikeP K T (T.length/K)=true) (hr:unlikeP K T 1=true) (hK:2≤K) (hR:1≤R) {z:Int} (z0:0≤z) (z1:z<K):∀ L M,∃ x,Syms K x∧AllAt K R T z x∧x.length=L+2*R+M∧x.getD L 0=1:=by
 intro L
 have left:∃ x,Syms K x∧AllAt K R T z x∧x.length=L+2*R∧x.getD L 0=1:=by
  induction L with
  | zero =>
   refine ⟨1::List.replicate (2*R-1) 0,fun q hq=>?_,fun j hj=>?_,by simp; omega,rfl⟩
   ·rcases List.mem_cons.1 hq with rfl | hq
    ·omega
    ·rw [List.eq_of_mem_replicate hq]; omega
   ·rw [List.length_cons,List.length_replicate] at hj; omega
  | succ L ih =>
   obtain ⟨x,sx,ax,lx,dx⟩:=ih
   obtain ⟨v,v0,v1,av⟩:=all_left h hl z0 z1 sx ax (by omega)
   exact ⟨v::x,syms_cons v0 v1 sx,av,by simp [lx]; omega,by rw [List.getD_cons_succ]; exact dx⟩
 intro M
 induction M with
 | zero=>exact left
 | succ M ih =>
  obtain ⟨x,sx,ax,lx,dx⟩:=ih
  obtain ⟨v,v0,v1,av⟩:=all_right h hr z0 z1 sx ax (by omega)
  refine ⟨x++[v],syms_snoc v0 v1 sx,av,by simp [lx]; omega,?_⟩
  rw [← dx]
  simp [List.getD,List.getElem?_append_left (show L<x.length by omega)]
theorem sides_not_one {K R:Nat} {T:List Int} (h:RuleOk K R T) (hl:unlikeP K T (T.length/K)=true) (hr:unlikeP K T 1=true) (hK:2≤K) (hR:1≤R):NotOne K R T:=fun n=>by
 have hT:0<T.length:=by rw [h.len]; exact pw_pos _ h.k1
 have gz:=getD_syms h.syms hT
 obtain ⟨x,sx,ax,lx,dx⟩:=all_word h hl hr hK hR gz.1 gz.2 n (n+1)
 have sO:Syms K (List.replicate (2*n+1) (0:Int)):=fun q hq=>by rw [List.eq_of_mem_replicate hq]; omega
 refine ⟨x.take (2*n+1),List.replicate (2*n+1) 0,syms_take sx _,sO,by rw [List.length_take]; omega,by simp,?_,?_⟩
 ·rw [List.getD_eq_getElem?_getD,List.getElem?_take,if_pos (by omega),← List.getD_eq_getElem?_getD,dx]
  simp [List.getD,show n<2*n+1 by omega]
 ·refine ext_getD (by rw [imgP_length,imgP_length,List.length_take]; simp; omega) fun j hj=>?_
  rw [imgP_length,List.length_take] at hj
  rw [imgP_getD _ _ _ _ _ (by rw [List.length_take]; omega),imgP_getD _ _ _ _ _ (by simp; omega)]
  have e1:((x.take (2*n+1)).drop j).take (2*R+1)=(x.drop j).take (2*R+1):=by rw [List.drop_take,List.take_take,Nat.min_eq_left (by omega)]
  rw [e1,ax j (by omega),List.drop_replicate,List.take_replicate]
  congr 1
  have key:∀ m,numW K (List.replicate m (0:Int))=0:=fun m=>by
   induction m with
   | zero=>rfl
   | succ m ih=>rw [List.replicate_succ',numW_snoc,ih]; simp
  exact (key _).symm
open Go.RowKit
set_option maxRecDepth 100000
set_option maxHeartbeats 8000000
structure Cells9 (w:World) (g:Nat) (v0 v1 v2 v3 v4 v5 v6 v7 v8:Value):Prop where
 c0:w.cell? ⟨g,0,none⟩=some v0
 c1:w.cell? ⟨g,1,none⟩=some v1
 c2:w.cell? ⟨g,2,none⟩=some v2
 c3:w.cell? ⟨g,3,none⟩=some v3
 c4:w.cell? ⟨g,4,none⟩=some v4
 c5:w.cell? ⟨g,5,none⟩=some v5
 c6:w.cell? ⟨g,6,none⟩=some v6
 c7:w.cell? ⟨g,7,none⟩=some v7
 c8:w.cell? ⟨g,8,none⟩=some v8
theorem Cells9.below {w w':World} {g:Nat} {v0 v1 v2 v3 v4 v5 v6 v7 v8:Value} (h:Cells9 w g v0 v1 v2 v3 v4 v5 v6 v7 v8) (hb:Below w.heap.size w w'):Cells9 w' g v0 v1 v2 v3 v4 v5 v6 v7 v8 :=
 ⟨cell_keep hb h.c0,cell_keep hb h.c1,cell_keep hb h.c2,cell_keep hb h.c3,cell_keep hb h.c4,cell_keep hb h.c5,cell_keep hb h.c6,cell_keep hb h.c7,cell_keep hb h.c8⟩
theorem Cells9.alloc (w:World) (T:TypeId) (v0 v1 v2 v3 v4 v5 v6 v7 v8:Value):Cells9 (w.alloc (.cells #[v0,v1,v2,v3,v4,v5,v6,v7,v8] T)) w.heap.size v0 v1 v2 v3 v4 v5 v6 v7 v8:=by
 refine ⟨?_,?_,?_,?_,?_,?_,?_,?_,?_⟩<;>simp [go_sem]
def kindB (Y F:Bool):ByteArray:=if Y=true then ⟨#[114,101,118,101,114,115,105,98,108,101]⟩ else if F=true then ⟨#[111,110,116,111]⟩ else ⟨#[108,111,115,115,121]⟩
theorem kind_any (v0 v1 v4 v5 v6 v7 v8:Value) (Y F:Bool) (w:World) :
 Calls Tryz.prog 31 #[.agg #[v0,v1,.bool Y,.bool F,v4,v5,v6,v7,v8]] w (Ret1 (fun x _=>x=.string (kindB Y F)) w):=by
 have b0:=belowAlloc w (.cells #[v0,v1,.bool Y,.bool F,v4,v5,v6,v7,v8] 46)
 cases Y<;>cases F<;>(go_enter Tryz.func31,Tryz.ntmps31; go_wp2; go_ret; exact ⟨_,rfl,b0,rfl⟩)
def tab26:List Int:=[0,1,0,1,1,0,1,0]
theorem tab26_ok:RuleOk 2 1 tab26:=⟨by decide,by decide,by decide,by decide,by intro x hx; simp [tab26] at hx; omega⟩
theorem tab26_u1:unlikeP 2 tab26 1=true:=by decide +kernel
theorem tab26_u4:unlikeP 2 tab26 (tab26.length/2)=true:=by decide +kernel
theorem tab26_not:NotOne 2 1 tab26:=sides_not_one tab26_ok tab26_u4 tab26_u1 (by decide) (by decide)
theorem tab26_on:ontoN (subR 2 (pw 2 (2*1)) tab26)=1:=by decide +kernel
theorem tab26_rad:radL 2 1 tab26=-1:=by
 unfold radL
 rw [(invE_ok tab26_ok (by decide)).1 tab26_not,if_neg (by unfold fresh; simp)]
theorem awake26 (r:Nat→Addr) (w:World) (hg:Glob r w) (hG:GlobE w):Calls Tryz.prog 21 #[] w (Ret1 (fun x _=>x=.bool true) w):=by
 have bl:=belowAlloc w (.cells #[.int .i64 0,.int .i64 1,.int .i64 0,.int .i64 1,.int .i64 1,.int .i64 0,.int .i64 1,.int .i64 0] 3)
 have hlit:=lit_ints w tab26 #[.int .i64 0,.int .i64 1,.int .i64 0,.int .i64 1,.int .i64 1,.int .i64 0,.int .i64 1,.int .i64 0] rfl (by decide)
 replace hg:=hg.below bl
 replace hG:=hG.below bl
 have look:=look_ok r 2 1 (some ⟨w.heap.size,0,none⟩) 8 8 tab26 _ hg hG hlit tab26_ok (by decide)
 clear hlit
 replace hg:=Hd hg
 replace hG:=Hd hG
 go_enter Tryz.func21,Tryz.ntmps21
 go_wp2_with fail
 refine look.mono ?_
 clear look
 rintro e w2 ⟨_,_,rfl,b2,rfl,Y,F,a1,a2,a3,b1,c2,c3,hY,hF,rfl,-,-,-⟩
 obtain rfl:Y=false:=by
  cases Y with
  | false=>rfl
  | true=>exact absurd tab26_not (hY.1 rfl)
 obtain rfl:F=true:=hF.2 (side_no_twins tab26_ok (.inl tab26_u4))
 rw [tab26_on,tab26_rad,tab26_u4,tab26_u1]
 obtain ⟨S,hS⟩:∃ S,isSum 2 1 tab26=S:=⟨_,rfl⟩
 rw [hS]
 clear hS hY hF
 have b3:=belowAlloc w2 (.cells #[.int .i64 1,.slice a1 a2 a3,.bool false,.bool true,.int .i64 (-1),.bool S,.slice b1 c2 c3,.bool true,.bool true] 46)
 have q:=Cells9.alloc w2 46 (.int .i64 1) (.slice a1 a2 a3) (.bool false) (.bool true) (.int .i64 (-1)) (.bool S) (.slice b1 c2 c3) (.bool true) (.bool true)
 have bE:=Below.step bl (Below.step b2 b3)
 obtain ⟨z0,z1,z2,z3,z4,z5,z6,z7,z8⟩:=q
 go_wp2_with fail
 refine (kind_any _ _ _ _ _ _ _ _ _ _).mono ?_
 rintro e w4 ⟨_,rfl,b4,rfl⟩
 have bF:=Below.step bE b4
 rw [show kindB false true=⟨#[111,110,116,111]⟩ from rfl]
 go_wp2
 go_ret
 exact ⟨_,rfl,bF,rfl⟩
theorem kind_ref (v0 v1 v4 v5 v6 v7 v8:Value) (Y F:Bool) (w:World) :
 Calls Tryz.prog 37 #[.agg #[v0,v1,.bool Y,.bool F,v4,v5,v6,v7,v8]] w (Ret1 (fun x _=>x=.string (kindB Y F)) w):=by
 have b0:=belowAlloc w (.cells #[v0,v1,.bool Y,.bool F,v4,v5,v6,v7,v8] 46)
 cases Y<;>cases F<;>(go_enter Tryz.func37,Tryz.ntmps37; go_wp2; go_ret; exact ⟨_,rfl,b0,rfl⟩)
def kindL (Y F:Bool):List UInt8:=(kindB Y F).data.toList
theorem kindL_eq (Y F:Bool):kindB Y F=⟨(kindL Y F).toArray⟩:=by unfold kindL; rw [Array.toArray_toList]
theorem kindL_len (Y F:Bool):(kindL Y F).length≤10:=by cases Y<;>cases F<;>decide
def onto1 (N:Int):List UInt8:=if N=1 then [121,101,115] else [63]
def side1 (l:Bool):List UInt8:=if l=true then [108,101,102,116] else [110,111,110,101]
def side2 (l r:Bool):List UInt8:=if r=true then [114,105,103,104,116] else side1 l
theorem add_step {a:Act} {o:Oper} {x y:Operand} {T U:TypeId} (l m:List UInt8) (W:World) (ho:o.op=Op.binOp BinOp.add T x y U) (hx:a.eval x=.string ⟨l.toArray⟩) (hy:a.eval y=.string ⟨m.toArray⟩) (hl:l.length+m.length≤1000000000) :
 (execOp a.eval o).run Tryz.prog W=.ok (.value (.string ⟨(l++m).toArray⟩)) W:=by
 have hn:¬ 9223372036854775807<l.length+m.length:=by omega
 unfold execOp
 simp only [ho,hx,hy]
 go_simp
 rw [add_bytes]
theorem yesB_len (b:Bool):(yesB b).length≤3:=by cases b<;>decide
theorem sidesB_len (l r:Bool):(sidesB l r).length≤5:=by cases l<;>cases r<;>decide
theorem ontoL_len {N:Int} {ol:List Int} (h:OkNums ol) (hl:ol.length≤1048576):(ontoL N ol).length≤30000000:=by
 have:=listB_len h
 unfold ontoL
 split
 ·simp
 ·split
  ·rw [List.length_append]; simp only [List.length_cons,List.length_nil]; omega
  ·simp
theorem sumL_len {Z:Bool} {fl:List Int} (h:OkNums fl) (hl:fl.length≤1048576):(sumL Z fl).length≤30000000:=by
 have:=listB_len h
 unfold sumL
 split
 ·rw [List.length_append]; simp only [List.length_cons,List.length_nil]; omega
 ·simp
theorem text_ref (N X:Int) (oa:Option Addr) (on oc:Nat) (ol:List Int) (fa:Option Addr) (fn fc:Nat) (fl:List Int) (Y F Z L P:Bool) (w:World) (ho:IntsAt w (.slice oa on oc) ol) (hf:IntsAt w (.slice fa fn fc) fl) (bo:OkNums ol) (bf:OkNums fl) (lo:ol.length≤1048576) (lf:fl.length≤1048576) (x0:-9223372036854775808≤X) (x1:X≤9223372036854775807) :
 Calls Tryz.prog 39 #[.agg #[.int .i64 N,.slice oa on oc,.bool Y,.bool F,.int .i64 X,.bool Z,.slice fa fn fc,.bool L,.bool P]] w (Ret1 (fun x _=>x=.string ⟨(Lib.join (linesB (kindL Y F) N ol Y F X Z fl L P) [10]).toArray⟩) w):=by
 have b0:=belowAlloc w (.cells #[.int .i64 N,.slice oa on oc,.bool Y,.bool F,.int .i64 X,.bool Z,.slice fa fn fc,.bool L,.bool P] 46)
 have q:=Cells9.alloc w 46 (.int .i64 N) (.slice oa on oc) (.bool Y) (.bool F) (.int .i64 X) (.bool Z) (.slice fa fn fc) (.bool L) (.bool P)
 obtain ⟨W0,hW0⟩:∃ W:World,w.alloc (.cells #[.int .i64 N,.slice oa on oc,.bool Y,.bool F,.int .i64 X,.bool Z,.slice fa fn fc,.bool L,.bool P] 46)=W:=⟨_,rfl⟩
 rw [hW0] at b0 q
 replace ho:=Hd (ho.below b0)
 replace hf:=Hd (hf.below b0)
 replace bo:=Hd bo
 replace bf:=Hd bf
 replace hW0:=Hd hW0
 obtain ⟨g,hg⟩:∃ g,w.heap.size=g:=⟨_,rfl⟩
 go_enter Tryz.func39,Tryz.ntmps39
 go_upto_region 2 with fail
 rw [hW0.out]
 rw [hg] at q
 obtain ⟨z0,z1,z2,z3,z4,z5,z6,z7,z8⟩:=id q
 replace hg:=Hd hg
 go_upto_if 8 with fail
 go_cut [3] from 6 (fun s wx=>s=.string ⟨(onto1 N).toArray⟩∧wx=W0)
 case first =>
  by_cases c1:N=1
  ·subst c1
   go_wp2
   go_meet
   case rel=>exact ⟨rfl,rfl⟩
  ·have d1:(N==1)=false:=by simp [c1]
   have e1:onto1 N=[63]:=by unfold onto1; rw [if_neg c1]
   replace c1:=Hd c1
   replace e1:=Hd e1
   go_wp2
   go_meet
   case rel=>exact ⟨by rw [e1.out],rfl⟩
 case rest =>
  obtain ⟨rfl,hw⟩:=hcut
  rw [hw]
  clear hw
  go_upto_if 11 with fail
  go_cut [3] from 6 (fun s wx=>s=.string ⟨(ontoL N ol).toArray⟩∧Below W0.heap.size W0 wx)
  case first =>
   by_cases c2:N=2
   ·subst c2
    have hll:=listB_len bo.out
    have hn:¬ 9223372036854775807<3+(listB ol).length:=by omega
    go_wp2_with fail
    refine (list26 _ ol _ ho.out bo.out lo).mono ?_
    rintro e w1 ⟨_,rfl,b1,rfl⟩
    go_wp2
    go_meet
    case rel=>exact ⟨by rw [show (⟨#[110,111,32]⟩:ByteArray)=⟨([110,111,32]:List UInt8).toArray⟩ from rfl,add_bytes]; rfl,b1⟩
   ·have d2:(N==2)=false:=by simp [c2]
    have e1:ontoL N ol=onto1 N:=by
     by_cases c:N=1
     ·unfold ontoL onto1; rw [if_pos c,if_pos c]
     ·unfold ontoL onto1; rw [if_neg c,if_neg c,if_neg c2]
    replace c2:=Hd c2
    replace e1:=Hd e1
    go_wp2
    go_meet
    case rel=>exact ⟨by rw [e1.out],Below.refl _ _⟩
  case rest =>
   obtain ⟨rfl,bA⟩:=hcut
   obtain ⟨WA,hWA⟩:∃ W:World,wc=W:=⟨_,rfl⟩
   rw [hWA] at bA ⊢
   clear hWA z0 z1 z2 z3 z4 z5 z6 z7 z8
   obtain ⟨z0,z1,z2,z3,z4,z5,z6,z7,z8⟩:=q.below bA
   go_upto_if 17 with fail
   go_cut [4] from 6 (fun s wx=>s=.string ⟨(sumL Z fl).toArray⟩∧Below W0.heap.size W0 wx)
   case first =>
    cases Z with
    | true =>
     have hll:=listB_len bf.out
     have hn:¬ 9223372036854775807<4+(listB fl).length:=by omega
     go_wp2_with fail
     refine (list26 _ fl _ (hf.out.below bA) bf.out lf).mono ?_
     rintro e w1 ⟨_,rfl,b1,rfl⟩
     have bB:=Below.step bA b1
     go_wp2
     go_meet
     case rel=>exact ⟨by rw [show (⟨#[121,101,115,32]⟩:ByteArray)=⟨([121,101,115,32]:List UInt8).toArray⟩ from rfl,add_bytes]; rfl,bB⟩
    | false =>
     go_wp2
     go_meet
     case rel=>exact ⟨rfl,bA⟩
   case rest =>
    obtain ⟨rfl,bB⟩:=hcut
    obtain ⟨WB,hWB⟩:∃ W:World,wc=W:=⟨_,rfl⟩
    rw [hWB] at bB ⊢
    clear hWB z0 z1 z2 z3 z4 z5 z6 z7 z8 bA
    obtain ⟨z0,z1,z2,z3,z4,z5,z6,z7,z8⟩:=q.below bB
    go_upto_if 23 with fail
    go_cut [5] from 6 (fun s wx=>s=.string ⟨(side1 L).toArray⟩∧wx=WB)
    case first=>cases L<;>(go_wp2; go_meet; case rel=>exact ⟨rfl,rfl⟩)
    case rest =>
     obtain ⟨rfl,hw⟩:=hcut
     rw [hw]
     clear hw
     go_upto_if 25 with fail
     go_cut [5] from 6 (fun s wx=>s=.string ⟨(side2 L P).toArray⟩∧wx=WB)
     case first=>cases P<;>(go_wp2; go_meet; case rel=>exact ⟨rfl,rfl⟩)
     case rest =>
      obtain ⟨rfl,hw⟩:=hcut
      rw [hw]
      clear hw
      go_upto_region 14 with fail
      go_cut [31] from 6 (fun s wx=>s=.bool (L&&P)∧wx=WB)
      case first=>cases L<;>cases P<;>(go_wp2; go_meet; case rel=>exact ⟨rfl,rfl⟩)
      case rest =>
       obtain ⟨rfl,hw⟩:=hcut
       rw [hw]
       clear hw
       go_upto_if 31 with fail
       go_cut [5] from 6 (fun s wx=>s=.string ⟨(sidesB L P).toArray⟩∧wx=WB)
       case first=>cases L<;>cases P<;>(go_wp2; go_meet; case rel=>exact ⟨rfl,rfl⟩)
       case rest =>
        obtain ⟨rfl,hw⟩:=hcut
        rw [hw]
        clear hw
        go_upto_region 16 with fail
        refine wp_region_plan (fun w'=>w'.cell? ⟨g,0,none⟩=some (.int .i64 N)∧w'.cell? ⟨g,1,none⟩=some (.slice oa on oc)∧w'.cell? ⟨g,2,none⟩=some (.bool Y)∧w'.cell? ⟨g,3,none⟩=some (.bool F)∧w'.cell? ⟨g,4,none⟩=some (.int .i64 X)∧w'.cell? ⟨g,5,none⟩=some (.bool Z)∧w'.cell? ⟨g,6,none⟩=some (.slice fa fn fc)∧w'.cell? ⟨g,7,none⟩=some (.bool L)∧w'.cell? ⟨g,8,none⟩=some (.bool P)) 28 [(0,true),(4,true),(7,true),(8,true),(12,true),(13,true),(17,true),(18,true),(22,true),(25,true),(1,false),(2,true),(3,true),(5,true),(6,true),(9,false),(10,true),(11,true),(14,false),(15,true),(16,true),(19,false),(20,true),(21,true),(23,true),(24,true),(26,true),(27,true)] (by kernel_rfl) (by kernel_rfl) ?_
        obtain ⟨W,hW⟩:∃ W:World,WB.drew=W:=⟨_,rfl⟩
        have bW:Below W0.heap.size W0 W:=by rw [← hW]; exact bB.drew
        rw [hW]
        clear hW bB z0 z1 z2 z3 z4 z5 z6 z7 z8
        have hS0:∀ w',Below W0.heap.size W0 w'→w'.cell? ⟨g,0,none⟩=some (.int .i64 N)∧w'.cell? ⟨g,1,none⟩=some (.slice oa on oc)∧w'.cell? ⟨g,2,none⟩=some (.bool Y)∧w'.cell? ⟨g,3,none⟩=some (.bool F)∧w'.cell? ⟨g,4,none⟩=some (.int .i64 X)∧w'.cell? ⟨g,5,none⟩=some (.bool Z)∧w'.cell? ⟨g,6,none⟩=some (.slice fa fn fc)∧w'.cell? ⟨g,7,none⟩=some (.bool L)∧w'.cell? ⟨g,8,none⟩=some (.bool P):=fun w' b=>by
         obtain ⟨s0,s1,s2,s3,s4,s5,s6,s7,s8⟩:=q.below b
         exact ⟨s0,s1,s2,s3,s4,s5,s6,s7,s8⟩
        have hS:=hS0 _ bW
        replace hS0:=Hd hS0
        refine pqY 32 hS ?_
        refine pqY 36 hS ?_
        refine pqY 39 hS ?_
        refine pqY 40 hS ?_
        refine pqY 44 hS ?_
        refine pqY 45 hS ?_
        refine pqY 49 hS ?_
        refine pqY 50 hS ?_
        refine pqY 54 hS ?_
        refine pqY 57 hS ?_
        refine headC rfl (fun KK hK=>?_)
        go_simp
        refine (kind_ref _ _ _ _ _ _ _ Y F W).mono ?_
        rintro e w1 ⟨_,rfl,b1,rfl⟩
        rw [kindL_eq]
        have bW1:=Below.step bW b1
        have hS1:=hS0.out _ bW1
        refine hK _ _ hS1 ?_
        clear hK KK
        have lK:=kindL_len Y F
        have lO:=ontoL_len (N:=N) bo.out lo
        have lS:=sumL_len (Z:=Z) bf.out lf
        have lD:=sidesB_len L P
        have lY:=yesB_len Y
        have lF:=yesB_len F
        have lI:=Lib.itoa_length_le X x0 x1
        have hteq:=text_eq [107,105,110,100,32] (kindL Y F) [111,110,116,111,32] (ontoL N ol) [111,110,101,32] (yesB Y) [102,105,110,105,116,101,32] (yesB F) [105,110,118,101,114,115,101,32] (Lib.itoa X) [97,100,100,105,116,105,118,101,32] (sumL Z fl) [112,101,114,109,117,116,101,115,32] (sidesB L P)
        have hli:Lib.join (linesB (kindL Y F) N ol Y F X Z fl L P) [10]=_:=hteq
        replace hli:=Hd hli
        clear hteq
        obtain ⟨kk,hkk⟩:∃ l,kindL Y F=l:=⟨_,rfl⟩
        obtain ⟨oo,hoo⟩:∃ l,ontoL N ol=l:=⟨_,rfl⟩
        obtain ⟨ss,hss⟩:∃ l,sumL Z fl=l:=⟨_,rfl⟩
        obtain ⟨dd,hdd⟩:∃ l,sidesB L P=l:=⟨_,rfl⟩
        obtain ⟨yy,hyy⟩:∃ l,yesB Y=l:=⟨_,rfl⟩
        obtain ⟨ff,hff⟩:∃ l,yesB F=l:=⟨_,rfl⟩
        obtain ⟨ii,hii⟩:∃ l,Lib.itoa X=l:=⟨_,rfl⟩
        rw [hkk] at lK hli ⊢
        rw [hoo] at lO hli ⊢
        rw [hss] at lS hli ⊢
        rw [hdd] at lD hli ⊢
        rw [hyy] at lY hli
        rw [hff] at lF hli
        rw [hii] at lI hli
        replace hkk:=Hd hkk
        replace hoo:=Hd hoo
        replace hss:=Hd hss
        replace hdd:=Hd hdd
        replace hyy:=Hd hyy
        replace hff:=Hd hff
        replace hii:=Hd hii
        obtain ⟨t34,e34⟩:∃ l:List UInt8,([107,105,110,100,32]:List UInt8)++kk=l:=⟨_,rfl⟩
        have l34:t34.length≤15:=by rw [← e34,List.length_append]; simp only [List.length_cons,List.length_nil]; omega
        replace e34:=Hd e34
        refine headY (v:=.string ⟨t34.toArray⟩) (some 34) rfl rfl (Or.inl ⟨by rfl,fun W' _=>by rw [← e34.out]; exact add_step [107,105,110,100,32] kk W' rfl rfl rfl (by simp only [List.length_cons,List.length_nil]; omega)⟩) hS1 ?_
        simp only [pq]
        obtain ⟨t35,e35⟩:∃ l:List UInt8,t34++[10,111,110,116,111,32]=l:=⟨_,rfl⟩
        have l35:t35.length≤21:=by rw [← e35,List.length_append]; simp only [List.length_cons,List.length_nil]; omega
        replace e35:=Hd e35
        refine headY (v:=.string ⟨t35.toArray⟩) (some 35) rfl rfl (Or.inl ⟨by rfl,fun W' _=>by rw [← e35.out]; exact add_step t34 [10,111,110,116,111,32] W' rfl rfl rfl (by simp only [List.length_cons,List.length_nil]; omega)⟩) hS1 ?_
        simp only [pq]
        obtain ⟨t37,e37⟩:∃ l:List UInt8,t35++oo=l:=⟨_,rfl⟩
        have l37:t37.length≤30000021:=by rw [← e37,List.length_append]; omega
        replace e37:=Hd e37
        refine headY (v:=.string ⟨t37.toArray⟩) (some 37) rfl rfl (Or.inl ⟨by rfl,fun W' _=>by rw [← e37.out]; exact add_step t35 oo W' rfl rfl rfl (by omega)⟩) hS1 ?_
        simp only [pq]
        obtain ⟨t38,e38⟩:∃ l:List UInt8,t37++[10,111,110,101,32]=l:=⟨_,rfl⟩
        have l38:t38.length≤30000026:=by rw [← e38,List.length_append]; simp only [List.length_cons,List.length_nil]; omega
        replace e38:=Hd e38
        refine headY (v:=.string ⟨t38.toArray⟩) (some 38) rfl rfl (Or.inl ⟨by rfl,fun W' _=>by rw [← e38.out]; exact add_step t37 [10,111,110,101,32] W' rfl rfl rfl (by simp only [List.length_cons,List.length_nil]; omega)⟩) hS1 ?_
        simp only [pq]
        refine headC rfl (fun KK hK=>?_)
        go_simp
        refine (yes_ref Y _).mono ?_
        rintro e w2 ⟨_,rfl,b2,rfl⟩
        have bW2:=Below.step bW1 b2
        have hS2:=hS0.out _ bW2
        rw [hyy.out]
        refine hK _ _ hS2 ?_
        clear hK KK
        obtain ⟨t42,e42⟩:∃ l:List UInt8,t38++yy=l:=⟨_,rfl⟩
        have l42:t42.length≤30000029:=by rw [← e42,List.length_append]; omega
        replace e42:=Hd e42
        refine headY (v:=.string ⟨t42.toArray⟩) (some 42) rfl rfl (Or.inl ⟨by rfl,fun W' _=>by rw [← e42.out]; exact add_step t38 yy W' rfl rfl rfl (by omega)⟩) hS2 ?_
        simp only [pq]
        obtain ⟨t43,e43⟩:∃ l:List UInt8,t42++[10,102,105,110,105,116,101,32]=l:=⟨_,rfl⟩
        have l43:t43.length≤30000037:=by rw [← e43,List.length_append]; simp only [List.length_cons,List.length_nil]; omega
        replace e43:=Hd e43
        refine headY (v:=.string ⟨t43.toArray⟩) (some 43) rfl rfl (Or.inl ⟨by rfl,fun W' _=>by rw [← e43.out]; exact add_step t42 [10,102,105,110,105,116,101,32] W' rfl rfl rfl (by simp only [List.length_cons,List.length_nil]; omega)⟩) hS2 ?_
        simp only [pq]
        refine headC rfl (fun KK hK=>?_)
        go_simp
        refine (yes_ref F _).mono ?_
        rintro e w3 ⟨_,rfl,b3,rfl⟩
        have bW3:=Below.step bW2 b3
        have hS3:=hS0.out _ bW3
        rw [hff.out]
        refine hK _ _ hS3 ?_
        clear hK KK
        obtain ⟨t47,e47⟩:∃ l:List UInt8,t43++ff=l:=⟨_,rfl⟩
        have l47:t47.length≤30000040:=by rw [← e47,List.length_append]; omega
        replace e47:=Hd e47
        refine headY (v:=.string ⟨t47.toArray⟩) (some 47) rfl rfl (Or.inl ⟨by rfl,fun W' _=>by rw [← e47.out]; exact add_step t43 ff W' rfl rfl rfl (by omega)⟩) hS3 ?_
        simp only [pq]
        obtain ⟨t48,e48⟩:∃ l:List UInt8,t47++[10,105,110,118,101,114,115,101,32]=l:=⟨_,rfl⟩
        have l48:t48.length≤30000049:=by rw [← e48,List.length_append]; simp only [List.length_cons,List.length_nil]; omega
        replace e48:=Hd e48
        refine headY (v:=.string ⟨t48.toArray⟩) (some 48) rfl rfl (Or.inl ⟨by rfl,fun W' _=>by rw [← e48.out]; exact add_step t47 [10,105,110,118,101,114,115,101,32] W' rfl rfl rfl (by simp only [List.length_cons,List.length_nil]; omega)⟩) hS3 ?_
        simp only [pq]
        refine headC rfl (fun KK hK=>?_)
        go_simp
        refine (number_any X x0 x1 _).mono ?_
        rintro e w4 ⟨_,rfl,b4,rfl⟩
        have bW4:=Below.step bW3 b4
        have hS4:=hS0.out _ bW4
        rw [hii.out]
        refine hK _ _ hS4 ?_
        clear hK KK
        obtain ⟨t52,e52⟩:∃ l:List UInt8,t48++ii=l:=⟨_,rfl⟩
        have l52:t52.length≤30000070:=by rw [← e52,List.length_append]; omega
        replace e52:=Hd e52
        refine headY (v:=.string ⟨t52.toArray⟩) (some 52) rfl rfl (Or.inl ⟨by rfl,fun W' _=>by rw [← e52.out]; exact add_step t48 ii W' rfl rfl rfl (by omega)⟩) hS4 ?_
        simp only [pq]
        obtain ⟨t53,e53⟩:∃ l:List UInt8,t52++[10,97,100,100,105,116,105,118,101,32]=l:=⟨_,rfl⟩
        have l53:t53.length≤30000080:=by rw [← e53,List.length_append]; simp only [List.length_cons,List.length_nil]; omega
        replace e53:=Hd e53
        refine headY (v:=.string ⟨t53.toArray⟩) (some 53) rfl rfl (Or.inl ⟨by rfl,fun W' _=>by rw [← e53.out]; exact add_step t52 [10,97,100,100,105,116,105,118,101,32] W' rfl rfl rfl (by simp only [List.length_cons,List.length_nil]; omega)⟩) hS4 ?_
        simp only [pq]
        obtain ⟨t55,e55⟩:∃ l:List UInt8,t53++ss=l:=⟨_,rfl⟩
        have l55:t55.length≤60000080:=by rw [← e55,List.length_append]; omega
        replace e55:=Hd e55
        refine headY (v:=.string ⟨t55.toArray⟩) (some 55) rfl rfl (Or.inl ⟨by rfl,fun W' _=>by rw [← e55.out]; exact add_step t53 ss W' rfl rfl rfl (by omega)⟩) hS4 ?_
        simp only [pq]
        obtain ⟨t56,e56⟩:∃ l:List UInt8,t55++[10,112,101,114,109,117,116,101,115,32]=l:=⟨_,rfl⟩
        have l56:t56.length≤60000090:=by rw [← e56,List.length_append]; simp only [List.length_cons,List.length_nil]; omega
        replace e56:=Hd e56
        refine headY (v:=.string ⟨t56.toArray⟩) (some 56) rfl rfl (Or.inl ⟨by rfl,fun W' _=>by rw [← e56.out]; exact add_step t55 [10,112,101,114,109,117,116,101,115,32] W' rfl rfl rfl (by simp only [List.length_cons,List.length_nil]; omega)⟩) hS4 ?_
        simp only [pq]
        obtain ⟨t58,e58⟩:∃ l:List UInt8,t56++dd=l:=⟨_,rfl⟩
        have l58:t58.length≤60000095:=by rw [← e58,List.length_append]; omega
        replace e58:=Hd e58
        refine headY (v:=.string ⟨t58.toArray⟩) (some 58) rfl rfl (Or.inl ⟨by rfl,fun W' _=>by rw [← e58.out]; exact add_step t56 dd W' rfl rfl rfl (by omega)⟩) hS4 ?_
        simp only [pq]
        obtain ⟨t59,e59⟩:∃ l:List UInt8,t58++[10]=l:=⟨_,rfl⟩
        have l59:t59.length≤60000096:=by rw [← e59,List.length_append]; simp only [List.length_cons,List.length_nil]; omega
        replace e59:=Hd e59
        refine headY (v:=.string ⟨t59.toArray⟩) (some 59) rfl rfl (Or.inl ⟨by rfl,fun W' _=>by rw [← e59.out]; exact add_step t58 [10] W' rfl rfl rfl (by simp only [List.length_cons,List.length_nil]; omega)⟩) hS4 ?_
        simp only [pq]
        refine head0 ?_
        simp only [List.drop_succ_cons,List.drop_zero]
        have hend:t59=Lib.join (linesB (kindL Y F) N ol Y F X Z fl L P) [10]:=by rw [hkk.out,hli.out,e34.out,e35.out,e37.out,e38.out,e42.out,e43.out,e47.out,e48.out,e52.out,e53.out,e55.out,e56.out,e58.out,e59.out]
        replace hend:=Hd hend
        go_wp2
        refine NoPanic.normal ?_
        go_wp2
        go_ret
        exact ⟨_,rfl,Below.step b0 bW4,congrArg (fun l:List UInt8=>Value.string ⟨l.toArray⟩) hend.out⟩
end Go.Proofs.YtncpnaoabkjegaaGreatDoor
