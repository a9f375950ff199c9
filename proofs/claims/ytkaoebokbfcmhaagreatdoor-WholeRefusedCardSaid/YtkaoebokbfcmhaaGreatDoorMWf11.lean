/-
  Texts that the proof leans on.
-/
import Derived.Test.YtkaoebokbfcmhaaGreatDoorMWf10
import Derived.Deep.DeepCutAuto
import Derived.BigQuiet
import Derived.Deep.CutBlock
namespace Go.Proofs.YtkaoebokbfcmhaaGreatDoor
open Go.RowKit
set_option maxRecDepth 100000
set_option maxHeartbeats 8000000
structure GBox (w:World) (G:Nat) (K R:Nat) (Tv:Value) (d:Nat) (tv:Value):Prop where
 c0:w.cell? ⟨G,0,none⟩=some (.int .i64 K)
 c1:w.cell? ⟨G,1,none⟩=some (.int .i64 R)
 c2:w.cell? ⟨G,2,none⟩=some Tv
 c3:w.cell? ⟨G,3,none⟩=some (.int .i64 d)
 c4:w.cell? ⟨G,4,none⟩=some tv
theorem GBox.kept {w w':World} {G tb K R d:Nat} {Tv tv:Value} (h:GBox w G K R Tv d tv) (hg:w.grownBy w' (some tb)) (hne:G≠tb):GBox w' G K R Tv d tv:=by
 have k:∀ {i x},w.cell? ⟨G,i,none⟩=some x→w'.cell? ⟨G,i,none⟩=some x:=fun {i x} hc=>by
  rw [World.cell?_of_block (a:=⟨G,i,none⟩) (hg.block G (World.block_lt_of_cell? _ _ hc) (by simpa using hne))]; exact hc
 exact ⟨k h.c0,k h.c1,k h.c2,k h.c3,k h.c4⟩
theorem IntsAt.grown {w w':World} {v:Value} {xs:List Int} {tb:Nat} (h:IntsAt w v xs) (hg:w.grownBy w' (some tb)) (hoff:∀ i,i<xs.length→(valAt v i).block≠tb):IntsAt w' v xs :=
 h.cells_eq fun i hi=>World.cell?_of_block (hg.block _ (h.blk i hi) (by simpa using hoff i hi))
theorem setCell_grown {w:World} {v:Value} {i g n c:Nat} (hv:v=.slice (some ⟨g,0,none⟩) n c) (x:Value):w.grownBy (w.setCell (valAt v i) x) (some g):=by
 subst hv
 rw [valAt_row]
 exact ⟨rfl,rfl,rfl,by simp [World.setCell],fun k _ hk=>Below.heap_setCell _ _ _ _ (by simp at hk; omega)⟩
theorem drewN_grown (w:World) (n:Nat) (row:Option Nat):w.grownBy (w.drewN n) row:=⟨rfl,rfl,rfl,Nat.le_refl _,fun _ _ _=>rfl⟩
theorem fill_any (K R d G tb tn tc B:Nat) (va:Option Addr) (vn vc:Nat) (T:List Int) (hr:RuleOk K R T) (hl:T.length≤256) (hd:d≤3) (hne:G≠tb) (hoff:∀ i,i<T.length→(valAt (.slice va vn vc) i).block≠tb) :
 ∀ (f n front image middle:Nat) (w:World) (tab:List Int),n+f=2*(R+d)+1→FillOk K R T n front image→middle<K→GBox w G K R (.slice va vn vc) d (.slice (some ⟨tb,0,none⟩) tn tc)→IntsAt w (.slice va vn vc) T→OwnI B w (.slice (some ⟨tb,0,none⟩) tn tc) tab→tab.length=pw K (2*d+1) →
 Calls Tryz.prog 155 #[.pointer (some ⟨G,0,none⟩),.int .i64 front,.int .i64 image,.int .i64 middle,.int .i64 n] w fun e w' =>
  e=.returned (.bool (fillF K R (2*(R+d)+1) T f front image middle tab).1)∧OwnI B w' (.slice (some ⟨tb,0,none⟩) tn tc) (fillF K R (2*(R+d)+1) T f front image middle tab).2∧w.grownBy w' (some tb):=by
 have hk1:=hr.k1
 have hk4:=hr.k4
 have hr3:=hr.r3
 intro f
 induction f with
 | zero =>
  intro n front image middle w tab hn hf hm hbox hT ho htl
  have him:image<tab.length:=by
   have:=hf.2
   rw [htl,show 2*d+1=n-2*R by omega]; exact this
  have lT:=ho.at.len
  have iT:=fun w'=>ho.at.idx image him w'
  have cT:=ho.at.cellD image him
  have fT:=ho.frz image him
  obtain ⟨y,hy⟩:∃ y,tab.getD image 0=y:=⟨_,rfl⟩
  rw [hy] at cT
  have hset:=ho.set image him (middle:Int)
  have hgr:=setCell_grown (w:=w) (v:=.slice (some ⟨tb,0,none⟩) tn tc) (i:=image) rfl (.int .i64 (middle:Int))
  have hF:fillF K R (2*(R+d)+1) T 0 front image middle tab=if 0≤y∧y≠(middle:Int) then (false,tab) else (true,tab.set image middle):=by unfold fillF; rw [hy]
  obtain ⟨p,hp⟩:∃ p,valAt (.slice (some ⟨tb,0,none⟩) tn tc) image=p:=⟨_,rfl⟩
  rw [hp] at iT cT fT hset hgr
  obtain ⟨z0,z1,z2,z3,z4⟩:=id hbox
  have hn1:(2:Int)*((R:Int)+(d:Int))+1=(n:Int):=by omega
  have hnn:((n:Int)==(n:Int))=true:=by simp
  replace hr:=Hd hr
  replace hoff:=Hd hoff
  replace hf:=Hd hf
  replace hT:=Hd hT
  replace ho:=Hd ho
  replace hset:=Hd hset
  replace hgr:=Hd hgr
  replace hy:=Hd hy
  replace hp:=Hd hp
  replace hF:=Hd hF
  replace hbox:=Hd hbox
  replace htl:=Hd htl
  by_cases hy0:0≤y
  ·have d0:decide ((0:Int)≤y)=true:=decide_eq_true hy0
   by_cases hym:y=(middle:Int)
   ·have d1:(y != (middle:Int))=false:=by rw [hym]; simp
    rw [hF.out,if_neg (fun h=>h.2 hym)]
    go_enter Tryz.func155,Tryz.ntmps155
    go_upto_region 1 with fail
    go_quiet (fail)
    go_wp2
    go_ret
    exact ⟨rfl,hset.out,hgr.out.trans (drewN_grown _ nq _)⟩
   ·have d1:(y != (middle:Int))=true:=by rw [bne_iff_ne]; exact hym
    rw [hF.out,if_pos ⟨hy0,hym⟩]
    go_enter Tryz.func155,Tryz.ntmps155
    go_upto_region 1 with fail
    go_quiet (fail)
    go_wp2
    go_ret
    exact ⟨rfl,ho.out,drewN_grown w nq _⟩
  ·have d0:decide ((0:Int)≤y)=false:=decide_eq_false hy0
   rw [hF.out,if_neg (fun h=>hy0 h.1)]
   go_enter Tryz.func155,Tryz.ntmps155
   go_upto_region 1 with fail
   go_quiet (fail)
   go_wp2
   go_ret
   exact ⟨rfl,hset.out,hgr.out.trans (drewN_grown _ nq _)⟩
 | succ f ih =>
  intro n front image middle w tab hn hf hm hbox hT ho htl
  have lT:=hT.len
  obtain ⟨wd,hwd⟩:∃ wd,2*(R+d)+1=wd:=⟨_,rfl⟩
  have hw1:(2:Int)*((R:Int)+(d:Int))+1=(wd:Int):=by omega
  have hnw:((n:Int)==(wd:Int))=false:=by rw [beq_eq_false_iff_ne]; omega
  have hh1:(wd:Int).tdiv 2=((R+d:Nat):Int):=by rw [Int.tdiv_eq_ediv_of_nonneg (by omega)]; omega
  have hh2:(wd:Int)/2=((R+d:Nat):Int):=by omega
  have hnb:n≤12:=by omega
  have hnsub:2*(R+d)+1-(f+1)=n:=by omega
  have hhalf:(2*(R+d)+1)/2=R+d:=by omega
  obtain ⟨g,hg⟩:∃ g:Nat→List Int→Bool×List Int,g=fun s t=>fillF K R (2*(R+d)+1) T f ((front*K+s)%(T.length/K)) (if 2*R≤n then image*K+(T.getD (front*K+s) 0).toNat else image) (if n=R+d then s else middle) t:=⟨_,rfl⟩
  have hF:fillF K R (2*(R+d)+1) T (f+1) front image middle tab=fillL g (List.range K) tab:=by
   rw [hg]
   conv=>lhs; unfold fillF
   rw [hnsub,hhalf]
  rw [hF]
  have him:image<16384:=Nat.lt_of_lt_of_le hf.2 (pw_le hk1 hk4 (by omega))
  have hTl:T.length/K≤256:=Nat.le_trans (Nat.div_le_self _ _) hl
  have hf1:=hf.1
  have hfr:front<256:=by omega
  obtain ⟨z0,z1,z2,z3,z4⟩:=id hbox
  obtain ⟨tl,htl2⟩:∃ tl,T.length=tl:=⟨_,rfl⟩
  rw [htl2] at lT hl
  obtain ⟨Lq,hLq⟩:∃ q,tl/K=q:=⟨_,rfl⟩
  rw [htl2,hLq] at hTl hf1
  have hLz:¬ Lq=0:=by omega
  have hLz2:((Lq:Int)==0)=false:=by rw [beq_eq_false_iff_ne]; omega
  have hKz:¬ K=0:=by omega
  have hKz2:((K:Int)==0)=false:=by rw [beq_eq_false_iff_ne]; omega
  have e1:(tl:Int).tdiv (K:Int)=(Lq:Int):=by rw [Int.tdiv_eq_ediv_of_nonneg (by omega),← Int.natCast_ediv,hLq]
  have e2:(tl:Int)/(K:Int)=(Lq:Int):=by rw [← Int.natCast_ediv,hLq]
  replace hr:=Hd hr
  replace hoff:=Hd hoff
  replace hf:=Hd hf
  replace hT:=Hd hT
  replace ho:=Hd ho
  replace hF:=Hd hF
  replace hg:=Hd hg
  replace hbox:=Hd hbox
  replace htl:=Hd htl
  replace hwd:=Hd hwd
  replace htl2:=Hd htl2
  replace hLq:=Hd hLq
  replace ih:=Hd ih
  replace hhalf:=Hd hhalf
  replace hnsub:=Hd hnsub
  go_enter Tryz.func155,Tryz.ntmps155
  go_upto_region 1 with fail
  go_quiet (fail)
  go_wp2_with fail
  go_loopw [62] (fun iv wr=>∃ (s:Nat) (t:List Int),s≤K∧iv=.int .i64 s∧fillL g (List.range s) tab=(true,t)∧OwnI B wr (.slice (some ⟨tb,0,none⟩) tn tc) t∧w.grownBy wr (some tb)) (fun iv _=>K-(intOf iv).toNat)
  case atStart=>exact ⟨0,tab,Nat.zero_le _,rfl,rfl,ho.out,drewN_grown w nq _⟩
  case round =>
   clear z0 z1 z2 z3 z4
   obtain ⟨s,t,hs,rfl,hft,hO,hG⟩:=hrel
   obtain ⟨wo,rfl⟩:∃ wo:World,wo=wr:=⟨_,rfl⟩
   by_cases hsK:s<K
   ·have ds:decide ((s:Int)<(K:Int))=true:=decide_eq_true (by omega)
    obtain ⟨z0,z1,z2,z3,z4⟩:=hbox.out.kept hG hne
    have hTo:=hT.out.grown hG hoff.out
    have hwin:=hf.out.window hr.out hsK
    have hstep:=hf.out.step hr.out hsK
    have hgs:g s t=fillF K R (2*(R+d)+1) T f ((front*K+s)%(T.length/K)) (if 2*R≤n then image*K+(T.getD (front*K+s) 0).toNat else image) (if n=R+d then s else middle) t:=by rw [hg.out]
    have htlen:t.length=pw K (2*d+1):=by
     have:=fillL_len (g:=g) (fun s t=>by rw [hg.out]; exact fillF_len _ _ _ _ _ _ _ _ _) (List.range s) tab
     rw [hft] at this
     rw [← htl.out]; exact this
    have hxs:=getD_syms hr.out.syms hwin
    have iT:=fun w'=>hTo.idx (front*K+s) hwin w'
    have cT:=hTo.cellD (front*K+s) hwin
    obtain ⟨x,hx⟩:∃ x,T.getD (front*K+s) 0=x:=⟨_,rfl⟩
    rw [hx] at hxs cT hstep hgs
    obtain ⟨xn,rfl⟩:∃ m:Nat,x=(m:Int):=⟨x.toNat,by omega⟩
    rw [Int.toNat_natCast] at hstep hgs
    rw [htl2.out,hLq.out] at hstep hgs
    rw [htl2.out] at hwin
    obtain ⟨fk,hfk⟩:∃ q,front*K=q:=⟨_,rfl⟩
    have hfk1:(front:Int)*(K:Int)=(fk:Int):=by rw [← hfk]; simp
    rw [hfk] at iT cT hwin hstep hgs hx
    obtain ⟨win,hwn⟩:∃ q,fk+s=q:=⟨_,rfl⟩
    have hwn1:(fk:Int)+(s:Int)=(win:Int):=by omega
    rw [hwn] at iT cT hwin hstep hgs hx
    obtain ⟨wm,hwm⟩:∃ q,win%Lq=q:=⟨_,rfl⟩
    have hwml:wm<Lq:=by rw [← hwm]; exact Nat.mod_lt _ (by omega)
    have e3:(win:Int).tmod (Lq:Int)=(wm:Int):=by rw [Int.tmod_eq_emod_of_nonneg (by omega),← Int.natCast_emod,hwm]
    have e4:(win:Int)%(Lq:Int)=(wm:Int):=by rw [← Int.natCast_emod,hwm]
    rw [hwm] at hstep hgs
    have hik:image*K≤16384*4:=Nat.mul_le_mul (by omega) hk4
    obtain ⟨ik,hikn⟩:∃ q,image*K=q:=⟨_,rfl⟩
    have hik1:(image:Int)*(K:Int)=(ik:Int):=by rw [← hikn]; simp
    rw [hikn] at hstep hgs hik
    obtain ⟨px,hpx⟩:∃ p,valAt (.slice va vn vc) win=p:=⟨_,rfl⟩
    rw [hpx] at iT cT
    have hfkb:fk≤1024:=by rw [← hfk]; exact Nat.le_trans (Nat.mul_le_mul (show front≤256 by omega) hk4) (by decide)
    have hwinb:win≤1028:=by omega
    have wL:=wrapK (x:=(Lq:Int)) (by omega) (by omega)
    have wn1:=wrapK (x:=(n:Int)+1) (by omega) (by omega)
    replace hfk:=Hd hfk
    replace hwn:=Hd hwn
    replace hwm:=Hd hwm
    replace hikn:=Hd hikn
    replace hpx:=Hd hpx
    replace hx:=Hd hx
    replace hft:=Hd hft
    replace hO:=Hd hO
    replace hTo:=Hd hTo
    replace htlen:=Hd htlen
    by_cases hge:2*R≤n<;>by_cases hmid:n=R+d
    ·have hgs2:g s t=fillF K R (2*(R+d)+1) T f wm (ik+xn) s t:=by rw [hgs,if_pos hge,if_pos hmid]
     have hst2:FillOk K R T (n+1) wm (ik+xn):=by rw [if_pos hge] at hstep; exact hstep
     have dg:decide ((2:Int)*(R:Int)≤(n:Int))=true:=decide_eq_true (by omega)
     have dm:((n:Int)==((R+d:Nat):Int))=true:=by rw [beq_iff_eq]; omega
     have e5:((n+1:Nat):Int)=(n:Int)+1:=rfl
     have e6:(((ik+xn):Nat):Int)=(ik:Int)+(xn:Int):=Int.natCast_add _ _
     have hih:∀ (W:World) (t:List Int),GBox W G K R (.slice va vn vc) d (.slice (some ⟨tb,0,none⟩) tn tc)→IntsAt W (.slice va vn vc) T→OwnI B W (.slice (some ⟨tb,0,none⟩) tn tc) t→t.length=pw K (2*d+1) →
      Calls Tryz.prog 155 #[.pointer (some ⟨G,0,none⟩),.int .i64 (wm:Int),.int .i64 ((ik:Int)+(xn:Int)),.int .i64 (s:Int),.int .i64 ((n:Int)+1)] W fun e w' =>
       e=.returned (.bool (fillF K R (2*(R+d)+1) T f wm (ik+xn) s t).1)∧OwnI B w' (.slice (some ⟨tb,0,none⟩) tn tc) (fillF K R (2*(R+d)+1) T f wm (ik+xn) s t).2∧W.grownBy w' (some tb):=fun W t a1 a2 a3 a4=>by
      have:=ih.out (n+1) wm (ik+xn) s W t (by omega) hst2 (by omega) a1 a2 a3 a4
      rw [e5,e6] at this
      exact this
     clear e5 e6
     replace hmid:=Hd hmid
     replace hgs:=Hd hgs
     replace hgs2:=Hd hgs2
     replace hst2:=Hd hst2
     replace hstep:=Hd hstep
     replace hih:=Hd hih
     go_upto_region 13 with fail
     go_quiet (fail)
     go_upto_region 17 with fail
     refine wp_region_plan (fun w'=>w'.cell? ⟨G,0,none⟩=some (.int .i64 K)∧w'.cell? ⟨G,2,none⟩=some (.slice va vn vc)) 20 [(0,true),(1,true),(2,true),(3,true),(4,true),(5,true),(6,true),(7,true),(8,true),(9,true),(10,true),(11,true),(12,true),(13,true),(14,true),(15,true),(16,true),(17,true),(18,true),(19,false)] (by kernel_rfl) (by kernel_rfl) ?_
     obtain ⟨W1,hW1⟩:∃ W':World,(wo.drewN nq).drew=W':=⟨_,rfl⟩
     have hS1:W1.cell? ⟨G,0,none⟩=some (.int .i64 K)∧W1.cell? ⟨G,2,none⟩=some (.slice va vn vc):=by rw [← hW1]; exact ⟨z0,z2⟩
     have hg1:wo.grownBy W1 (some tb):=by rw [← hW1]; exact (drewN_grown wo nq _).trans (drewN_grown _ 1 _)
     have hO1:OwnI B W1 (.slice (some ⟨tb,0,none⟩) tn tc) t:=by rw [← hW1]; exact hO.out
     rw [hW1]
     replace hW1:=Hd hW1
     replace hO1:=Hd hO1
     refine pqY 105 hS1 ?_
     refine pqY 106 hS1 ?_
     refine pqY 107 hS1 ?_
     refine pqY 108 hS1 ?_
     refine pqY 109 hS1 ?_
     refine pqY 110 hS1 ?_
     refine pqY 111 hS1 ?_
     refine pqY 112 hS1 ?_
     refine pqY 113 hS1 ?_
     refine pqY 114 hS1 ?_
     refine pqY 115 hS1 ?_
     refine pqY 116 hS1 ?_
     refine pqY 117 hS1 ?_
     refine pqY 118 hS1 ?_
     refine pqY 119 hS1 ?_
     refine pqY 120 hS1 ?_
     refine pqY 121 hS1 ?_
     refine pqY 122 hS1 ?_
     refine pqY 123 hS1 ?_
     refine headC rfl (fun KK hK=>?_)
     go_simp
     have hcall:=hih.out W1 t (hbox.out.kept (hG.trans hg1) hne) (hT.out.grown (hG.trans hg1) hoff.out) hO1.out htlen.out
     rw [← hgs2.out] at hcall
     refine hcall.mono ?_
     rintro e W2 ⟨rfl,hO2,hg2⟩
     have hG2:=(hG.trans hg1).trans hg2
     have hb2:=hbox.out.kept hG2 hne
     refine hK _ _ ⟨hb2.c0,hb2.c2⟩ ?_
     clear hK KK hS1
     refine head0 ?_
     simp only [List.drop_succ_cons,List.drop_zero]
     replace hO2:=Hd hO2
     replace hb2:=Hd hb2
     cases hb:(g s t).1 with
     | true =>
      have hsu:=fillL_succ hft.out
      have hpr:g s t=(true,(g s t).2):=Prod.ext hb rfl
      replace hsu:=Hd hsu
      replace hpr:=Hd hpr
      replace hb:=Hd hb
      go_wp2
      refine NoPanic.normal ?_
      go_wp2
      go_roundw
      case measure=>simp [intOf]; omega
      case rel=>exact ⟨s+1,(g s t).2,by omega,by go_num,by rw [hsu.out]; exact hpr.out,hO2.out,hG2⟩
     | false =>
      have hso:=fillL_stop hsK hft.out hb
      replace hb:=Hd hb
      replace hso:=Hd hso
      go_wp2
      refine NoPanic.normal ?_
      go_wp2
      go_ret
      exact ⟨by rw [hso.out,hb.out]; rfl,by rw [hso.out]; exact hO2.out,hG2⟩
    ·have hgs2:g s t=fillF K R (2*(R+d)+1) T f wm (ik+xn) middle t:=by rw [hgs,if_pos hge,if_neg hmid]
     have hst2:FillOk K R T (n+1) wm (ik+xn):=by rw [if_pos hge] at hstep; exact hstep
     have dg:decide ((2:Int)*(R:Int)≤(n:Int))=true:=decide_eq_true (by omega)
     have dm:((n:Int)==((R+d:Nat):Int))=false:=by rw [beq_eq_false_iff_ne]; omega
     have e5:((n+1:Nat):Int)=(n:Int)+1:=rfl
     have e6:(((ik+xn):Nat):Int)=(ik:Int)+(xn:Int):=Int.natCast_add _ _
     have hih:∀ (W:World) (t:List Int),GBox W G K R (.slice va vn vc) d (.slice (some ⟨tb,0,none⟩) tn tc)→IntsAt W (.slice va vn vc) T→OwnI B W (.slice (some ⟨tb,0,none⟩) tn tc) t→t.length=pw K (2*d+1) →
      Calls Tryz.prog 155 #[.pointer (some ⟨G,0,none⟩),.int .i64 (wm:Int),.int .i64 ((ik:Int)+(xn:Int)),.int .i64 (middle:Int),.int .i64 ((n:Int)+1)] W fun e w' =>
       e=.returned (.bool (fillF K R (2*(R+d)+1) T f wm (ik+xn) middle t).1)∧OwnI B w' (.slice (some ⟨tb,0,none⟩) tn tc) (fillF K R (2*(R+d)+1) T f wm (ik+xn) middle t).2∧W.grownBy w' (some tb):=fun W t a1 a2 a3 a4=>by
      have:=ih.out (n+1) wm (ik+xn) middle W t (by omega) hst2 (by omega) a1 a2 a3 a4
      rw [e5,e6] at this
      exact this
     clear e5 e6
     replace hmid:=Hd hmid
     replace hgs:=Hd hgs
     replace hgs2:=Hd hgs2
     replace hst2:=Hd hst2
     replace hstep:=Hd hstep
     replace hih:=Hd hih
     go_upto_region 13 with fail
     go_quiet (fail)
     go_upto_region 17 with fail
     refine wp_region_plan (fun w'=>w'.cell? ⟨G,0,none⟩=some (.int .i64 K)∧w'.cell? ⟨G,2,none⟩=some (.slice va vn vc)) 20 [(0,true),(1,true),(2,true),(3,true),(4,true),(5,true),(6,true),(7,true),(8,true),(9,true),(10,true),(11,true),(12,true),(13,true),(14,true),(15,true),(16,true),(17,true),(18,true),(19,false)] (by kernel_rfl) (by kernel_rfl) ?_
     obtain ⟨W1,hW1⟩:∃ W':World,(wo.drewN nq).drew=W':=⟨_,rfl⟩
     have hS1:W1.cell? ⟨G,0,none⟩=some (.int .i64 K)∧W1.cell? ⟨G,2,none⟩=some (.slice va vn vc):=by rw [← hW1]; exact ⟨z0,z2⟩
     have hg1:wo.grownBy W1 (some tb):=by rw [← hW1]; exact (drewN_grown wo nq _).trans (drewN_grown _ 1 _)
     have hO1:OwnI B W1 (.slice (some ⟨tb,0,none⟩) tn tc) t:=by rw [← hW1]; exact hO.out
     rw [hW1]
     replace hW1:=Hd hW1
     replace hO1:=Hd hO1
     refine pqY 105 hS1 ?_
     refine pqY 106 hS1 ?_
     refine pqY 107 hS1 ?_
     refine pqY 108 hS1 ?_
     refine pqY 109 hS1 ?_
     refine pqY 110 hS1 ?_
     refine pqY 111 hS1 ?_
     refine pqY 112 hS1 ?_
     refine pqY 113 hS1 ?_
     refine pqY 114 hS1 ?_
     refine pqY 115 hS1 ?_
     refine pqY 116 hS1 ?_
     refine pqY 117 hS1 ?_
     refine pqY 118 hS1 ?_
     refine pqY 119 hS1 ?_
     refine pqY 120 hS1 ?_
     refine pqY 121 hS1 ?_
     refine pqY 122 hS1 ?_
     refine pqY 123 hS1 ?_
     refine headC rfl (fun KK hK=>?_)
     go_simp
     have hcall:=hih.out W1 t (hbox.out.kept (hG.trans hg1) hne) (hT.out.grown (hG.trans hg1) hoff.out) hO1.out htlen.out
     rw [← hgs2.out] at hcall
     refine hcall.mono ?_
     rintro e W2 ⟨rfl,hO2,hg2⟩
     have hG2:=(hG.trans hg1).trans hg2
     have hb2:=hbox.out.kept hG2 hne
     refine hK _ _ ⟨hb2.c0,hb2.c2⟩ ?_
     clear hK KK hS1
     refine head0 ?_
     simp only [List.drop_succ_cons,List.drop_zero]
     replace hO2:=Hd hO2
     replace hb2:=Hd hb2
     cases hb:(g s t).1 with
     | true =>
      have hsu:=fillL_succ hft.out
      have hpr:g s t=(true,(g s t).2):=Prod.ext hb rfl
      replace hsu:=Hd hsu
      replace hpr:=Hd hpr
      replace hb:=Hd hb
      go_wp2
      refine NoPanic.normal ?_
      go_wp2
      go_roundw
      case measure=>simp [intOf]; omega
      case rel=>exact ⟨s+1,(g s t).2,by omega,by go_num,by rw [hsu.out]; exact hpr.out,hO2.out,hG2⟩
     | false =>
      have hso:=fillL_stop hsK hft.out hb
      replace hb:=Hd hb
      replace hso:=Hd hso
      go_wp2
      refine NoPanic.normal ?_
      go_wp2
      go_ret
      exact ⟨by rw [hso.out,hb.out]; rfl,by rw [hso.out]; exact hO2.out,hG2⟩
    ·have hgs2:g s t=fillF K R (2*(R+d)+1) T f wm image s t:=by rw [hgs,if_neg hge,if_pos hmid]
     have hst2:FillOk K R T (n+1) wm image:=by rw [if_neg hge] at hstep; exact hstep
     have dg:decide ((2:Int)*(R:Int)≤(n:Int))=false:=decide_eq_false (by omega)
     have dm:((n:Int)==((R+d:Nat):Int))=true:=by rw [beq_iff_eq]; omega
     have e5:((n+1:Nat):Int)=(n:Int)+1:=rfl
     have e6:((image:Nat):Int)=(image:Int):=rfl
     have hih:∀ (W:World) (t:List Int),GBox W G K R (.slice va vn vc) d (.slice (some ⟨tb,0,none⟩) tn tc)→IntsAt W (.slice va vn vc) T→OwnI B W (.slice (some ⟨tb,0,none⟩) tn tc) t→t.length=pw K (2*d+1) →
      Calls Tryz.prog 155 #[.pointer (some ⟨G,0,none⟩),.int .i64 (wm:Int),.int .i64 ((image:Int)),.int .i64 (s:Int),.int .i64 ((n:Int)+1)] W fun e w' =>
       e=.returned (.bool (fillF K R (2*(R+d)+1) T f wm image s t).1)∧OwnI B w' (.slice (some ⟨tb,0,none⟩) tn tc) (fillF K R (2*(R+d)+1) T f wm image s t).2∧W.grownBy w' (some tb):=fun W t a1 a2 a3 a4=>by
      have:=ih.out (n+1) wm image s W t (by omega) hst2 (by omega) a1 a2 a3 a4
      rw [e5,e6] at this
      exact this
     clear e5 e6
     replace hmid:=Hd hmid
     replace hgs:=Hd hgs
     replace hgs2:=Hd hgs2
     replace hst2:=Hd hst2
     replace hstep:=Hd hstep
     replace hih:=Hd hih
     go_upto_region 17 with fail
     refine wp_region_plan (fun w'=>w'.cell? ⟨G,0,none⟩=some (.int .i64 K)∧w'.cell? ⟨G,2,none⟩=some (.slice va vn vc)) 20 [(0,true),(1,true),(2,true),(3,true),(4,true),(5,true),(6,true),(7,true),(8,true),(9,true),(10,true),(11,true),(12,true),(13,true),(14,true),(15,true),(16,true),(17,true),(18,true),(19,false)] (by kernel_rfl) (by kernel_rfl) ?_
     obtain ⟨W1,hW1⟩:∃ W':World,wo.drew=W':=⟨_,rfl⟩
     have hS1:W1.cell? ⟨G,0,none⟩=some (.int .i64 K)∧W1.cell? ⟨G,2,none⟩=some (.slice va vn vc):=by rw [← hW1]; exact ⟨z0,z2⟩
     have hg1:wo.grownBy W1 (some tb):=by rw [← hW1]; exact drewN_grown wo 1 _
     have hO1:OwnI B W1 (.slice (some ⟨tb,0,none⟩) tn tc) t:=by rw [← hW1]; exact hO.out
     rw [hW1]
     replace hW1:=Hd hW1
     replace hO1:=Hd hO1
     refine pqY 105 hS1 ?_
     refine pqY 106 hS1 ?_
     refine pqY 107 hS1 ?_
     refine pqY 108 hS1 ?_
     refine pqY 109 hS1 ?_
     refine pqY 110 hS1 ?_
     refine pqY 111 hS1 ?_
     refine pqY 112 hS1 ?_
     refine pqY 113 hS1 ?_
     refine pqY 114 hS1 ?_
     refine pqY 115 hS1 ?_
     refine pqY 116 hS1 ?_
     refine pqY 117 hS1 ?_
     refine pqY 118 hS1 ?_
     refine pqY 119 hS1 ?_
     refine pqY 120 hS1 ?_
     refine pqY 121 hS1 ?_
     refine pqY 122 hS1 ?_
     refine pqY 123 hS1 ?_
     refine headC rfl (fun KK hK=>?_)
     go_simp
     have hcall:=hih.out W1 t (hbox.out.kept (hG.trans hg1) hne) (hT.out.grown (hG.trans hg1) hoff.out) hO1.out htlen.out
     rw [← hgs2.out] at hcall
     refine hcall.mono ?_
     rintro e W2 ⟨rfl,hO2,hg2⟩
     have hG2:=(hG.trans hg1).trans hg2
     have hb2:=hbox.out.kept hG2 hne
     refine hK _ _ ⟨hb2.c0,hb2.c2⟩ ?_
     clear hK KK hS1
     refine head0 ?_
     simp only [List.drop_succ_cons,List.drop_zero]
     replace hO2:=Hd hO2
     replace hb2:=Hd hb2
     cases hb:(g s t).1 with
     | true =>
      have hsu:=fillL_succ hft.out
      have hpr:g s t=(true,(g s t).2):=Prod.ext hb rfl
      replace hsu:=Hd hsu
      replace hpr:=Hd hpr
      replace hb:=Hd hb
      go_wp2
      refine NoPanic.normal ?_
      go_wp2
      go_roundw
      case measure=>simp [intOf]; omega
      case rel=>exact ⟨s+1,(g s t).2,by omega,by go_num,by rw [hsu.out]; exact hpr.out,hO2.out,hG2⟩
     | false =>
      have hso:=fillL_stop hsK hft.out hb
      replace hb:=Hd hb
      replace hso:=Hd hso
      go_wp2
      refine NoPanic.normal ?_
      go_wp2
      go_ret
      exact ⟨by rw [hso.out,hb.out]; rfl,by rw [hso.out]; exact hO2.out,hG2⟩
    ·have hgs2:g s t=fillF K R (2*(R+d)+1) T f wm image middle t:=by rw [hgs,if_neg hge,if_neg hmid]
     have hst2:FillOk K R T (n+1) wm image:=by rw [if_neg hge] at hstep; exact hstep
     have dg:decide ((2:Int)*(R:Int)≤(n:Int))=false:=decide_eq_false (by omega)
     have dm:((n:Int)==((R+d:Nat):Int))=false:=by rw [beq_eq_false_iff_ne]; omega
     have e5:((n+1:Nat):Int)=(n:Int)+1:=rfl
     have e6:((image:Nat):Int)=(image:Int):=rfl
     have hih:∀ (W:World) (t:List Int),GBox W G K R (.slice va vn vc) d (.slice (some ⟨tb,0,none⟩) tn tc)→IntsAt W (.slice va vn vc) T→OwnI B W (.slice (some ⟨tb,0,none⟩) tn tc) t→t.length=pw K (2*d+1) →
      Calls Tryz.prog 155 #[.pointer (some ⟨G,0,none⟩),.int .i64 (wm:Int),.int .i64 ((image:Int)),.int .i64 (middle:Int),.int .i64 ((n:Int)+1)] W fun e w' =>
       e=.returned (.bool (fillF K R (2*(R+d)+1) T f wm image middle t).1)∧OwnI B w' (.slice (some ⟨tb,0,none⟩) tn tc) (fillF K R (2*(R+d)+1) T f wm image middle t).2∧W.grownBy w' (some tb):=fun W t a1 a2 a3 a4=>by
      have:=ih.out (n+1) wm image middle W t (by omega) hst2 (by omega) a1 a2 a3 a4
      rw [e5,e6] at this
      exact this
     clear e5 e6
     replace hmid:=Hd hmid
     replace hgs:=Hd hgs
     replace hgs2:=Hd hgs2
     replace hst2:=Hd hst2
     replace hstep:=Hd hstep
     replace hih:=Hd hih
     go_upto_region 17 with fail
     refine wp_region_plan (fun w'=>w'.cell? ⟨G,0,none⟩=some (.int .i64 K)∧w'.cell? ⟨G,2,none⟩=some (.slice va vn vc)) 20 [(0,true),(1,true),(2,true),(3,true),(4,true),(5,true),(6,true),(7,true),(8,true),(9,true),(10,true),(11,true),(12,true),(13,true),(14,true),(15,true),(16,true),(17,true),(18,true),(19,false)] (by kernel_rfl) (by kernel_rfl) ?_
     obtain ⟨W1,hW1⟩:∃ W':World,wo.drew=W':=⟨_,rfl⟩
     have hS1:W1.cell? ⟨G,0,none⟩=some (.int .i64 K)∧W1.cell? ⟨G,2,none⟩=some (.slice va vn vc):=by rw [← hW1]; exact ⟨z0,z2⟩
     have hg1:wo.grownBy W1 (some tb):=by rw [← hW1]; exact drewN_grown wo 1 _
     have hO1:OwnI B W1 (.slice (some ⟨tb,0,none⟩) tn tc) t:=by rw [← hW1]; exact hO.out
     rw [hW1]
     replace hW1:=Hd hW1
     replace hO1:=Hd hO1
     refine pqY 105 hS1 ?_
     refine pqY 106 hS1 ?_
     refine pqY 107 hS1 ?_
     refine pqY 108 hS1 ?_
     refine pqY 109 hS1 ?_
     refine pqY 110 hS1 ?_
     refine pqY 111 hS1 ?_
     refine pqY 112 hS1 ?_
     refine pqY 113 hS1 ?_
     refine pqY 114 hS1 ?_
     refine pqY 115 hS1 ?_
     refine pqY 116 hS1 ?_
     refine pqY 117 hS1 ?_
     refine pqY 118 hS1 ?_
     refine pqY 119 hS1 ?_
     refine pqY 120 hS1 ?_
     refine pqY 121 hS1 ?_
     refine pqY 122 hS1 ?_
     refine pqY 123 hS1 ?_
     refine headC rfl (fun KK hK=>?_)
     go_simp
     have hcall:=hih.out W1 t (hbox.out.kept (hG.trans hg1) hne) (hT.out.grown (hG.trans hg1) hoff.out) hO1.out htlen.out
     rw [← hgs2.out] at hcall
     refine hcall.mono ?_
     rintro e W2 ⟨rfl,hO2,hg2⟩
     have hG2:=(hG.trans hg1).trans hg2
     have hb2:=hbox.out.kept hG2 hne
     refine hK _ _ ⟨hb2.c0,hb2.c2⟩ ?_
     clear hK KK hS1
     refine head0 ?_
     simp only [List.drop_succ_cons,List.drop_zero]
     replace hO2:=Hd hO2
     replace hb2:=Hd hb2
     cases hb:(g s t).1 with
     | true =>
      have hsu:=fillL_succ hft.out
      have hpr:g s t=(true,(g s t).2):=Prod.ext hb rfl
      replace hsu:=Hd hsu
      replace hpr:=Hd hpr
      replace hb:=Hd hb
      go_wp2
      refine NoPanic.normal ?_
      go_wp2
      go_roundw
      case measure=>simp [intOf]; omega
      case rel=>exact ⟨s+1,(g s t).2,by omega,by go_num,by rw [hsu.out]; exact hpr.out,hO2.out,hG2⟩
     | false =>
      have hso:=fillL_stop hsK hft.out hb
      replace hb:=Hd hb
      replace hso:=Hd hso
      go_wp2
      refine NoPanic.normal ?_
      go_wp2
      go_ret
      exact ⟨by rw [hso.out,hb.out]; rfl,by rw [hso.out]; exact hO2.out,hG2⟩
   ·obtain rfl:s=K:=by omega
    have ds:decide ((s:Int)<(s:Int))=false:=decide_eq_false (by omega)
    replace hft:=Hd hft
    replace hO:=Hd hO
    go_wp2
    go_ret
    exact ⟨by rw [hft.out]; rfl,by rw [hft.out]; exact hO.out,hG⟩
end Go.Proofs.YtkaoebokbfcmhaaGreatDoor
namespace Go.Proofs.YtkaoebokbfcmhaaGreatDoor
open Go.RowKit
set_option maxRecDepth 100000
set_option maxHeartbeats 8000000
def sInverse:ByteArray:=⟨#[105,110,118,101,114,115,101]⟩
theorem inverse_wrong (r:Nat→Addr) (at_ n:Int) (w:World) (hg:Glob r w) (h1:1≤n) (h2:n≤11) :
 Calls Tryz.prog 154 #[.int .i64 at_,.int .i64 n] w (Ret1 (fun v w'=>ErrIs r w' (fresh sInverse at_ n) v) w):=by
 go_enter Tryz.func154,Tryz.ntmps154
 go_wp2_with fail
 refine (new_any r _ at_ n w hg h1 h2).mono ?_
 rintro e w' ⟨v,rfl,hb,he⟩
 go_wp2
 go_ret
 exact ⟨_,rfl,hb,he⟩
theorem OwnI.open {B:Nat} {w:World} {v:Value} {xs:List Int} (h:OwnI B w v xs) (hne:xs≠[]):∃ g n c,v=.slice (some ⟨g,0,none⟩) n c∧B≤g∧g<w.heap.size:=by
 rcases h.2 with ⟨_,hn⟩ | ⟨g,cap,cur,e,hb,hg,_⟩
 ·exact absurd (List.length_eq_zero_iff.1 hn) hne
 ·exact ⟨g,_,_,e,hb,(Array.getElem?_eq_some_iff.1 hg).1⟩
def FindPost (r:Nat→Addr) (w:World) (K R:Nat) (T:List Int) (x y:Value) (w':World):Prop :=
 (NotOne K R T∧x=zR∧ErrIs r w' (fresh sInverse 0 9) y)∨(¬ NotOne K R T∧findP K R T=none∧x=zR∧ErrIs r w' (fresh sInverse 0 4) y) ∨
   (¬ NotOne K R T∧∃ d S a n c,findP K R T=some (d,S)∧y=.nilIface∧x=.agg #[.int .i64 K,.int .i64 ((d:Nat):Int),.slice a n c]∧OwnI w.heap.size w' (.slice a n c) S)
theorem find_bad (r:Nat→Addr) (k R:Int) (va:Option Addr) (vn vc:Nat) (T:List Int) (t:Int×List (ByteArray×Int)) (w:World) (hg:Glob r w) (h:IntsAt w (.slice va vn vc) T) (hc:smallP k R T=some t) :
 Calls Tryz.prog 120 #[.agg #[.int .i64 k,.int .i64 R,.slice va vn vc]] w (Ret2 (fun x y w'=>x=zR∧ErrIs r w' (under sInverse 0 (under sInject 0 (under sPairs 0 (some t)))) y) w):=by
 have b0:=Below.step (belowAlloc w (.cells #[.int .i64 k,.int .i64 R,.slice va vn vc] 24)) (belowAlloc _ (.cells #[.int .i64 0,.int .i64 0,.slice none 0 0] 24))
 have qz:Box3 ((w.alloc (.cells #[.int .i64 k,.int .i64 R,.slice va vn vc] 24)).alloc (.cells #[.int .i64 0,.int .i64 0,.slice none 0 0] 24)) (w.heap.size+1) (.int .i64 0) (.int .i64 0) (.slice none 0 0):=by simp [Box3,go_sem]
 replace hg:=Hd (hg.below b0)
 replace h:=Hd (h.below b0)
 replace hc:=Hd hc
 go_enter Tryz.func120,Tryz.ntmps120
 go_wp2_with fail
 refine (one_bad r k R va vn vc T t _ hg.out h.out hc.out).mono ?_
 rintro e w1 ⟨_,_,_,y,rfl,b1,rfl,rfl,rfl,hy⟩
 have hy':=hy
 obtain ⟨T2,a2,rfl⟩:∃ T a,y=.iface T (.pointer (some a)):=by
  unfold under at hy'
  exact ErrIs.some_shape hy'
 have b2:=Below.step b1 (Below.step (belowAlloc w1 (.cells #[.int .i64 0,.slice none 0 0,.slice none 0 0,.slice none 0 0] 42)) (belowAlloc _ (.cells #[.int .i64 0,.slice none 0 0,.slice none 0 0,.slice none 0 0] 42)))
 have hy2:=hy.below (Below.step (belowAlloc w1 (.cells #[.int .i64 0,.slice none 0 0,.slice none 0 0,.slice none 0 0] 42)) (belowAlloc _ (.cells #[.int .i64 0,.slice none 0 0,.slice none 0 0,.slice none 0 0] 42)))
 replace hy:=Hd hy
 replace hy2:=Hd hy2
 go_wp2_with fail
 refine (under_any r _ _ _ _ _ hy2.out).mono ?_
 rintro e w3 ⟨u,rfl,b3,hu⟩
 have hu':=hu
 obtain ⟨T3,a3,rfl⟩:∃ T a,u=.iface T (.pointer (some a)):=by
  unfold under at hu'
  exact ErrIs.some_shape hu'
 have bE:=Below.step b0 (Below.step b2 b3)
 obtain ⟨⟨y0,y1,y2⟩,-,-,-⟩:=qz.below (Below.step b2 b3)
 obtain ⟨-,f0,f1,f2⟩:=qz.below (Below.step b2 b3)
 replace hu:=Hd hu
 clear hu'
 go_wp2
 rw [setCell_self3 y0 y1 y2]
 exact bodyPost_ret (v:=.tuple #[zR,.iface T3 (.pointer (some a3))]) (by simp [results,Tryz.results120,go_sem,y0,y1,y2]) rfl ⟨_,_,rfl,bE,rfl,hu.out⟩
theorem findF_succ (K R:Nat) (T:List Int) (m e:Nat):findF K R T (m+1) e=if (tryF K R T e).1=true then some (e,(tryF K R T e).2) else findF K R T m (e+1):=rfl
theorem minus_step (j n:Nat) (h:j<n):(List.replicate j (-1:Int)++List.replicate (n-j) 0).set j (-1)=List.replicate (j+1) (-1)++List.replicate (n-(j+1)) 0:=by
 rw [show n-j=(n-(j+1))+1 by omega,List.replicate_succ,List.set_append_right _ _ (by simp),List.length_replicate,Nat.sub_self,List.set_cons_zero,List.replicate_succ',List.append_assoc]
 rfl
theorem find_ok (r:Nat→Addr) (K R:Nat) (va:Option Addr) (vn vc:Nat) (T:List Int) (w:World) (hg:Glob r w) (h:IntsAt w (.slice va vn vc) T) (hr:RuleOk K R T) (hl:T.length≤256) :
 Calls Tryz.prog 120 #[.agg #[.int .i64 K,.int .i64 R,.slice va vn vc]] w (Ret2 (FindPost r w K R T) w):=by
 have b0:=Below.step (belowAlloc w (.cells #[.int .i64 K,.int .i64 R,.slice va vn vc] 24)) (belowAlloc _ (.cells #[.int .i64 0,.int .i64 0,.slice none 0 0] 24))
 have q:=(show Box3 ((w.alloc (.cells #[.int .i64 K,.int .i64 R,.slice va vn vc] 24)).alloc (.cells #[.int .i64 0,.int .i64 0,.slice none 0 0] 24)) w.heap.size (.int .i64 K) (.int .i64 R) (.slice va vn vc) by simp [Box3,go_sem])
 have qz:=(show Box3 ((w.alloc (.cells #[.int .i64 K,.int .i64 R,.slice va vn vc] 24)).alloc (.cells #[.int .i64 0,.int .i64 0,.slice none 0 0] 24)) (w.heap.size+1) (.int .i64 0) (.int .i64 0) (.slice none 0 0) by simp [Box3,go_sem])
 have hk1:=hr.k1
 have hk4:=hr.k4
 have hblk0:=fun i hi=>h.blk i hi
 have hs0:((w.alloc (.cells #[.int .i64 K,.int .i64 R,.slice va vn vc] 24)).alloc (.cells #[.int .i64 0,.int .i64 0,.slice none 0 0] 24)).heap.size=w.heap.size+2:=by simp
 replace hg:=Hd (hg.below b0)
 replace h:=Hd (h.below b0)
 replace hr:=Hd hr
 replace hl:=Hd hl
 replace hblk0:=Hd hblk0
 obtain ⟨W0,hW0⟩:∃ W0:World,(w.alloc (.cells #[.int .i64 K,.int .i64 R,.slice va vn vc] 24)).alloc (.cells #[.int .i64 0,.int .i64 0,.slice none 0 0] 24)=W0:=⟨_,rfl⟩
 rw [hW0] at b0 q qz hs0 hg h
 go_enter Tryz.func120,Tryz.ntmps120
 obtain ⟨⟨z0,z1,z2⟩,-,-,-⟩:=id q
 go_upto_region 1 with fail
 replace hW0:=Hd hW0
 go_wp2_with fail
 refine (one_ok r K R va vn vc T _ hg.out h.out hr.out hl.out).mono ?_
 rintro e w1 ⟨_,_,_,_,rfl,b1,hp⟩
 obtain ⟨rfl,Y,rfl,hY,a1,n1,c1,a2,n2,c2,a3,n3,c3,a4,n4,c4,a5,n5,c5,a6,n6,c6,rfl,rfl⟩:=hp.ans
 have b2:=Below.step b1 (Below.step (belowAlloc w1 (.cells #[.int .i64 0,.slice a1 n1 c1,.slice a2 n2 c2,.slice a3 n3 c3] 42)) (belowAlloc _ (.cells #[.int .i64 0,.slice a4 n4 c4,.slice a5 n5 c5,.slice a6 n6 c6] 42)))
 obtain ⟨w2,hw2⟩:∃ W:World,(w1.alloc (.cells #[.int .i64 0,.slice a1 n1 c1,.slice a2 n2 c2,.slice a3 n3 c3] 42)).alloc (.cells #[.int .i64 0,.slice a4 n4 c4,.slice a5 n5 c5,.slice a6 n6 c6] 42)=W:=⟨_,rfl⟩
 rw [hw2] at b2
 have q2:=q.below b2
 have qz2:=qz.below b2
 have hg2:=hg.out.below b2
 have h2:=h.out.below b2
 have bw2:=Below.step b0 b2
 have hs2:w.heap.size+2≤w2.heap.size:=by rw [← hs0]; exact b2.size
 replace hg2:=Hd hg2
 replace h2:=Hd h2
 clear hp z0 z1 z2
 cases Y with
 | false =>
  have hno:NotOne K R T:=Classical.byContradiction fun hc=>by have:=hY.2 hc; cases this
  go_upto_region 4 with fail
  replace hw2:=Hd hw2
  go_wp2_with fail
  refine (inverse_wrong r _ _ _ hg2.out (by decide) (by decide)).mono ?_
  rintro e w3 ⟨u,rfl,b3,hu⟩
  obtain ⟨T3,a3,rfl⟩:=ErrIs.some_shape hu
  obtain ⟨⟨y0,y1,y2⟩,f0,f1,f2⟩:=qz2.below b3
  have bE:=Below.step bw2 b3
  replace hu:=Hd hu
  replace hY:=Hd hY
  go_wp2
  rw [setCell_self3 y0 y1 y2]
  exact bodyPost_ret (v:=.tuple #[zR,.iface T3 (.pointer (some a3))]) (by simp [results,Tryz.results120,go_sem,y0,y1,y2]) rfl ⟨_,_,rfl,bE,.inl ⟨hno,rfl,hu.out⟩⟩
 | true =>
  have hone:¬ NotOne K R T:=hY.1 rfl
  replace hone:=Hd hone
  clear hY
  go_upto_region 4 with fail
  replace hw2:=Hd hw2
  go_wp2_with fail
  go_loopw [29] (fun iv wr=>∃ e:Nat,e≤4∧iv=.int .i64 e∧findP K R T=findF K R T (4-e) e∧Below w2.heap.size w2 wr) (fun iv _=>4-(intOf iv).toNat)
  case atStart=>exact ⟨0,by omega,rfl,rfl,Below.refl _ _⟩
  case round =>
   obtain ⟨e,he,rfl,hfp,hB⟩:=hrel
   obtain ⟨wo,rfl⟩:∃ wo:World,wo=wr:=⟨_,rfl⟩
   by_cases he4:e<4
   ·have de:decide ((e:Int)<4)=true:=decide_eq_true (by omega)
    obtain ⟨⟨z0,z1,z2⟩,-,-,-⟩:=q2.below hB
    replace hfp:=Hd hfp
    go_wp2_with fail
    refine (size_ok K e wo hk1 hk4 (by omega)).mono ?_
    rintro e' w' ⟨rfl,rfl⟩
    obtain ⟨n,hn⟩:∃ n,pw K (2*e+1)=n:=⟨_,rfl⟩
    have hn1:1≤n:=by rw [← hn]; exact pw_pos _ hk1
    have hnb:n≤16384:=by rw [← hn]; exact pw_le hk1 hk4 (by omega)
    rw [hn]
    replace hn:=Hd hn
    go_upto_region 10 with fail
    refine wp_region_plan (fun w'=>w'.cell? ⟨w.heap.size,0,none⟩=some (.int .i64 K)∧w'.cell? ⟨w.heap.size,1,none⟩=some (.int .i64 R)∧w'.cell? ⟨w.heap.size,2,none⟩=some (.slice va vn vc)) 6 [(0,true),(1,true),(2,true),(3,false),(4,true),(5,false)] (by kernel_rfl) (by kernel_rfl) ?_
    obtain ⟨W1,hW1⟩:∃ W':World,wo.drew=W':=⟨_,rfl⟩
    have bd:Below wo.heap.size wo W1:=by rw [← hW1]; exact (Below.refl _ _).drew
    have bB1:=Below.step hB bd
    rw [hW1]
    replace hW1:=Hd hW1
    have hS1:=(q2.below bB1).1
    refine pqY 39 hS1 ?_
    refine pqY 40 hS1 ?_
    refine pqY 41 hS1 ?_
    obtain ⟨tv,w3,mk,ho3,b3⟩:=run_makeI (n:Int) n W1 rfl (by omega)
    have bB3:=Below.step bB1 b3
    have hS3:=(q2.below bB3).1
    refine headC rfl (fun KK hK=>?_)
    go_simp
    refine hK _ _ hS3 ?_
    clear hK KK mk
    obtain ⟨tb,tn,tc,rfl,htb1,htb2⟩:=ho3.open (by intro e; have:=congrArg List.length e; simp at this; omega)
    refine pqY 43 hS3 ?_
    have ba:=belowAlloc w3 (.cells #[.int .i64 K,.int .i64 R,.slice va vn vc,.int .i64 e,.slice (some ⟨tb,0,none⟩) tn tc] 230)
    have bB4:=Below.step bB3 ba
    have hS4:=(q2.below bB4).1
    have hbox:GBox (w3.alloc (.cells #[.int .i64 K,.int .i64 R,.slice va vn vc,.int .i64 e,.slice (some ⟨tb,0,none⟩) tn tc] 230)) w3.heap.size K R (.slice va vn vc) e (.slice (some ⟨tb,0,none⟩) tn tc):=by
     refine ⟨?_,?_,?_,?_,?_⟩<;>simp [go_sem]
    have ho4:=ho3.below ba
    obtain ⟨W4,hW4⟩:∃ W':World,w3.alloc (.cells #[.int .i64 K,.int .i64 R,.slice va vn vc,.int .i64 e,.slice (some ⟨tb,0,none⟩) tn tc] 230)=W':=⟨_,rfl⟩
    rw [hW4] at ba bB4 hS4 hbox ho4
    obtain ⟨G,hG⟩:∃ G,w3.heap.size=G:=⟨_,rfl⟩
    rw [hG] at hbox htb2
    have hGt:G≠tb:=by omega
    refine headC rfl (fun KK hK=>?_)
    go_simp
    refine hK _ _ hS4 ?_
    clear hK KK hS1 hS3 hS4 z0 z1 z2
    refine head0 ?_
    simp only [List.drop_succ_cons,List.drop_zero]
    replace hW4:=Hd hW4
    have sB1:=bB1.size
    have hoff:∀ i,i<T.length→(valAt (.slice va vn vc) i).block≠tb:=fun i hi=>by
     have:=hblk0.out i hi
     omega
    have hT4:=h2.out.below bB4
    have q4:=q2.below bB4
    have lz:=ho4.at.len
    rw [List.length_replicate] at lz
    have z4:=hbox.c4
    replace hbox:=Hd hbox
    replace ho3:=Hd ho3
    replace ho4:=Hd ho4
    replace hT4:=Hd hT4
    replace hoff:=Hd hoff
    replace hG:=Hd hG
    go_wp2
    refine NoPanic.normal ?_
    go_wp2_with fail
    clear z4
    go_loopw [50] (fun jv wr=>∃ j:Nat,j≤n∧jv=.int .i64 j∧OwnI W1.heap.size wr (.slice (some ⟨tb,0,none⟩) tn tc) (List.replicate j (-1)++List.replicate (n-j) 0)∧W4.grownBy wr (some tb)) (fun jv _=>n-(intOf jv).toNat)
    case atStart=>exact ⟨0,Nat.zero_le _,rfl,by simpa using ho4.out,World.grownBy.refl _ _⟩
    case round =>
     obtain ⟨j,hj,rfl,hO,hGr⟩:=hrel
     obtain ⟨wi,rfl⟩:∃ wo:World,wo=wr:=⟨_,rfl⟩
     have hb4:=(hbox.out.kept hGr hGt)
     have z4:=hb4.c4
     by_cases hjn:j<n
     ·have dj:decide ((j:Int)<(n:Int))=true:=decide_eq_true (by omega)
      have hOl:(List.replicate j (-1:Int)++List.replicate (n-j) 0).length=n:=by simp; omega
      have iO:=fun w'=>hO.at.idx j (by rw [hOl]; exact hjn) w'
      have fO:=hO.frz j (by rw [hOl]; exact hjn)
      obtain ⟨c0,cO⟩:∃ z,wi.cell? (valAt (.slice (some ⟨tb,0,none⟩) tn tc) j)=some z:=⟨_,hO.at.cell j (by rw [hOl]; exact hjn)⟩
      have hset:=hO.set j (by rw [hOl]; exact hjn) (-1)
      rw [minus_step j n hjn] at hset
      have hgr:=setCell_grown (w:=wi) (v:=.slice (some ⟨tb,0,none⟩) tn tc) (i:=j) rfl (.int .i64 (-1))
      have hgr2:=hGr.trans hgr
      obtain ⟨p,hp⟩:∃ p,valAt (.slice (some ⟨tb,0,none⟩) tn tc) j=p:=⟨_,rfl⟩
      rw [hp] at iO fO cO hset hgr2
      replace hset:=Hd hset
      replace hgr2:=Hd hgr2
      replace hO:=Hd hO
      replace hb4:=Hd hb4
      replace hp:=Hd hp
      replace hOl:=Hd hOl
      clear hgr
      go_wp2
      go_roundw
      case measure=>simp [intOf]; omega
      case rel=>exact ⟨j+1,by omega,by go_num,hset.out,hgr2.out⟩
     ·obtain rfl:j=n:=by omega
      have dj:decide ((j:Int)<(j:Int))=false:=decide_eq_false (by omega)
      rw [Nat.sub_self,List.replicate_zero,List.append_nil] at hO
      have hfill:=fill_any K R e G tb tn tc W1.heap.size va vn vc T hr.out hl.out (by omega) hGt hoff.out (2*(R+e)+1) 0 0 0 0 wi _ (by omega) (FillOk.zero hr.out) (by omega) hb4 (hT4.out.grown hGr hoff.out) hO (by rw [List.length_replicate,← hn.out])
      rw [← hn.out,show fillF K R (2*(R+e)+1) T (2*(R+e)+1) 0 0 0 (List.replicate (pw K (2*e+1)) (-1))=tryF K R T e from rfl,show ((0:Nat):Int)=0 from rfl] at hfill
      obtain ⟨X,hX⟩:∃ X,tryF K R T e=X:=⟨_,rfl⟩
      rw [hX] at hfill
      have hfs:findF K R T (4-e) e=if X.1=true then some (e,X.2) else findF K R T (4-(e+1)) (e+1):=by
       rw [show 4-e=(4-(e+1))+1 by omega,findF_succ,hX]
      have sW4:=bB4.size
      replace hfill:=Hd hfill
      replace hO:=Hd hO
      replace hb4:=Hd hb4
      replace hfs:=Hd hfs
      replace hX:=Hd hX
      go_wp2_with fail
      refine hfill.out.mono ?_
      rintro e' w5 ⟨rfl,hO5,hg5⟩
      have hG5:=hGr.trans hg5
      have b5:Below w2.heap.size w2 w5:=bB4.grown hG5 sW4 (fun k hk=>by cases hk; omega)
      have hb5:=hbox.out.kept hG5 hGt
      obtain ⟨X1,X2⟩:=X
      have qE:=q2.below b5
      have qzE:=qz2.below b5
      cases X1 with
      | false =>
       replace hO5:=Hd hO5
       replace hb5:=Hd hb5
       clear z4
       go_wp2
       go_roundw
       case measure=>simp [intOf]; omega
       case rel=>exact ⟨e+1,by omega,by go_num,by rw [hfp.out,hfs.out]; rfl,b5⟩
      | true =>
       clear z4
       have hO5':=Hd hO5
       clear hO5
       have hb54:=hb5.c4
       replace hb5:=Hd hb5
       go_upto_region 17 with fail
       refine wp_region_plan (fun w'=>w'.cell? ⟨w.heap.size,0,none⟩=some (.int .i64 K)∧w'.cell? ⟨G,4,none⟩=some (.slice (some ⟨tb,0,none⟩) tn tc)) 8 [(0,true),(1,true),(2,true),(3,true),(4,true),(5,true),(6,true),(7,true)] (by kernel_rfl) (by kernel_rfl) ?_
       obtain ⟨W6,hW6⟩:∃ W':World,w5.drew=W':=⟨_,rfl⟩
       have bd6:Below w5.heap.size w5 W6:=by rw [← hW6]; exact (Below.refl _ _).drew
       have hS6:W6.cell? ⟨w.heap.size,0,none⟩=some (.int .i64 K)∧W6.cell? ⟨G,4,none⟩=some (.slice (some ⟨tb,0,none⟩) tn tc):=by rw [← hW6]; exact ⟨qE.1.1,hb54⟩
       have hO6:OwnI W1.heap.size W6 (.slice (some ⟨tb,0,none⟩) tn tc) X2:=by rw [← hW6]; exact hO5'.out
       rw [hW6]
       replace hW6:=Hd hW6
       have b6:=Below.step b5 bd6
       obtain ⟨⟨y0,y1,y2⟩,f0,f1,f2⟩:=qz2.below b6
       have bE:=Below.step bw2 b6
       refine pqY 62 hS6 ?_
       refine pqY 63 hS6 ?_
       refine pqY 64 hS6 ?_
       refine pqY 65 hS6 ?_
       refine pqY 66 hS6 ?_
       refine pqY 67 hS6 ?_
       refine pqY 68 hS6 ?_
       refine pqY 69 hS6 ?_
       refine head0 ?_
       simp only [List.drop_succ_cons,List.drop_zero]
       clear hS6 hb54
       replace hO6:=Hd hO6
       go_wp2
       refine NoPanic.normal ?_
       go_wp2
       refine bodyPost_ret (v:=.tuple #[.agg #[.int .i64 K,.int .i64 e,.slice (some ⟨tb,0,none⟩) tn tc],.nilIface]) (by simp [results,Tryz.results120,go_sem,y0,y1,y2]) rfl ⟨_,_,rfl,below_set3 bE (Nat.le_succ _) _ _ _,.inr (.inr ⟨hone.out,e,X2,_,_,_,by rw [hfp.out,hfs.out]; rfl,rfl,rfl,(hO6.out.set3 (b:=w.heap.size+1) (by omega) _ _ _).mono (by omega)⟩)⟩
   ·obtain rfl:e=4:=by omega
    have de:decide (((4:Nat):Int)<4)=false:=by decide
    have hnone:findP K R T=none:=by rw [hfp]; rfl
    replace hfp:=Hd hfp
    replace hnone:=Hd hnone
    go_wp2_with fail
    refine (inverse_wrong r _ _ _ (hg2.out.below hB) (by decide) (by decide)).mono ?_
    rintro e' w3 ⟨u,rfl,b3,hu⟩
    obtain ⟨T3,a3,rfl⟩:=ErrIs.some_shape hu
    obtain ⟨⟨y0,y1,y2⟩,f0,f1,f2⟩:=qz2.below (Below.step hB b3)
    have bE:=Below.step bw2 (Below.step hB b3)
    replace hu:=Hd hu
    go_wp2
    rw [setCell_self3 y0 y1 y2]
    exact bodyPost_ret (v:=.tuple #[zR,.iface T3 (.pointer (some a3))]) (by simp [results,Tryz.results120,go_sem,y0,y1,y2]) rfl ⟨_,_,rfl,bE,.inr (.inl ⟨hone.out,hnone.out,rfl,hu.out⟩)⟩
noncomputable def invE (k R:Int) (T:List Int):PErr:=open Classical in
 match smallP k R T with
 | some t=>under sInverse 0 (under sInject 0 (under sPairs 0 (some t)))
 | none=>if NotOne k.toNat R.toNat T then fresh sInverse 0 9 else match findP k.toNat R.toNat T with
  | none=>fresh sInverse 0 4
  | some _=>none
def InvIs (B:Nat) (w:World) (k R:Int) (T:List Int) (x:Value):Prop :=
 (invE k R T=none→∃ d S a n c,findP k.toNat R.toNat T=some (d,S)∧x=.agg #[.int .i64 k,.int .i64 ((d:Nat):Int),.slice a n c]∧OwnI B w (.slice a n c) S)∧(invE k R T≠none→x=zR)
theorem invE_bad {k R:Int} {T:List Int} {t:Int×List (ByteArray×Int)} (h:smallP k R T=some t):invE k R T=under sInverse 0 (under sInject 0 (under sPairs 0 (some t))):=by unfold invE; rw [h]
theorem smallP_of {k R:Int} {T:List Int} (h:smallP k R T=none):∃ K Q:Nat,k=K∧R=Q∧RuleOk K Q T∧T.length≤256:=by
 obtain ⟨hck,hl⟩:=smallP_none h
 obtain ⟨K,Q,h1,h2,hr⟩:=checkP_none hck
 exact ⟨K,Q,h1,h2,hr,hl⟩
theorem invE_ok {K Q:Nat} {T:List Int} (hr:RuleOk K Q T) (hl:T.length≤256):(NotOne K Q T→invE K Q T=fresh sInverse 0 9)∧(¬ NotOne K Q T→findP K Q T=none→invE K Q T=fresh sInverse 0 4)∧(¬ NotOne K Q T→findP K Q T≠none→invE K Q T=none):=by
 have hsm:smallP K Q T=none:=by rw [smallP_ok hr,if_neg (by omega)]
 refine ⟨fun h=>?_,fun h hf=>?_,fun h hf=>?_⟩
 ·unfold invE; rw [hsm]; simp only [Int.toNat_natCast]; rw [if_pos h]
 ·unfold invE; rw [hsm]; simp only [Int.toNat_natCast]; rw [if_neg h,hf]
 ·unfold invE; rw [hsm]; simp only [Int.toNat_natCast]; rw [if_neg h]
  cases hq:findP K Q T with
  | none=>exact absurd hq hf
  | some _=>rfl
theorem find_any (r:Nat→Addr) (k R:Int) (va:Option Addr) (vn vc:Nat) (T:List Int) (w:World) (hg:Glob r w) (h:IntsAt w (.slice va vn vc) T) :
 Calls Tryz.prog 120 #[.agg #[.int .i64 k,.int .i64 R,.slice va vn vc]] w (Ret2 (fun x y w'=>ErrIs r w' (invE k R T) y∧InvIs w.heap.size w' k R T x) w):=by
 cases hc:smallP k R T with
 | some t =>
  have e:=invE_bad hc
  refine (find_bad r k R va vn vc T t w hg h hc).mono ?_
  rintro e1 w' ⟨x,y,he,hb,hx,hy⟩
  exact ⟨x,y,he,hb,by rw [e]; exact hy,fun q=>(by rw [e] at q; cases q),fun _=>hx⟩
 | none =>
  obtain ⟨K,Q,rfl,rfl,hr,hl⟩:=smallP_of hc
  obtain ⟨i1,i2,i3⟩:=invE_ok hr hl
  refine (find_ok r K Q va vn vc T w hg h hr hl).mono ?_
  rintro e1 w' ⟨x,y,he,hb,hp⟩
  refine ⟨x,y,he,hb,?_⟩
  rcases hp with ⟨h1,hx,hy⟩ | ⟨h1,h2,hx,hy⟩ | ⟨h1,d,S,a,n,c,hf,hy,hx,ho⟩
  ·rw [i1 h1]; exact ⟨hy,fun q=>(by rw [i1 h1] at q; cases q),fun _=>hx⟩
  ·rw [i2 h1 h2]; exact ⟨hy,fun q=>(by rw [i2 h1 h2] at q; cases q),fun _=>hx⟩
  ·have e:=i3 h1 (by rw [hf]; simp)
   rw [e]
   exact ⟨hy,fun _=>⟨d,S,a,n,c,by rw [Int.toNat_natCast,Int.toNat_natCast]; exact hf,hx,ho⟩,fun q=>absurd e q⟩
theorem InvIs.shape {B:Nat} {w:World} {k R:Int} {T:List Int} {x:Value} (h:InvIs B w k R T x):∃ k' q a n c,x=.agg #[.int .i64 k',.int .i64 q,.slice a n c]:=by
 by_cases e:invE k R T=none
 ·obtain ⟨d,S,a,n,c,_,hx,_⟩:=h.1 e
  exact ⟨_,_,_,_,_,hx⟩
 ·exact ⟨0,0,none,0,0,h.2 e⟩
theorem InvIs.set3 {B b:Nat} {w:World} {k R:Int} {T:List Int} {x:Value} (h:InvIs B w k R T x) (hb:b<B) (x0 x1 x2:Value):InvIs B (((w.setCell ⟨b,0,none⟩ x0).setCell ⟨b,1,none⟩ x1).setCell ⟨b,2,none⟩ x2) k R T x :=
 ⟨fun e=>by
   obtain ⟨d,S,a,n,c,hf,hx,ho⟩:=h.1 e
   exact ⟨d,S,a,n,c,hf,hx,ho.set3 hb _ _ _⟩,h.2⟩
theorem InvIs.mono {B B':Nat} {w:World} {k R:Int} {T:List Int} {x:Value} (h:InvIs B w k R T x) (hb:B'≤B):InvIs B' w k R T x :=
 ⟨fun e=>by
   obtain ⟨d,S,a,n,c,hf,hx,ho⟩:=h.1 e
   exact ⟨d,S,a,n,c,hf,hx,ho.mono hb⟩,h.2⟩
theorem ErrIs.open2 {r:Nat→Addr} {w:World} {t:PErr} {v:Value} (h:ErrIs r w t v):v=.nilIface∨∃ T a,v=.iface T (.pointer (some a)):=by
 cases t with
 | none=>exact .inl h.none_eq
 | some t=>exact .inr h.some_shape
noncomputable def radN (k R:Int) (T:List Int):Int:=match invE k R T with
 | some _=>0
 | none=>match findP k.toNat R.toNat T with
  | some (d,_)=>d
  | none=>0
theorem inv_radius (r:Nat→Addr) (k R:Int) (va:Option Addr) (vn vc:Nat) (T:List Int) (w:World) (hg:Glob r w) (h:IntsAt w (.slice va vn vc) T) :
 Calls Tryz.prog 68 #[.agg #[.int .i64 k,.int .i64 R,.slice va vn vc]] w (Ret2 (fun x y w'=>ErrIs r w' (invE k R T) y∧x=.int .i64 (radN k R T)) w):=by
 have b0:=belowAlloc w (.cells #[.int .i64 k,.int .i64 R,.slice va vn vc] 24)
 replace hg:=Hd (hg.below b0)
 replace h:=Hd (h.below b0)
 go_enter Tryz.func68,Tryz.ntmps68
 go_wp2_with fail
 refine (find_any r k R va vn vc T _ hg.out h.out).mono ?_
 rintro e w1 ⟨x,y,rfl,b1,hy,hx⟩
 have hn:∃ k' a n c,x=.agg #[.int .i64 k',.int .i64 (radN k R T),.slice a n c]:=by
  unfold radN
  cases he:invE k R T with
  | none =>
   obtain ⟨d,S,a,n,c,hf,hxx,_⟩:=hx.1 he
   rw [hf]
   exact ⟨_,_,_,_,hxx⟩
  | some t=>exact ⟨0,none,0,0,hx.2 (by rw [he]; simp)⟩
 obtain ⟨k',a,n,c,rfl⟩:=hn
 obtain ⟨N,hN⟩:∃ N,radN k R T=N:=⟨_,rfl⟩
 rw [hN]
 have b2:=belowAlloc w1 (.cells #[.int .i64 k',.int .i64 N,.slice a n c] 24)
 have bE:=Below.step b0 (Below.step b1 b2)
 have hy2:=hy.below b2
 have q:Box3 (w1.alloc (.cells #[.int .i64 k',.int .i64 N,.slice a n c] 24)) w1.heap.size (.int .i64 k') (.int .i64 N) (.slice a n c):=by simp [Box3,go_sem]
 obtain ⟨⟨z0,z1,z2⟩,-,-,-⟩:=q
 replace hx:=Hd hx
 replace hN:=Hd hN
 replace hy:=Hd hy
 replace hy2:=Hd hy2
 rcases hy.out.open2 with rfl | ⟨T3,a3,rfl⟩
 ·go_wp2
  go_ret2
  exact ⟨_,_,rfl,bE,hy2.out,by rw [hN.out]; rfl⟩
 ·go_wp2
  go_ret2
  exact ⟨_,_,rfl,bE,hy2.out,by rw [hN.out]; rfl⟩
theorem OntoPost.parts {r:Nat→Addr} {B:Nat} {s:SubR} {x y z:Value} {w:World} (h:OntoPost r B s x y z w):(∃ a n c,y=.slice a n c∧OwnI B w (.slice a n c) (orphL s)):=by
 cases s with
 | on _ _=>obtain ⟨rfl,rfl,rfl⟩:=h; exact ⟨_,_,_,rfl,OwnI.nil _ _⟩
 | orphan wd=>obtain ⟨rfl,rfl,ho⟩:=h; obtain ⟨a,n,c,rfl⟩:=ho.at.shape; exact ⟨_,_,_,rfl,ho⟩
 | big=>obtain ⟨rfl,rfl,he⟩:=h; exact ⟨_,_,_,rfl,OwnI.nil _ _⟩
theorem idx5_0 (w:World):(Instr.index 116 (.agg #[.nilIface,.nilIface,.nilIface,.nilIface,.nilIface]) (.int .i64 0)).run Tryz.prog w=.ok .nilIface w:=by kernel_rfl
theorem idx5_1 (w:World):(Instr.index 116 (.agg #[.nilIface,.nilIface,.nilIface,.nilIface,.nilIface]) (.int .i64 1)).run Tryz.prog w=.ok .nilIface w:=by kernel_rfl
theorem idx5_2 (w:World):(Instr.index 116 (.agg #[.nilIface,.nilIface,.nilIface,.nilIface,.nilIface]) (.int .i64 2)).run Tryz.prog w=.ok .nilIface w:=by kernel_rfl
theorem idx5_3 (w:World):(Instr.index 116 (.agg #[.nilIface,.nilIface,.nilIface,.nilIface,.nilIface]) (.int .i64 3)).run Tryz.prog w=.ok .nilIface w:=by kernel_rfl
theorem idx5_4 (w:World):(Instr.index 116 (.agg #[.nilIface,.nilIface,.nilIface,.nilIface,.nilIface]) (.int .i64 4)).run Tryz.prog w=.ok .nilIface w:=by kernel_rfl
noncomputable def radL (K R:Nat) (T:List Int):Int:=if invE K R T=none then radN K R T else -1
def facR (K R:Nat) (T:List Int):List Int:=if isSum K R T=true then facs K R T else []
def RepIs (B:Nat) (w:World) (K R:Nat) (T:List Int) (v:Value):Prop :=
 ∃ (Y F:Bool) (oa:Option Addr) (on oc:Nat) (fa:Option Addr) (fn fc:Nat),(Y=true↔¬ NotOne K R T)∧(F=true↔∀ x y,¬ IsTwins K R T x y) ∧
  v=.agg #[.int .i64 (ontoN (subR K (pw K (2*R)) T)),.slice oa on oc,.bool Y,.bool F,.int .i64 (radL K R T),.bool (isSum K R T),.slice fa fn fc,.bool (unlikeP K T (T.length/K)),.bool (unlikeP K T 1)] ∧
  OwnI B w (.slice oa on oc) (orphL (subR K (pw K (2*R)) T))∧OwnI B w (.slice fa fn fc) (facR K R T)∧((Value.slice oa on oc).ownBlock=none∨(Value.slice oa on oc).ownBlock≠(Value.slice fa fn fc).ownBlock)
theorem look_ok (r:Nat→Addr) (K R:Nat) (va:Option Addr) (vn vc:Nat) (T:List Int) (w:World) (hg:Glob r w) (hG:GlobE w) (h:IntsAt w (.slice va vn vc) T) (hr:RuleOk K R T) (hl:T.length≤256) :
 Calls Tryz.prog 25 #[.agg #[.int .i64 K,.int .i64 R,.slice va vn vc]] w (Ret2 (fun x y w'=>y=.nilIface∧RepIs w.heap.size w' K R T x) w):=by
 have b0:=belowAlloc w (.cells #[.int .i64 K,.int .i64 R,.slice va vn vc] 24)
 have q:Box3 (w.alloc (.cells #[.int .i64 K,.int .i64 R,.slice va vn vc] 24)) w.heap.size (.int .i64 K) (.int .i64 R) (.slice va vn vc):=by simp [Box3,go_sem]
 obtain ⟨f0,hR0,n45,-⟩:=(Rows.void w.heap.size w).mkN (45,0) (Nat.le_refl _) 24 3 #[.int .i64 K,.int .i64 R,.slice va vn vc] rfl
 obtain ⟨f1,hR1,n42,o1⟩:=hR0.mkN (42,0) (by simp) 62 9 #[.int .i64 0,.slice none 0 0,.bool false,.bool false,.int .i64 0,.bool false,.slice none 0 0,.bool false,.bool false] rfl
 replace n45:=(o1 _ (by decide)).trans n45
 have b1:=belowAlloc (w.alloc (.cells #[.int .i64 K,.int .i64 R,.slice va vn vc] 24)) (.cells #[.int .i64 0,.slice none 0 0,.bool false,.bool false,.int .i64 0,.bool false,.slice none 0 0,.bool false,.bool false] 62)
 have hsz:(w.alloc (.cells #[.int .i64 K,.int .i64 R,.slice va vn vc] 24)).heap.size=w.heap.size+1:=by simp
 rw [hsz] at n42
 replace q:=q.below b1
 have b01:=Below.step b0 b1
 obtain ⟨w1,hw1⟩:∃ W:World,(w.alloc (.cells #[.int .i64 K,.int .i64 R,.slice va vn vc] 24)).alloc (.cells #[.int .i64 0,.slice none 0 0,.bool false,.bool false,.int .i64 0,.bool false,.slice none 0 0,.bool false,.bool false] 62)=W:=⟨_,rfl⟩
 have hs1:((w.alloc (.cells #[.int .i64 K,.int .i64 R,.slice va vn vc] 24)).alloc (.cells #[.int .i64 0,.slice none 0 0,.bool false,.bool false,.int .i64 0,.bool false,.slice none 0 0,.bool false,.bool false] 62)).heap.size=w.heap.size+2:=by simp
 rw [hw1] at q b01 hR1 hs1
 have hsm:=smallP_small hr hl
 have hg1:=Hd (hg.below b01)
 have hG1:=Hd (hG.below b01)
 have hT1:=Hd (h.below b01)
 obtain ⟨S,hS⟩:∃ S,subR K (pw K (2*R)) T=S:=⟨_,rfl⟩
 obtain ⟨i1,i2,i3⟩:=invE_ok hr hl
 obtain ⟨L,hL⟩:∃ L,unlikeP K T (T.length/K)=L:=⟨_,rfl⟩
 obtain ⟨P,hP⟩:∃ P,unlikeP K T 1=P:=⟨_,rfl⟩
 have hsum:(isSum K R T=true→facR K R T=facs K R T)∧(isSum K R T=false→facR K R T=[]):=⟨fun e=>by unfold facR; rw [if_pos e],fun e=>by unfold facR; rw [e]; rfl⟩
 have hrad:(invE K R T=none→radL K R T=radN K R T)∧(invE K R T≠none→radL K R T=-1):=⟨fun e=>by unfold radL; rw [if_pos e],fun e=>by unfold radL; rw [if_neg e]⟩
 have hB:w.heap.size≤w1.heap.size:=b01.size
 replace hg:=Hd hg
 replace hG:=Hd hG
 replace h:=Hd h
 replace hr:=Hd hr
 replace hsm:=Hd hsm
 replace hS:=Hd hS
 replace i1:=Hd i1
 replace i2:=Hd i2
 replace i3:=Hd i3
 replace hL:=Hd hL
 replace hP:=Hd hP
 replace hsum:=Hd hsum
 replace hrad:=Hd hrad
 replace hR1:=Hd hR1
 replace n42:=Hd n42
 replace n45:=Hd n45
 replace hw1:=Hd hw1
 replace hsz:=Hd hsz
 clear b0 b1 o1 hR0
 obtain ⟨⟨z0,z1,z2⟩,-,-,-⟩:=id q
 go_enter Tryz.func25,Tryz.ntmps25
 go_upto_region 1 with fail
 rw [hw1.out]
 go_wp2_with fail
 refine (small_any r K R va vn vc T w1 hg1.out hT1.out).mono ?_
 rintro e w2 ⟨x,rfl,b2,he⟩
 rw [hsm.out] at he
 obtain rfl:=he.none_eq
 clear he z0 z1 z2
 have b12:=Below.step b01 b2
 -- the boxes of the report and of the errors
 obtain ⟨f3,hR3,n40,o3⟩:=(hR1.out.below b2).mkN (40,0) b12.size 62 9 #[.int .i64 0,.slice none 0 0,.bool false,.bool false,.int .i64 0,.bool false,.slice none 0 0,.bool false,.bool false] rfl
 have b3:=belowAlloc w2 (.cells #[.int .i64 0,.slice none 0 0,.bool false,.bool false,.int .i64 0,.bool false,.slice none 0 0,.bool false,.bool false] 62)
 have b13:=Below.step b12 b3
 obtain ⟨f4,hR4,n41,o4⟩:=hR3.mkN (41,0) b13.size 116 5 #[.nilIface,.nilIface,.nilIface,.nilIface,.nilIface] rfl
 have b4:=belowAlloc (w2.alloc (.cells #[.int .i64 0,.slice none 0 0,.bool false,.bool false,.int .i64 0,.bool false,.slice none 0 0,.bool false,.bool false] 62)) (.cells #[.nilIface,.nilIface,.nilIface,.nilIface,.nilIface] 116)
 have hsz3:(w2.alloc (.cells #[.int .i64 0,.slice none 0 0,.bool false,.bool false,.int .i64 0,.bool false,.slice none 0 0,.bool false,.bool false] 62)).heap.size=w2.heap.size+1:=by simp
 rw [hsz3] at n41
 have b24:=Below.step b3 b4
 have b14:=Below.step b12 b24
 obtain ⟨w4,hw4⟩:∃ W:World,(w2.alloc (.cells #[.int .i64 0,.slice none 0 0,.bool false,.bool false,.int .i64 0,.bool false,.slice none 0 0,.bool false,.bool false] 62)).alloc (.cells #[.nilIface,.nilIface,.nilIface,.nilIface,.nilIface] 116)=W:=⟨_,rfl⟩
 rw [hw4] at hR4 b14 b24
 have A4:LkAt w.heap.size w4 w.heap.size w2.heap.size (w2.heap.size+1) (w.heap.size+1) [.int .i64 K,.int .i64 R,.slice va vn vc] [.int .i64 0,.slice none 0 0,.bool false,.bool false,.int .i64 0,.bool false,.slice none 0 0,.bool false,.bool false] [.nilIface,.nilIface,.nilIface,.nilIface,.nilIface] [.int .i64 0,.slice none 0 0,.bool false,.bool false,.int .i64 0,.bool false,.slice none 0 0,.bool false,.bool false] (.slice none 0 0) (.slice none 0 0) [] []:=by
  obtain ⟨f5,hR5,n43,o5⟩:=hR4.addE (43,0) (r':=rowI (.slice none 0 0) []) (Below.refl _ _) (OwnI.nil _ _) (fun k hk=>by cases hk)
  obtain ⟨f6,hR6,n44,o6⟩:=hR5.addE (44,0) (r':=rowI (.slice none 0 0) []) (Below.refl _ _) (OwnI.nil _ _) (fun k hk=>by cases hk)
  exact ⟨f6,hR6,(o6 _ (by decide)).trans ((o5 _ (by decide)).trans ((o4 _ (by decide)).trans n40)),(o6 _ (by decide)).trans ((o5 _ (by decide)).trans n41),(o6 _ (by decide)).trans ((o5 _ (by decide)).trans ((o4 _ (by decide)).trans ((o3 _ (by decide)).trans n42.out))),(o6 _ (by decide)).trans n43,n44,(o6 _ (by decide)).trans ((o5 _ (by decide)).trans ((o4 _ (by decide)).trans ((o3 _ (by decide)).trans n45.out)))⟩
 obtain ⟨x,hx⟩:∃ x,w2.heap.size=x:=⟨_,rfl⟩
 obtain ⟨ee,hee⟩:∃ x,w2.heap.size+1=x:=⟨_,rfl⟩
 obtain ⟨o,ho⟩:∃ x,w.heap.size+1=x:=⟨_,rfl⟩
 rw [hee,hx,ho] at A4
 have hs2:=b2.size
 have hxe:¬ (x=ee):=by omega
 have hex:¬ (ee=x):=by omega
 have hxo:¬ (x=o):=by omega
 have hox:¬ (o=x):=by omega
 have heo:¬ (ee=o):=by omega
 have hoe:¬ (o=ee):=by omega
 clear hs1 hs2
 clear hR3 hR4 n40 n41 o3 o4 b3 b4 b13 hsz3 f3 f4
 replace A4:=Hd A4
 replace hw4:=Hd hw4
 replace hx:=Hd hx
 replace hee:=Hd hee
 replace ho:=Hd ho
 clear hR1 n42 n45 hsz hw1 q
 go_upto_region 7 with fail
 rw [hw4.out,hee.out,hx.out,ho.out]
 clear hw4
 have z0:=A4.out.cr 0 (by decide)
 have z1:=A4.out.cr 1 (by decide)
 have z2:=A4.out.cr 2 (by decide)
 have lowx:=A4.out.low
 go_wp2_with fail
 refine (sub_onto r K R va vn vc T w4 (hg.out.below b14) (hG.out.below b14) (h.out.below b14) hr.out hl).mono ?_
 rintro e w5 ⟨xv,_,zv,rfl,b5,hon⟩
 clear z0 z1 z2
 rw [hS.out] at hon
 obtain ⟨oa,on,oc,rfl,hor⟩:=hon.parts
 obtain ⟨xb,rfl⟩:∃ b,xv=.bool b:=by
  cases S with
  | on _ _=>exact ⟨_,hon.1⟩
  | orphan _=>exact ⟨_,hon.1⟩
  | big=>exact ⟨_,hon.1⟩
 have hcz:(zv=.nilIface∧(xb=true→ontoN S=1)∧(xb=false→ontoN S=2))∨∃ p,zv=.iface 75 (.pointer (some p))∧ErrIs r w5 (fresh sSubset 0 4) zv∧ontoN S=3:=by
  cases S with
  | on _ _=>obtain ⟨h1,-,h3⟩:=hon; injection h1 with h1; exact .inl ⟨h3,fun _=>rfl,fun q=>by rw [h1] at q; cases q⟩
  | orphan _=>obtain ⟨h1,h3,-⟩:=hon; injection h1 with h1; exact .inl ⟨h3,(fun q=>by rw [h1] at q; cases q),fun _=>rfl⟩
  | big =>
   obtain ⟨-,-,h3⟩:=hon
   have h4:=h3
   obtain ⟨p,u,rfl,-⟩:=h4
   exact .inr ⟨_,rfl,h3,rfl⟩
 clear hon
 have A5:=A4.out.orphan b5 b14.size hor
 have c5:=Below.step b14 b5
 replace hor:=Hd hor
 rcases hcz with ⟨rfl,k1,k2⟩ | ⟨zp,rfl,hze,k3⟩
 case' inl =>
  have g1:=A5.cx 1 (by decide)
  have h1:=A5.fx 1
  have S1:=A5.sx 1 (.slice oa on oc)
  have d1:=c5.setCell (p:=⟨x,1,none⟩) lowx.1 (.slice oa on oc)
  have g2:=S1.ce 0 (by decide)
  have h2:=S1.fe 0
  have S2:=S1.se 0 (.nilIface)
  have d2:=d1.setCell (p:=⟨ee,0,none⟩) lowx.2.1 (.nilIface)
  replace k1:=Hd k1
  replace k2:=Hd k2
  go_upto_block 0 with fail
  clear g1 h1 g2 h2
  go_cut [] from 27 (fun wx=>Below w.heap.size w wx∧LkAt w.heap.size wx w.heap.size x ee o [.int .i64 K,.int .i64 R,.slice va vn vc] [.int .i64 (ontoN S),.slice oa on oc,.bool false,.bool false,.int .i64 0,.bool false,.slice none 0 0,.bool false,.bool false] [.nilIface,.nilIface,.nilIface,.nilIface,.nilIface] [.int .i64 0,.slice none 0 0,.bool false,.bool false,.int .i64 0,.bool false,.slice none 0 0,.bool false,.bool false] (.slice oa on oc) (.slice none 0 0) (orphL S) [])
  case first =>
   have tb:=(hg.out.below d2).c4
   have e1:=S2.ce 0 (by decide)
   go_wp2_with fail
   refine (Errs.is_nil _ _ _).mono ?_
   rintro e w6 ⟨rfl,rfl⟩
   clear e1
   cases xb with
   | true =>
    have g3:=S2.cx 0 (by decide)
    have h3:=S2.fx 0
    have S3:=S2.sx 0 (.int .i64 1)
    have d3:=d2.setCell (p:=⟨x,0,none⟩) lowx.1 (.int .i64 1)
    have RK:=S3
    have Rb:=d3
    have hfin:Below w.heap.size w (((w5.setCell ⟨x,1,none⟩ (.slice oa on oc)).setCell ⟨ee,0,none⟩ .nilIface).setCell ⟨x,0,none⟩ (.int .i64 1))∧LkAt w.heap.size (((w5.setCell ⟨x,1,none⟩ (.slice oa on oc)).setCell ⟨ee,0,none⟩ .nilIface).setCell ⟨x,0,none⟩ (.int .i64 1)) w.heap.size x ee o [.int .i64 K,.int .i64 R,.slice va vn vc] [.int .i64 (ontoN S),.slice oa on oc,.bool false,.bool false,.int .i64 0,.bool false,.slice none 0 0,.bool false,.bool false] [.nilIface,.nilIface,.nilIface,.nilIface,.nilIface] [.int .i64 0,.slice none 0 0,.bool false,.bool false,.int .i64 0,.bool false,.slice none 0 0,.bool false,.bool false] (.slice oa on oc) (.slice none 0 0) (orphL S) []:=by rw [k1.out rfl]; exact ⟨Rb,RK⟩
    clear RK Rb k1 k2
    replace hfin:=Hd hfin
    go_wp2
    go_meet
    case rel=>exact hfin.out
   | false =>
    have g3:=S2.cx 0 (by decide)
    have h3:=S2.fx 0
    have S3:=S2.sx 0 (.int .i64 2)
    have d3:=d2.setCell (p:=⟨x,0,none⟩) lowx.1 (.int .i64 2)
    have RK:=S3
    have Rb:=d3
    have hfin:Below w.heap.size w (((w5.setCell ⟨x,1,none⟩ (.slice oa on oc)).setCell ⟨ee,0,none⟩ .nilIface).setCell ⟨x,0,none⟩ (.int .i64 2))∧LkAt w.heap.size (((w5.setCell ⟨x,1,none⟩ (.slice oa on oc)).setCell ⟨ee,0,none⟩ .nilIface).setCell ⟨x,0,none⟩ (.int .i64 2)) w.heap.size x ee o [.int .i64 K,.int .i64 R,.slice va vn vc] [.int .i64 (ontoN S),.slice oa on oc,.bool false,.bool false,.int .i64 0,.bool false,.slice none 0 0,.bool false,.bool false] [.nilIface,.nilIface,.nilIface,.nilIface,.nilIface] [.int .i64 0,.slice none 0 0,.bool false,.bool false,.int .i64 0,.bool false,.slice none 0 0,.bool false,.bool false] (.slice oa on oc) (.slice none 0 0) (orphL S) []:=by rw [k2.out rfl]; exact ⟨Rb,RK⟩
    clear RK Rb k1 k2
    replace hfin:=Hd hfin
    go_wp2
    go_meet
    case rel=>exact hfin.out
 case' inr =>
  have g1:=A5.cx 1 (by decide)
  have h1:=A5.fx 1
  have S1:=A5.sx 1 (.slice oa on oc)
  have d1:=c5.setCell (p:=⟨x,1,none⟩) lowx.1 (.slice oa on oc)
  have g2:=S1.ce 0 (by decide)
  have h2:=S1.fe 0
  have S2:=S1.se 0 ((.iface 75 (.pointer (some zp))))
  have d2:=d1.setCell (p:=⟨ee,0,none⟩) lowx.2.1 ((.iface 75 (.pointer (some zp))))
  replace k3:=Hd k3
  go_upto_block 0 with fail
  clear g1 h1 g2 h2
  go_cut [] from 27 (fun wx=>Below w.heap.size w wx∧LkAt w.heap.size wx w.heap.size x ee o [.int .i64 K,.int .i64 R,.slice va vn vc] [.int .i64 (ontoN S),.slice oa on oc,.bool false,.bool false,.int .i64 0,.bool false,.slice none 0 0,.bool false,.bool false] [.nilIface,.nilIface,.nilIface,.nilIface,.nilIface] [.int .i64 0,.slice none 0 0,.bool false,.bool false,.int .i64 0,.bool false,.slice none 0 0,.bool false,.bool false] (.slice oa on oc) (.slice none 0 0) (orphL S) [])
  case first =>
   have tb:=(hg.out.below d2).c4
   have his:=Errs.is_any r 4 _ _ _ ((hze.set (b:=x) (i:=1) (fun s q=>by rw [A5.cx 0 (by decide)] at q; cases q) (.slice oa on oc)).set (b:=ee) (i:=0) (fun s q=>by rw [S1.ce 0 (by decide)] at q; cases q) (.iface 75 (.pointer (some zp))))
   have e1:=S2.ce 0 (by decide)
   replace hze:=Hd hze
   go_wp2_with fail
   refine his.mono ?_
   rintro e w6 ⟨rfl,rfl⟩
   clear his
   clear e1
   have g3:=S2.cx 0 (by decide)
   have h3:=S2.fx 0
   have S3:=S2.sx 0 (.int .i64 3)
   have d3:=d2.setCell (p:=⟨x,0,none⟩) lowx.1 (.int .i64 3)
   have g4:=S3.ce 0 (by decide)
   have h4:=S3.fe 0
   have S4:=S3.se 0 (.nilIface)
   have d4:=d3.setCell (p:=⟨ee,0,none⟩) lowx.2.1 (.nilIface)
   have RK:=S4
   have Rb:=d4
   have hfin:Below w.heap.size w ((((w5.setCell ⟨x,1,none⟩ (.slice oa on oc)).setCell ⟨ee,0,none⟩ (.iface 75 (.pointer (some zp)))).setCell ⟨x,0,none⟩ (.int .i64 3)).setCell ⟨ee,0,none⟩ .nilIface)∧LkAt w.heap.size ((((w5.setCell ⟨x,1,none⟩ (.slice oa on oc)).setCell ⟨ee,0,none⟩ (.iface 75 (.pointer (some zp)))).setCell ⟨x,0,none⟩ (.int .i64 3)).setCell ⟨ee,0,none⟩ .nilIface) w.heap.size x ee o [.int .i64 K,.int .i64 R,.slice va vn vc] [.int .i64 (ontoN S),.slice oa on oc,.bool false,.bool false,.int .i64 0,.bool false,.slice none 0 0,.bool false,.bool false] [.nilIface,.nilIface,.nilIface,.nilIface,.nilIface] [.int .i64 0,.slice none 0 0,.bool false,.bool false,.int .i64 0,.bool false,.slice none 0 0,.bool false,.bool false] (.slice oa on oc) (.slice none 0 0) (orphL S) []:=by rw [k3.out]; exact ⟨Rb,RK⟩
   clear RK Rb k3
   replace hfin:=Hd hfin
   go_wp2
   go_meet
   case rel=>exact hfin.out
 all_goals
  obtain ⟨bc,AC⟩:=hcut
  clear S1 S2 d1 d2 A5 c5 b14 A4 lowx
  have lowx:=AC.low
  have hBx:=bc.size
  have z0:=AC.cr 0 (by decide)
  have z1:=AC.cr 1 (by decide)
  have z2:=AC.cr 2 (by decide)
  go_wp2_with fail
  refine (one_ok r K R va vn vc T _ (hg.out.below bc) (h.out.below bc) hr.out hl).mono ?_
  rintro e w7 ⟨_,_,_,_,rfl,b7,hp⟩
  clear z0 z1 z2
  obtain ⟨rfl,Y,rfl,hY,e1,f1,g1,e2,f2,g2,e3,f3,g3,e4,f4,g4,e5,f5,g5,e6,f6,g6,rfl,rfl⟩:=hp.ans
  clear hp
  replace hY:=Hd hY
  have A7:=AC.below b7
  have c7:=Below.step bc b7
  have g11:=A7.cx 2 (by decide)
  have h11:=A7.fx 2
  have S11:=A7.sx 2 (.bool Y)
  have d11:=c7.setCell (p:=⟨x,2,none⟩) lowx.1 (.bool Y)
  have g12:=S11.ce 1 (by decide)
  have h12:=S11.fe 1
  have S12:=S11.se 1 (.nilIface)
  have d12:=d11.setCell (p:=⟨ee,1,none⟩) lowx.2.1 (.nilIface)
  have z0:=S12.cr 0 (by decide)
  have z1:=S12.cr 1 (by decide)
  have z2:=S12.cr 2 (by decide)
  go_wp2_with fail
  refine (finite_ok r K R va vn vc T _ (hg.out.below d12) (h.out.below d12) hr.out hl).mono ?_
  rintro e w8 ⟨fy,fa9,fb9,_,rfl,b8,hf⟩
  clear g11 h11 g12 h12 z0 z1 z2
  obtain ⟨F,rfl,hF⟩:∃ F:Bool,fy=.bool F∧(F=true↔∀ x y,¬ IsTwins K R T x y):=by
   obtain ⟨-,⟨rfl,-,-,hn⟩ | ⟨rfl,x1,y1,-,ht,-⟩⟩:=hf
   ·exact ⟨true,rfl,⟨fun _=>hn,fun _=>rfl⟩⟩
   ·exact ⟨false,rfl,⟨fun q=>(by cases q),fun q=>absurd ht (q x1 y1)⟩⟩
  obtain ⟨⟨qa1,qa2,qa3,rfl⟩,qb1,qb2,qb3,rfl⟩:(∃ a n c,fa9=.slice a n c)∧∃ a n c,fb9=.slice a n c:=by
   obtain ⟨-,⟨-,rfl,rfl,-⟩ | ⟨-,x1,y1,-,-,-,-,o1,o2,-⟩⟩:=hf
   ·exact ⟨⟨_,_,_,rfl⟩,_,_,_,rfl⟩
   ·exact ⟨o1.at.shape,o2.at.shape⟩
  obtain rfl:=hf.1
  clear hf
  replace hF:=Hd hF
  have A8:=S12.below b8
  have c8:=Below.step d12 b8
  have g13:=A8.cx 3 (by decide)
  have h13:=A8.fx 3
  have S13:=A8.sx 3 (.bool F)
  have d13:=c8.setCell (p:=⟨x,3,none⟩) lowx.1 (.bool F)
  have g14:=S13.ce 2 (by decide)
  have h14:=S13.fe 2
  have S14:=S13.se 2 (.nilIface)
  have d14:=d13.setCell (p:=⟨ee,2,none⟩) lowx.2.1 (.nilIface)
  have z0:=S14.cr 0 (by decide)
  have z1:=S14.cr 1 (by decide)
  have z2:=S14.cr 2 (by decide)
  go_wp2_with fail
  refine (inv_radius r K R va vn vc T _ (hg.out.below d14) (h.out.below d14)).mono ?_
  rintro e w9 ⟨_,ev,rfl,b9,hev,rfl⟩
  clear g13 h13 g14 h14 z0 z1 z2
  have A9:=S14.below b9
  have c9:=Below.step d14 b9
  obtain ⟨N,hN⟩:∃ N,radN K R T=N:=⟨_,rfl⟩
  rw [hN]
  replace hN:=Hd hN
  have hev2:=hev.open2
  go_upto_block 1 with fail
  go_cut [] from 61 (fun wx=>Below w.heap.size w wx∧LkAt w.heap.size wx w.heap.size x ee o [.int .i64 K,.int .i64 R,.slice va vn vc] [.int .i64 (ontoN S),.slice oa on oc,.bool Y,.bool F,.int .i64 (radL K R T),.bool false,.slice none 0 0,.bool false,.bool false] [.nilIface,.nilIface,.nilIface,.nilIface,.nilIface] [.int .i64 0,.slice none 0 0,.bool false,.bool false,.int .i64 0,.bool false,.slice none 0 0,.bool false,.bool false] (.slice oa on oc) (.slice none 0 0) (orphL S) [])
  case first =>
   by_cases hE:invE K R T=none
   ·rw [hE] at hev
    obtain rfl:=hev.none_eq
    have hrd:=hrad.out.1 hE
    rw [hN.out] at hrd
    clear hev2
    replace hE:=Hd hE
    replace hev:=Hd hev
    have g15:=A9.cx 4 (by decide)
    have h15:=A9.fx 4
    have S15:=A9.sx 4 (.int .i64 N)
    have d15:=c9.setCell (p:=⟨x,4,none⟩) lowx.1 (.int .i64 N)
    have RK:=S15
    have Rb:=d15
    have hfin:LkAt w.heap.size (w9.setCell ⟨x,4,none⟩ (.int .i64 N)) w.heap.size x ee o [.int .i64 K,.int .i64 R,.slice va vn vc] [.int .i64 (ontoN S),.slice oa on oc,.bool Y,.bool F,.int .i64 (radL K R T),.bool false,.slice none 0 0,.bool false,.bool false] [.nilIface,.nilIface,.nilIface,.nilIface,.nilIface] [.int .i64 0,.slice none 0 0,.bool false,.bool false,.int .i64 0,.bool false,.slice none 0 0,.bool false,.bool false] (.slice oa on oc) (.slice none 0 0) (orphL S) []:=by rw [hrd]; exact RK
    clear RK hrd
    replace hfin:=Hd hfin
    replace Rb:=Hd Rb
    go_wp2
    go_meet
    case rel=>exact ⟨Rb.out,hfin.out⟩
   ·have hrd:=hrad.out.2 hE
    have hcode:invE K R T=fresh sInverse 0 9∨invE K R T=fresh sInverse 0 4:=by
     by_cases hno:NotOne K R T
     ·exact .inl (i1.out hno)
     ·refine .inr (i2.out hno (Classical.byContradiction fun q=>hE (i3.out hno q)))
    have tb:=(hg.out.below c9).c4
    have tn:=(hg.out.below c9).c9
    have hgw:=hg.out.below c9
    clear hev2
    replace hE:=Hd hE
    replace hgw:=Hd hgw
    rcases hcode with hc | hc
    ·rw [hc] at hev
     have hev':=hev
     obtain ⟨zp,zu,rfl,-⟩:=hev'
     replace hc:=Hd hc
     replace hev:=Hd hev
     go_wp2_with fail
     refine (Errs.is_any r 9 _ _ _ hev.out).mono ?_
     rintro e w11 ⟨rfl,rfl⟩
     have g15:=A9.cx 4 (by decide)
     have h15:=A9.fx 4
     have S15:=A9.sx 4 (.int .i64 (-1))
     have d15:=c9.setCell (p:=⟨x,4,none⟩) lowx.1 (.int .i64 (-1))
     have RK:=S15
     have Rb:=d15
     have hfin:LkAt w.heap.size (w9.setCell ⟨x,4,none⟩ (.int .i64 (-1))) w.heap.size x ee o [.int .i64 K,.int .i64 R,.slice va vn vc] [.int .i64 (ontoN S),.slice oa on oc,.bool Y,.bool F,.int .i64 (radL K R T),.bool false,.slice none 0 0,.bool false,.bool false] [.nilIface,.nilIface,.nilIface,.nilIface,.nilIface] [.int .i64 0,.slice none 0 0,.bool false,.bool false,.int .i64 0,.bool false,.slice none 0 0,.bool false,.bool false] (.slice oa on oc) (.slice none 0 0) (orphL S) []:=by rw [hrd]; exact RK
     clear RK hrd
     replace hfin:=Hd hfin
     replace Rb:=Hd Rb
     go_wp2
     go_meet
     case rel=>exact ⟨Rb.out,hfin.out⟩
    ·rw [hc] at hev
     have hev':=hev
     obtain ⟨zp,zu,rfl,-⟩:=hev'
     replace hc:=Hd hc
     replace hev:=Hd hev
     go_wp2_with fail
     refine (Errs.is_no r 4 9 _ _ _ hgw.out hev.out (by decide) (by decide) (by decide)).mono ?_
     rintro e w11 ⟨rfl,rfl⟩
     go_wp2_with fail
     refine (Errs.is_any r 4 _ _ _ hev.out).mono ?_
     rintro e w11 ⟨rfl,rfl⟩
     have g15:=A9.cx 4 (by decide)
     have h15:=A9.fx 4
     have S15:=A9.sx 4 (.int .i64 (-1))
     have d15:=c9.setCell (p:=⟨x,4,none⟩) lowx.1 (.int .i64 (-1))
     have RK:=S15
     have Rb:=d15
     have hfin:LkAt w.heap.size (w9.setCell ⟨x,4,none⟩ (.int .i64 (-1))) w.heap.size x ee o [.int .i64 K,.int .i64 R,.slice va vn vc] [.int .i64 (ontoN S),.slice oa on oc,.bool Y,.bool F,.int .i64 (radL K R T),.bool false,.slice none 0 0,.bool false,.bool false] [.nilIface,.nilIface,.nilIface,.nilIface,.nilIface] [.int .i64 0,.slice none 0 0,.bool false,.bool false,.int .i64 0,.bool false,.slice none 0 0,.bool false,.bool false] (.slice oa on oc) (.slice none 0 0) (orphL S) []:=by rw [hrd]; exact RK
     clear RK hrd
     replace hfin:=Hd hfin
     replace Rb:=Hd Rb
     go_wp2
     go_meet
     case rel=>exact ⟨Rb.out,hfin.out⟩
  case rest =>
   obtain ⟨bd,AD⟩:=hcut
   clear hev hev2
   clear lowx
   have lowx:=AD.low
   have hBd:=bd.size
   have z0:=AD.cr 0 (by decide)
   have z1:=AD.cr 1 (by decide)
   have z2:=AD.cr 2 (by decide)
   go_wp2_with fail
   refine (of_ok K R _ T _ (h.out.below bd) hr.out).mono ?_
   rintro e w12 ⟨fv9,_,_,rfl,b12,rfl,rfl,hs1,hs0⟩
   clear z0 z1 z2
   obtain ⟨fa,fn,fc,rfl,hfo⟩:∃ a n c,fv9=.slice a n c∧OwnI wc.heap.size w12 (.slice a n c) (facR K R T):=by
    cases hi:isSum K R T with
    | true=>have ho:=hs1 hi; rw [← hsum.out.1 hi] at ho; obtain ⟨a,n,c,rfl⟩:=ho.at.shape; exact ⟨_,_,_,rfl,ho⟩
    | false=>rw [hs0 hi,hsum.out.2 hi]; exact ⟨_,_,_,rfl,OwnI.nil _ _⟩
   clear hs1 hs0
   have A12:=AD.facs b12 bd.size hfo
   have c12:=Below.step bd b12
   replace hfo:=Hd hfo
   have g21:=A12.cx 6 (by decide)
   have h21:=A12.fx 6
   have S21:=A12.sx 6 (.slice fa fn fc)
   have d21:=c12.setCell (p:=⟨x,6,none⟩) lowx.1 (.slice fa fn fc)
   have g22:=S21.cx 5 (by decide)
   have h22:=S21.fx 5
   have S22:=S21.sx 5 (.bool (isSum K R T))
   have d22:=d21.setCell (p:=⟨x,5,none⟩) lowx.1 (.bool (isSum K R T))
   have g23:=S22.ce 3 (by decide)
   have h23:=S22.fe 3
   have S23:=S22.se 3 (.nilIface)
   have d23:=d22.setCell (p:=⟨ee,3,none⟩) lowx.2.1 (.nilIface)
   have z0:=S23.cr 0 (by decide)
   have z1:=S23.cr 1 (by decide)
   have z2:=S23.cr 2 (by decide)
   go_wp2_with fail
   refine (sides_ok K R va vn vc T _ (h.out.below d23) hr.out).mono ?_
   rintro e w13 ⟨_,_,_,rfl,b13,rfl,rfl,rfl⟩
   clear g21 h21 g22 h22 g23 h23 z0 z1 z2
   rw [hL.out,hP.out]
   have A13:=S23.below b13
   have c13:=Below.step d23 b13
   have g24:=A13.cx 7 (by decide)
   have h24:=A13.fx 7
   have S24:=A13.sx 7 (.bool L)
   have d24:=c13.setCell (p:=⟨x,7,none⟩) lowx.1 (.bool L)
   have g25:=S24.cx 8 (by decide)
   have h25:=S24.fx 8
   have S25:=S24.sx 8 (.bool P)
   have d25:=d24.setCell (p:=⟨x,8,none⟩) lowx.1 (.bool P)
   have g26:=S25.ce 4 (by decide)
   have h26:=S25.fe 4
   have S26:=S25.se 4 (.nilIface)
   have d26:=d25.setCell (p:=⟨ee,4,none⟩) lowx.2.1 (.nilIface)
   have AE:=S26
   have bE:=d26
   obtain ⟨WE,hWE⟩:∃ W:World,(((w13.setCell ⟨x,7,none⟩ (.bool L)).setCell ⟨x,8,none⟩ (.bool P)).setCell ⟨ee,4,none⟩ .nilIface)=W:=⟨_,rfl⟩
   rw [hWE] at AE bE
   replace AE:=Hd AE
   replace bE:=Hd bE
   replace hWE:=Hd hWE
   go_upto_region 23 with fail
   rw [hWE.out]
   replace AE:=AE.out
   replace bE:=bE.out
   clear g24 h24 g25 h25 g26 h26
   clear hWE
   have ce0:=AE.ce 0 (by decide)
   have ce1:=AE.ce 1 (by decide)
   have ce2:=AE.ce 2 (by decide)
   have ce3:=AE.ce 3 (by decide)
   have ce4:=AE.ce 4 (by decide)
   have cx0:=AE.cx 0 (by decide)
   have co0:=AE.co 0 (by decide)
   have cf0:=AE.fo 0
   have cx1:=AE.cx 1 (by decide)
   have co1:=AE.co 1 (by decide)
   have cf1:=AE.fo 1
   have cx2:=AE.cx 2 (by decide)
   have co2:=AE.co 2 (by decide)
   have cf2:=AE.fo 2
   have cx3:=AE.cx 3 (by decide)
   have co3:=AE.co 3 (by decide)
   have cf3:=AE.fo 3
   have cx4:=AE.cx 4 (by decide)
   have co4:=AE.co 4 (by decide)
   have cf4:=AE.fo 4
   have cx5:=AE.cx 5 (by decide)
   have co5:=AE.co 5 (by decide)
   have cf5:=AE.fo 5
   have cx6:=AE.cx 6 (by decide)
   have co6:=AE.co 6 (by decide)
   have cf6:=AE.fo 6
   have cx7:=AE.cx 7 (by decide)
   have co7:=AE.co 7 (by decide)
   have cf7:=AE.fo 7
   have cx8:=AE.cx 8 (by decide)
   have co8:=AE.co 8 (by decide)
   have cf8:=AE.fo 8
   have AF:=(((((((((AE.so 0 (.int .i64 (ontoN S))).so 1 (.slice oa on oc)).so 2 (.bool Y)).so 3 (.bool F)).so 4 (.int .i64 (radL K R T))).so 5 (.bool (isSum K R T))).so 6 (.slice fa fn fc)).so 7 (.bool L)).so 8 (.bool P))
   have bF:=(((((((((bE.setCell (p:=⟨o,0,none⟩) lowx.2.2 (.int .i64 (ontoN S))).setCell (p:=⟨o,1,none⟩) lowx.2.2 (.slice oa on oc)).setCell (p:=⟨o,2,none⟩) lowx.2.2 (.bool Y)).setCell (p:=⟨o,3,none⟩) lowx.2.2 (.bool F)).setCell (p:=⟨o,4,none⟩) lowx.2.2 (.int .i64 (radL K R T))).setCell (p:=⟨o,5,none⟩) lowx.2.2 (.bool (isSum K R T))).setCell (p:=⟨o,6,none⟩) lowx.2.2 (.slice fa fn fc)).setCell (p:=⟨o,7,none⟩) lowx.2.2 (.bool L)).setCell (p:=⟨o,8,none⟩) lowx.2.2 (.bool P))
   obtain ⟨WF,hWF⟩:∃ W:World,(((((((((WE.setCell ⟨o,0,none⟩ (.int .i64 (ontoN S))).setCell ⟨o,1,none⟩ (.slice oa on oc)).setCell ⟨o,2,none⟩ (.bool Y)).setCell ⟨o,3,none⟩ (.bool F)).setCell ⟨o,4,none⟩ (.int .i64 (radL K R T))).setCell ⟨o,5,none⟩ (.bool (isSum K R T))).setCell ⟨o,6,none⟩ (.slice fa fn fc)).setCell ⟨o,7,none⟩ (.bool L)).setCell ⟨o,8,none⟩ (.bool P))=W:=⟨_,rfl⟩
   rw [hWF] at AF bF
   have cr0:=AF.co 0 (by decide)
   have cr1:=AF.co 1 (by decide)
   have cr2:=AF.co 2 (by decide)
   have cr3:=AF.co 3 (by decide)
   have cr4:=AF.co 4 (by decide)
   have cr5:=AF.co 5 (by decide)
   have cr6:=AF.co 6 (by decide)
   have cr7:=AF.co 7 (by decide)
   have cr8:=AF.co 8 (by decide)
   replace hWF:=Hd hWF
   replace cr0:=Hd cr0
   replace cr1:=Hd cr1
   replace cr2:=Hd cr2
   replace cr3:=Hd cr3
   replace cr4:=Hd cr4
   replace cr5:=Hd cr5
   replace cr6:=Hd cr6
   replace cr7:=Hd cr7
   replace cr8:=Hd cr8
   obtain ⟨l1,l2,l3⟩:=AF.lists
   have hrep:RepIs w.heap.size WF K R T (.agg #[.int .i64 (ontoN S),.slice oa on oc,.bool Y,.bool F,.int .i64 (radL K R T),.bool (isSum K R T),.slice fa fn fc,.bool L,.bool P]):=⟨Y,F,oa,on,oc,fa,fn,fc,hY.out,hF.out,by rw [hS.out,hL.out,hP.out],by rw [hS.out]; exact l1,l2,l3⟩
   clear AE AF l1 l2 l3 bE hg1 hG1 hT1 hB i1 i2 i3 hsum hrad hsm AC AD bc bd hN
   replace hrep:=Hd hrep
   replace bF:=Hd bF
   have ix0:=idx5_0
   have ix1:=idx5_1
   have ix2:=idx5_2
   have ix3:=idx5_3
   have ix4:=idx5_4
   go_wp2
   refine wp_loop_rounds 6 ?_
   iterate 6
    rw [rounds_succ]
    go_wp2
   rw [hWF.out]
   exact bodyPost_ret (v:=.tuple #[.agg #[.int .i64 (ontoN S),.slice oa on oc,.bool Y,.bool F,.int .i64 (radL K R T),.bool (isSum K R T),.slice fa fn fc,.bool L,.bool P],.nilIface]) (by simp [results,Tryz.results25,go_sem,cr0.out,cr1.out,cr2.out,cr3.out,cr4.out,cr5.out,cr6.out,cr7.out,cr8.out]) rfl ⟨_,_,rfl,bF.out,rfl,hrep.out⟩
end Go.Proofs.YtkaoebokbfcmhaaGreatDoor
namespace Go.Proofs.YtkaoebokbfcmhaaGreatDoor
open Go.RowKit
set_option maxRecDepth 100000
set_option maxHeartbeats 8000000
def sLab:ByteArray:=⟨#[108,97,98]⟩
abbrev zRep:Value:=.agg #[.int .i64 0,.slice none 0 0,.bool false,.bool false,.int .i64 0,.bool false,.slice none 0 0,.bool false,.bool false]
structure Cells9 (w:World) (g:Nat) (v0 v1 v2 v3 v4 v5 v6 v7 v8:Value):Prop where
 c0:w.cell? ⟨g,0,none⟩=some v0
 c1:w.cell? ⟨g,1,none⟩=some v1
 c2:w.cell? ⟨g,2,none⟩=some v2
 c3:w.cell? ⟨g,3,none⟩=some v3
 c4:w.cell? ⟨g,4,none⟩=some v4
 c5:w.cell? ⟨g,5,none⟩=some v5
 c6:w.cell? ⟨g,6,none⟩=some v6
 c7:w.cell? ⟨g,7,none⟩=some v7
 c8:w.cell? ⟨g,8,none⟩=some v8
theorem Cells9.below {w w':World} {g:Nat} {v0 v1 v2 v3 v4 v5 v6 v7 v8:Value} (h:Cells9 w g v0 v1 v2 v3 v4 v5 v6 v7 v8) (hb:Below w.heap.size w w'):Cells9 w' g v0 v1 v2 v3 v4 v5 v6 v7 v8 :=
 ⟨cell_keep hb h.c0,cell_keep hb h.c1,cell_keep hb h.c2,cell_keep hb h.c3,cell_keep hb h.c4,cell_keep hb h.c5,cell_keep hb h.c6,cell_keep hb h.c7,cell_keep hb h.c8⟩
theorem Cells9.alloc (w:World) (T:TypeId) (v0 v1 v2 v3 v4 v5 v6 v7 v8:Value):Cells9 (w.alloc (.cells #[v0,v1,v2,v3,v4,v5,v6,v7,v8] T)) w.heap.size v0 v1 v2 v3 v4 v5 v6 v7 v8:=by
 refine ⟨?_,?_,?_,?_,?_,?_,?_,?_,?_⟩<;>simp [go_sem]
theorem look_bad (r:Nat→Addr) (k R:Int) (va:Option Addr) (vn vc:Nat) (T:List Int) (t:Int×List (ByteArray×Int)) (w:World) (hg:Glob r w) (h:IntsAt w (.slice va vn vc) T) (hc:smallP k R T=some t) :
 Calls Tryz.prog 25 #[.agg #[.int .i64 k,.int .i64 R,.slice va vn vc]] w (Ret2 (fun x y w'=>x=zRep∧ErrIs r w' (under sLab 0 (some t)) y) w):=by
 have b0:=belowAlloc w (.cells #[.int .i64 k,.int .i64 R,.slice va vn vc] 24)
 have b1:=belowAlloc (w.alloc (.cells #[.int .i64 k,.int .i64 R,.slice va vn vc] 24)) (.cells #[.int .i64 0,.slice none 0 0,.bool false,.bool false,.int .i64 0,.bool false,.slice none 0 0,.bool false,.bool false] 62)
 have b01:=Below.step b0 b1
 have q:Box3 (w.alloc (.cells #[.int .i64 k,.int .i64 R,.slice va vn vc] 24)) w.heap.size (.int .i64 k) (.int .i64 R) (.slice va vn vc):=by simp [Box3,go_sem]
 replace q:=q.below b1
 obtain ⟨f1,hR1,n42,-⟩:=((Rows.void w.heap.size w).below b0).mkN (42,0) (by simp) 62 9 #[.int .i64 0,.slice none 0 0,.bool false,.bool false,.int .i64 0,.bool false,.slice none 0 0,.bool false,.bool false] rfl
 have hsz:(w.alloc (.cells #[.int .i64 k,.int .i64 R,.slice va vn vc] 24)).heap.size=w.heap.size+1:=by simp
 rw [hsz] at n42
 obtain ⟨w1,hw1⟩:∃ W:World,(w.alloc (.cells #[.int .i64 k,.int .i64 R,.slice va vn vc] 24)).alloc (.cells #[.int .i64 0,.slice none 0 0,.bool false,.bool false,.int .i64 0,.bool false,.slice none 0 0,.bool false,.bool false] 62)=W:=⟨_,rfl⟩
 rw [hw1] at q b01 hR1
 replace hg:=Hd (hg.below b01)
 replace h:=Hd (h.below b01)
 replace hc:=Hd hc
 replace hR1:=Hd hR1
 obtain ⟨o,ho⟩:∃ o,w.heap.size+1=o:=⟨_,rfl⟩
 rw [ho] at n42
 replace ho:=Hd ho
 replace n42:=Hd n42
 replace hw1:=Hd hw1
 clear b0 b1 hsz
 obtain ⟨⟨z0,z1,z2⟩,-,-,-⟩:=q
 go_enter Tryz.func25,Tryz.ntmps25
 go_upto_region 1 with fail
 rw [hw1.out,ho.out]
 go_wp2_with fail
 refine (small_any r k R va vn vc T w1 hg.out h.out).mono ?_
 rintro e w2 ⟨x,rfl,b2,he⟩
 rw [hc.out] at he
 obtain ⟨T2,p2,rfl⟩:=he.some_shape
 clear z0 z1 z2
 have b12:=Below.step b01 b2
 have hund:=under_any r sLab 0 (some t) _ w2 he
 replace he:=Hd he
 go_wp2_with fail
 refine hund.mono ?_
 rintro e w3 ⟨y,rfl,b3,hy⟩
 clear hund
 have b13:=Below.step b12 b3
 have R3:=(hR1.out.below b2).below b3
 have co0:=R3.cellN n42.out 0 (by decide)
 have cf0:=R3.frzN n42.out 0
 have co1:=R3.cellN n42.out 1 (by decide)
 have cf1:=R3.frzN n42.out 1
 have co2:=R3.cellN n42.out 2 (by decide)
 have cf2:=R3.frzN n42.out 2
 have co3:=R3.cellN n42.out 3 (by decide)
 have cf3:=R3.frzN n42.out 3
 have co4:=R3.cellN n42.out 4 (by decide)
 have cf4:=R3.frzN n42.out 4
 have co5:=R3.cellN n42.out 5 (by decide)
 have cf5:=R3.frzN n42.out 5
 have co6:=R3.cellN n42.out 6 (by decide)
 have cf6:=R3.frzN n42.out 6
 have co7:=R3.cellN n42.out 7 (by decide)
 have cf7:=R3.frzN n42.out 7
 have co8:=R3.cellN n42.out 8 (by decide)
 have cf8:=R3.frzN n42.out 8
 have lo:=(R3.lowN n42.out).1
 have bF:=(((((((((b13.setCell (p:=⟨o,0,none⟩) lo (.int .i64 0)).setCell (p:=⟨o,1,none⟩) lo (.slice none 0 0)).setCell (p:=⟨o,2,none⟩) lo (.bool false)).setCell (p:=⟨o,3,none⟩) lo (.bool false)).setCell (p:=⟨o,4,none⟩) lo (.int .i64 0)).setCell (p:=⟨o,5,none⟩) lo (.bool false)).setCell (p:=⟨o,6,none⟩) lo (.slice none 0 0)).setCell (p:=⟨o,7,none⟩) lo (.bool false)).setCell (p:=⟨o,8,none⟩) lo (.bool false))
 obtain ⟨g0,Q0,m0,-⟩:=R3.stN n42.out 0 (.int .i64 0)
 obtain ⟨g1,Q1,m1,-⟩:=Q0.stN m0 1 (.slice none 0 0)
 obtain ⟨g2,Q2,m2,-⟩:=Q1.stN m1 2 (.bool false)
 obtain ⟨g3,Q3,m3,-⟩:=Q2.stN m2 3 (.bool false)
 obtain ⟨g4,Q4,m4,-⟩:=Q3.stN m3 4 (.int .i64 0)
 obtain ⟨g5,Q5,m5,-⟩:=Q4.stN m4 5 (.bool false)
 obtain ⟨g6,Q6,m6,-⟩:=Q5.stN m5 6 (.slice none 0 0)
 obtain ⟨g7,Q7,m7,-⟩:=Q6.stN m6 7 (.bool false)
 obtain ⟨g8,Q8,m8,-⟩:=Q7.stN m7 8 (.bool false)
 have hyF:ErrIs r (((((((((w3.setCell ⟨o,0,none⟩ (.int .i64 0)).setCell ⟨o,1,none⟩ (.slice none 0 0)).setCell ⟨o,2,none⟩ (.bool false)).setCell ⟨o,3,none⟩ (.bool false)).setCell ⟨o,4,none⟩ (.int .i64 0)).setCell ⟨o,5,none⟩ (.bool false)).setCell ⟨o,6,none⟩ (.slice none 0 0)).setCell ⟨o,7,none⟩ (.bool false)).setCell ⟨o,8,none⟩ (.bool false)) (under sLab 0 (some t)) y:=by
  have cs:∀ (W:World) (f:Names) (cs:List Value) (c0:∀ s,cs[0]?≠some (.string s)) (R:Rows w.heap.size W f) (n:f (42,0)=some (boxN 62 9 o cs)) (k:Nat) (u:Value),ErrIs r W (under sLab 0 (some t)) y→ErrIs r (W.setCell ⟨o,k,none⟩ u) (under sLab 0 (some t)) y:=fun W f cs c0 R n k u h=>h.set (b:=o) (i:=k) (fun s q=>c0 s ((R.cellN n 0 (by decide)).symm.trans q)) u
  exact (cs _ _ _ (by intro s q; simp at q) Q7 m7 8 _ (cs _ _ _ (by intro s q; simp at q) Q6 m6 7 _ (cs _ _ _ (by intro s q; simp at q) Q5 m5 6 _ (cs _ _ _ (by intro s q; simp at q) Q4 m4 5 _ (cs _ _ _ (by intro s q; simp at q) Q3 m3 4 _ (cs _ _ _ (by intro s q; simp at q) Q2 m2 3 _ (cs _ _ _ (by intro s q; simp at q) Q1 m1 2 _ (cs _ _ _ (by intro s q; simp at q) Q0 m0 1 _ (cs _ _ _ (by intro s q; simp at q) R3 n42.out 0 _ hy)))))))))
 obtain ⟨WF,hWF⟩:∃ W:World,(((((((((w3.setCell ⟨o,0,none⟩ (.int .i64 0)).setCell ⟨o,1,none⟩ (.slice none 0 0)).setCell ⟨o,2,none⟩ (.bool false)).setCell ⟨o,3,none⟩ (.bool false)).setCell ⟨o,4,none⟩ (.int .i64 0)).setCell ⟨o,5,none⟩ (.bool false)).setCell ⟨o,6,none⟩ (.slice none 0 0)).setCell ⟨o,7,none⟩ (.bool false)).setCell ⟨o,8,none⟩ (.bool false))=W:=⟨_,rfl⟩
 rw [hWF] at bF hyF Q8
 have cr0:=Hd (Q8.cellN m8 0 (by decide))
 have cr1:=Hd (Q8.cellN m8 1 (by decide))
 have cr2:=Hd (Q8.cellN m8 2 (by decide))
 have cr3:=Hd (Q8.cellN m8 3 (by decide))
 have cr4:=Hd (Q8.cellN m8 4 (by decide))
 have cr5:=Hd (Q8.cellN m8 5 (by decide))
 have cr6:=Hd (Q8.cellN m8 6 (by decide))
 have cr7:=Hd (Q8.cellN m8 7 (by decide))
 have cr8:=Hd (Q8.cellN m8 8 (by decide))
 replace hyF:=Hd hyF
 replace hWF:=Hd hWF
 replace bF:=Hd bF
 clear R3 n42 hR1 hg h hy he Q0 m0 Q1 m1 Q2 m2 Q3 m3 Q4 m4 Q5 m5 Q6 m6 Q7 m7 Q8 m8 b01 b2 b12 b3 b13 lo
 obtain ⟨T3,p3,rfl⟩:∃ T a,y=.iface T (.pointer (some a)):=by
  have hh:=hyF.out
  unfold under at hh
  exact hh.some_shape
 go_wp2
 rw [hWF.out]
 exact bodyPost_ret (v:=.tuple #[zRep,.iface T3 (.pointer (some p3))]) (by simp [results,Tryz.results25,go_sem,cr0.out,cr1.out,cr2.out,cr3.out,cr4.out,cr5.out,cr6.out,cr7.out,cr8.out]) rfl ⟨_,_,rfl,bF.out,rfl,hyF.out⟩
def chains (t:Int×List (ByteArray×Int)):List PErr :=
 [under sOverlap 0 (some t),under sSubset 0 (some t),under sSubset 0 (some t),under sImage 0 (under sSubset 0 (some t)),under sPairs 0 (some t),under sInject 0 (under sPairs 0 (some t)),under sTwins 0 (under sPairs 0 (some t)),under sCount 0 (some t),under sInverse 0 (under sInject 0 (under sPairs 0 (some t))),under sLab 0 (some t),under sCount 0 (some t)]
def askBy:List ByteArray:=[sOverlap,sSubset,sSubset,sImage,sPairs,sInject,sTwins,sCount,sInverse,sLab,sCount]
theorem radius_bad (r:Nat→Addr) (k R:Int) (va:Option Addr) (vn vc:Nat) (T:List Int) (t:Int×List (ByteArray×Int)) (w:World) (hg:Glob r w) (h:IntsAt w (.slice va vn vc) T) (hc:smallP k R T=some t) :
 Calls Tryz.prog 68 #[.agg #[.int .i64 k,.int .i64 R,.slice va vn vc]] w (Ret2 (fun x y w'=>ErrIs r w' (under sInverse 0 (under sInject 0 (under sPairs 0 (some t)))) y∧x=.int .i64 (radN k R T)) w):=by
 have hi:=inv_radius r k R va vn vc T w hg h
 have e:invE k R T=under sInverse 0 (under sInject 0 (under sPairs 0 (some t))):=by unfold invE; rw [hc]
 rw [e] at hi
 exact hi
structure AskAt (r:Nat→Addr) (t:Int×List (ByteArray×Int)) (w:World) (o:Nat) (cs:List Value) (i:Nat):Prop where
 cells:∀ k,k<11→w.cell? ⟨o,k,none⟩=cs[k]?
 frz:∀ k,k<11→w.frozen? ⟨o,k,none⟩=false
 len:cs.length=11
 nos:∀ (k:Nat) (s:ByteArray),cs[k]?≠some (.string s)
 errs:∀ j,j<i→ErrIs r w ((chains t).getD j none) (cs.getD j .nilIface)
theorem AskAt.below {r:Nat→Addr} {t:Int×List (ByteArray×Int)} {w w':World} {o i:Nat} {cs:List Value} (h:AskAt r t w o cs i) (hb:Below w.heap.size w w'):AskAt r t w' o cs i:=by
 have lt:∀ k,k<11→(⟨o,k,none⟩:Addr).block<w.heap.size:=fun k hk=>by
  have h1:=h.cells k hk
  rw [List.getElem?_eq_getElem (by rw [h.len]; exact hk)] at h1
  exact World.block_lt_of_cell? _ _ h1
 exact ⟨fun k hk=>(hb.cell (lt k hk)).trans (h.cells k hk),fun k hk=>(hb.frozen (lt k hk)).trans (h.frz k hk),h.len,h.nos,fun j hj=>(h.errs j hj).below hb⟩
theorem AskAt.put {r:Nat→Addr} {t:Int×List (ByteArray×Int)} {w:World} {o i:Nat} {cs:List Value} (h:AskAt r t w o cs i) (hi:i<11) {T:TypeId} {a:Value} (he:ErrIs r w ((chains t).getD i none) (.iface T a)):AskAt r t (w.setCell ⟨o,i,none⟩ (.iface T a)) o (cs.set i (.iface T a)) (i+1):=by
 have hil:i<cs.length:=by rw [h.len]; exact hi
 have h0:=h.cells i hi
 refine ⟨fun k hk=>?_,fun k hk=>by simpa using h.frz k hk,by simp [h.len],fun k s=>?_,fun j hj=>?_⟩
 ·by_cases e:i=k
  ·subst e
   rw [List.getElem?_set_self hil]
   rw [List.getElem?_eq_getElem hil] at h0
   exact World.cell?_setCell_same _ _ _ h0
  ·rw [List.getElem?_set_ne e,World.cell?_setCell_other _ _ _ _ (by intro q; injection q with _ q; exact e q)]
   exact h.cells k hk
 ·by_cases e:i=k
  ·subst e
   rw [List.getElem?_set_self hil]; simp
  ·rw [List.getElem?_set_ne e]; exact h.nos k s
 ·have hs:∀ {e:PErr} {x:Value},ErrIs r w e x→ErrIs r (w.setCell ⟨o,i,none⟩ (.iface T a)) e x:=fun q=>q.set (b:=o) (i:=i) (fun s q=>h.nos 0 s ((h.cells 0 (by decide)).symm.trans q)) _
  by_cases e:j=i
  ·subst e
   have:(cs.set j (.iface T a)).getD j .nilIface=.iface T a:=by simp [List.getD,hil]
   rw [this]
   exact hs he
  ·have:(cs.set i (.iface T a)).getD j .nilIface=cs.getD j .nilIface:=by simp [List.getD,List.getElem?_set_ne (Ne.symm e)]
   rw [this]
   exact hs (h.errs j (by omega))
theorem AskAt.vals {r:Nat→Addr} {t:Int×List (ByteArray×Int)} {w:World} {o:Nat} {cs:List Value} (h:AskAt r t w o cs 11):∃ vs,vs.length=11∧ValsAt w (.slice (some ⟨o,0,none⟩) 11 11) vs∧∀ i,i<11→ErrIs r w ((chains t).getD i none) (vs.getD i .nilIface):=by
 refine ⟨cs,h.len,⟨some ⟨o,0,none⟩,11,by rw [h.len],by rw [h.len]; exact Nat.le_refl _,by simp [maxLen],(fun q=>by cases q),fun i hi=>?_⟩,h.errs⟩
 have h1:=h.cells i (by rw [← h.len]; exact hi)
 rw [List.getElem?_eq_getElem hi] at h1
 rw [valAt_row]
 exact h1
theorem asked_bad (r:Nat→Addr) (k R:Int) (va:Option Addr) (vn vc:Nat) (T:List Int) (t:Int×List (ByteArray×Int)) (w:World) (hg:Glob r w) (hG:GlobE w) (h:IntsAt w (.slice va vn vc) T) (hc:smallP k R T=some t) :
 Calls Tryz.prog 30 #[.agg #[.int .i64 k,.int .i64 R,.slice va vn vc]] w (Ret2 (fun x y w'=>∃ vs,vs.length=11∧ValsAt w' x vs∧ValsAt w' y (askBy.map Value.string)∧∀ i,i<11→ErrIs r w' ((chains t).getD i none) (vs.getD i .nilIface)) w):=by
 have b0:=Below.step (belowAlloc w (.cells #[.int .i64 k,.int .i64 R,.slice va vn vc] 24)) (belowAlloc _ (.cells #[.nilIface,.nilIface,.nilIface,.nilIface,.nilIface,.nilIface,.nilIface,.nilIface,.nilIface,.nilIface,.nilIface] 134))
 have q:Box3 ((w.alloc (.cells #[.int .i64 k,.int .i64 R,.slice va vn vc] 24)).alloc (.cells #[.nilIface,.nilIface,.nilIface,.nilIface,.nilIface,.nilIface,.nilIface,.nilIface,.nilIface,.nilIface,.nilIface] 134)) w.heap.size (.int .i64 k) (.int .i64 R) (.slice va vn vc):=by simp [Box3,go_sem]
 obtain ⟨w0,hw0⟩:∃ W:World,(w.alloc (.cells #[.int .i64 k,.int .i64 R,.slice va vn vc] 24)).alloc (.cells #[.nilIface,.nilIface,.nilIface,.nilIface,.nilIface,.nilIface,.nilIface,.nilIface,.nilIface,.nilIface,.nilIface] 134)=W:=⟨_,rfl⟩
 have A:AskAt r t w0 (w.heap.size+1) [.nilIface,.nilIface,.nilIface,.nilIface,.nilIface,.nilIface,.nilIface,.nilIface,.nilIface,.nilIface,.nilIface] 0:=by
  refine ⟨fun k hk=>?_,fun k hk=>?_,rfl,fun k s=>?_,fun j hj=>absurd hj (Nat.not_lt_zero _)⟩
  ·rw [← hw0]
   rcases k with _ | _ | _ | _ | _ | _ | _ | _ | _ | _ | _ | k<;>first | simp [go_sem] | omega
  ·rw [← hw0]; simp [go_sem]
  ·rcases k with _ | _ | _ | _ | _ | _ | _ | _ | _ | _ | _ | k<;>simp
 rw [hw0] at b0 q
 have hlt:w.heap.size≠w.heap.size+1:=by omega
 obtain ⟨o,ho⟩:∃ o,w.heap.size+1=o:=⟨_,rfl⟩
 rw [ho] at A
 have hwo:w.heap.size≤o:=by omega
 have hno:o≠w.heap.size:=by omega
 replace hg:=Hd hg
 replace hG:=Hd hG
 replace h:=Hd h
 replace hc:=Hd hc
 replace hw0:=Hd hw0
 replace ho:=Hd ho
 replace A:=Hd A
 replace hwo:=Hd hwo
 replace hno:=Hd hno
 clear hlt
 replace q:=Hd q
 have c:=Hd b0
 clear b0
 go_enter Tryz.func30,Tryz.ntmps30
 go_upto_region 2 with fail
 rw [hw0.out,ho.out]
 obtain ⟨⟨z0,z1,z2⟩,-,-,-⟩:=q.out
 have K0:=nodes_bad r k R va vn vc T t w0 (hg.out.below c.out) (h.out.below c.out) hc.out
 replace K0:=Hd K0
 go_wp2_with fail
 refine K0.out.mono ?_
 rintro e x0 ⟨_,y,rfl,b,rfl,hy⟩
 obtain ⟨T0,p0,rfl⟩:∃ T a,y=.iface T (.pointer (some a)):=by
  unfold under at hy
  exact hy.some_shape
 clear z0 z1 z2 K0
 replace A:=A.out.below b
 have co:x0.cell? ⟨o,0,none⟩=some .nilIface:=A.cells 0 (by decide)
 have cf:=A.frz 0 (by decide)
 have A2:=A.put (by decide) (T:=T0) (a:=.pointer (some p0)) hy
 have c2:=(Below.step c.out b).setCell (p:=⟨o,0,none⟩) hwo.out (.iface T0 (.pointer (some p0)))
 have q2:=(q.out.below b).far hno.out 0 (.iface T0 (.pointer (some p0)))
 clear A hy b q c
 obtain ⟨v0,hv0⟩:∃ W:World,x0.setCell ⟨o,0,none⟩ (.iface T0 (.pointer (some p0)))=W:=⟨_,rfl⟩
 rw [hv0] at A2 c2 q2
 have A:=Hd A2
 have c:=Hd c2
 have q:=Hd q2
 clear A2 c2 q2
 replace hv0:=Hd hv0
 go_upto_region 3 with fail
 rw [hv0.out]
 clear co cf
 obtain ⟨⟨z0,z1,z2⟩,-,-,-⟩:=q.out
 have K1:=walk_bad r k R va vn vc T t v0 (hg.out.below c.out) (hG.out.below c.out) (h.out.below c.out) hc.out
 replace K1:=Hd K1
 go_wp2_with fail
 refine K1.out.mono ?_
 rintro e x1 ⟨_,y,rfl,b,rfl,hy⟩
 obtain ⟨T1,p1,rfl⟩:∃ T a,y=.iface T (.pointer (some a)):=by
  unfold under at hy
  exact hy.some_shape
 clear z0 z1 z2 K1
 replace A:=A.out.below b
 have co:x1.cell? ⟨o,1,none⟩=some .nilIface:=A.cells 1 (by decide)
 have cf:=A.frz 1 (by decide)
 have A2:=A.put (by decide) (T:=T1) (a:=.pointer (some p1)) hy
 have c2:=(Below.step c.out b).setCell (p:=⟨o,1,none⟩) hwo.out (.iface T1 (.pointer (some p1)))
 have q2:=(q.out.below b).far hno.out 1 (.iface T1 (.pointer (some p1)))
 clear A hy b q c
 obtain ⟨v1,hv1⟩:∃ W:World,x1.setCell ⟨o,1,none⟩ (.iface T1 (.pointer (some p1)))=W:=⟨_,rfl⟩
 rw [hv1] at A2 c2 q2
 have A:=Hd A2
 have c:=Hd c2
 have q:=Hd q2
 clear A2 c2 q2
 replace hv1:=Hd hv1
 go_upto_region 4 with fail
 rw [hv1.out]
 clear co cf
 obtain ⟨⟨z0,z1,z2⟩,-,-,-⟩:=q.out
 have K2:=onto_bad r k R va vn vc T t v1 (hg.out.below c.out) (hG.out.below c.out) (h.out.below c.out) hc.out
 replace K2:=Hd K2
 go_wp2_with fail
 refine K2.out.mono ?_
 rintro e x2 ⟨_,_,y,rfl,b,rfl,rfl,hy⟩
 obtain ⟨T2,p2,rfl⟩:∃ T a,y=.iface T (.pointer (some a)):=by
  unfold under at hy
  exact hy.some_shape
 clear z0 z1 z2 K2
 replace A:=A.out.below b
 have co:x2.cell? ⟨o,2,none⟩=some .nilIface:=A.cells 2 (by decide)
 have cf:=A.frz 2 (by decide)
 have A2:=A.put (by decide) (T:=T2) (a:=.pointer (some p2)) hy
 have c2:=(Below.step c.out b).setCell (p:=⟨o,2,none⟩) hwo.out (.iface T2 (.pointer (some p2)))
 have q2:=(q.out.below b).far hno.out 2 (.iface T2 (.pointer (some p2)))
 clear A hy b q c
 obtain ⟨v2,hv2⟩:∃ W:World,x2.setCell ⟨o,2,none⟩ (.iface T2 (.pointer (some p2)))=W:=⟨_,rfl⟩
 rw [hv2] at A2 c2 q2
 have A:=Hd A2
 have c:=Hd c2
 have q:=Hd q2
 clear A2 c2 q2
 replace hv2:=Hd hv2
 go_upto_region 5 with fail
 rw [hv2.out]
 clear co cf
 obtain ⟨⟨z0,z1,z2⟩,-,-,-⟩:=q.out
 have K3:=least_bad r k R va vn vc T t v2 (hg.out.below c.out) (hG.out.below c.out) (h.out.below c.out) hc.out
 replace K3:=Hd K3
 go_wp2_with fail
 refine K3.out.mono ?_
 rintro e x3 ⟨_,y,rfl,b,rfl,hy⟩
 obtain ⟨T3,p3,rfl⟩:∃ T a,y=.iface T (.pointer (some a)):=by
  unfold under at hy
  exact hy.some_shape
 clear z0 z1 z2 K3
 replace A:=A.out.below b
 have co:x3.cell? ⟨o,3,none⟩=some .nilIface:=A.cells 3 (by decide)
 have cf:=A.frz 3 (by decide)
 have A2:=A.put (by decide) (T:=T3) (a:=.pointer (some p3)) hy
 have c2:=(Below.step c.out b).setCell (p:=⟨o,3,none⟩) hwo.out (.iface T3 (.pointer (some p3)))
 have q2:=(q.out.below b).far hno.out 3 (.iface T3 (.pointer (some p3)))
 clear A hy b q c
 obtain ⟨v3,hv3⟩:∃ W:World,x3.setCell ⟨o,3,none⟩ (.iface T3 (.pointer (some p3)))=W:=⟨_,rfl⟩
 rw [hv3] at A2 c2 q2
 have A:=Hd A2
 have c:=Hd c2
 have q:=Hd q2
 clear A2 c2 q2
 replace hv3:=Hd hv3
 go_upto_region 6 with fail
 rw [hv3.out]
 clear co cf
 obtain ⟨⟨z0,z1,z2⟩,-,-,-⟩:=q.out
 have K4:=pgraph_bad r k R va vn vc T t v3 (hg.out.below c.out) (h.out.below c.out) hc.out
 replace K4:=Hd K4
 go_wp2_with fail
 refine K4.out.mono ?_
 rintro e x4 ⟨_,y,rfl,b,rfl,hy⟩
 obtain ⟨T4,p4,rfl⟩:∃ T a,y=.iface T (.pointer (some a)):=by
  unfold under at hy
  exact hy.some_shape
 clear z0 z1 z2 K4
 replace A:=A.out.below b
 have co:x4.cell? ⟨o,4,none⟩=some .nilIface:=A.cells 4 (by decide)
 have cf:=A.frz 4 (by decide)
 have A2:=A.put (by decide) (T:=T4) (a:=.pointer (some p4)) hy
 have c2:=(Below.step c.out b).setCell (p:=⟨o,4,none⟩) hwo.out (.iface T4 (.pointer (some p4)))
 have q2:=(q.out.below b).far hno.out 4 (.iface T4 (.pointer (some p4)))
 clear A hy b q c
 obtain ⟨v4,hv4⟩:∃ W:World,x4.setCell ⟨o,4,none⟩ (.iface T4 (.pointer (some p4)))=W:=⟨_,rfl⟩
 rw [hv4] at A2 c2 q2
 have A:=Hd A2
 have c:=Hd c2
 have q:=Hd q2
 clear A2 c2 q2
 replace hv4:=Hd hv4
 go_upto_region 7 with fail
 rw [hv4.out]
 clear co cf
 obtain ⟨⟨z0,z1,z2⟩,-,-,-⟩:=q.out
 have K5:=one_bad r k R va vn vc T t v4 (hg.out.below c.out) (h.out.below c.out) hc.out
 replace K5:=Hd K5
 go_wp2_with fail
 refine K5.out.mono ?_
 rintro e x5 ⟨_,_,_,y,rfl,b,rfl,rfl,rfl,hy⟩
 obtain ⟨T5,p5,rfl⟩:∃ T a,y=.iface T (.pointer (some a)):=by
  unfold under at hy
  exact hy.some_shape
 clear z0 z1 z2 K5
 replace A:=A.out.below b
 have co:x5.cell? ⟨o,5,none⟩=some .nilIface:=A.cells 5 (by decide)
 have cf:=A.frz 5 (by decide)
 have A2:=A.put (by decide) (T:=T5) (a:=.pointer (some p5)) hy
 have c2:=(Below.step c.out b).setCell (p:=⟨o,5,none⟩) hwo.out (.iface T5 (.pointer (some p5)))
 have q2:=(q.out.below b).far hno.out 5 (.iface T5 (.pointer (some p5)))
 clear A hy b q c
 obtain ⟨v5,hv5⟩:∃ W:World,x5.setCell ⟨o,5,none⟩ (.iface T5 (.pointer (some p5)))=W:=⟨_,rfl⟩
 rw [hv5] at A2 c2 q2
 have A:=Hd A2
 have c:=Hd c2
 have q:=Hd q2
 clear A2 c2 q2
 replace hv5:=Hd hv5
 go_upto_region 8 with fail
 rw [hv5.out]
 clear co cf
 obtain ⟨⟨z0,z1,z2⟩,-,-,-⟩:=q.out
 have K6:=finite_bad r k R va vn vc T t v5 (hg.out.below c.out) (h.out.below c.out) hc.out
 replace K6:=Hd K6
 go_wp2_with fail
 refine K6.out.mono ?_
 rintro e x6 ⟨_,_,_,y,rfl,b,rfl,rfl,rfl,hy⟩
 obtain ⟨T6,p6,rfl⟩:∃ T a,y=.iface T (.pointer (some a)):=by
  unfold under at hy
  exact hy.some_shape
 clear z0 z1 z2 K6
 replace A:=A.out.below b
 have co:x6.cell? ⟨o,6,none⟩=some .nilIface:=A.cells 6 (by decide)
 have cf:=A.frz 6 (by decide)
 have A2:=A.put (by decide) (T:=T6) (a:=.pointer (some p6)) hy
 have c2:=(Below.step c.out b).setCell (p:=⟨o,6,none⟩) hwo.out (.iface T6 (.pointer (some p6)))
 have q2:=(q.out.below b).far hno.out 6 (.iface T6 (.pointer (some p6)))
 clear A hy b q c
 obtain ⟨v6,hv6⟩:∃ W:World,x6.setCell ⟨o,6,none⟩ (.iface T6 (.pointer (some p6)))=W:=⟨_,rfl⟩
 rw [hv6] at A2 c2 q2
 have A:=Hd A2
 have c:=Hd c2
 have q:=Hd q2
 clear A2 c2 q2
 replace hv6:=Hd hv6
 go_upto_region 9 with fail
 rw [hv6.out]
 clear co cf
 obtain ⟨⟨z0,z1,z2⟩,-,-,-⟩:=q.out
 have K7:=count_Words_bad r k R va vn vc T (.slice none 0 0) v6 (hg.out.below c.out) (h.out.below c.out) t hc.out
 replace K7:=Hd K7
 go_wp2_with fail
 refine K7.out.mono ?_
 rintro e x7 ⟨_,y,rfl,b,rfl,hy⟩
 obtain ⟨T7,p7,rfl⟩:∃ T a,y=.iface T (.pointer (some a)):=by
  unfold under at hy
  exact hy.some_shape
 clear z0 z1 z2 K7
 replace A:=A.out.below b
 have co:x7.cell? ⟨o,7,none⟩=some .nilIface:=A.cells 7 (by decide)
 have cf:=A.frz 7 (by decide)
 have A2:=A.put (by decide) (T:=T7) (a:=.pointer (some p7)) hy
 have c2:=(Below.step c.out b).setCell (p:=⟨o,7,none⟩) hwo.out (.iface T7 (.pointer (some p7)))
 have q2:=(q.out.below b).far hno.out 7 (.iface T7 (.pointer (some p7)))
 clear A hy b q c
 obtain ⟨v7,hv7⟩:∃ W:World,x7.setCell ⟨o,7,none⟩ (.iface T7 (.pointer (some p7)))=W:=⟨_,rfl⟩
 rw [hv7] at A2 c2 q2
 have A:=Hd A2
 have c:=Hd c2
 have q:=Hd q2
 clear A2 c2 q2
 replace hv7:=Hd hv7
 go_upto_region 10 with fail
 rw [hv7.out]
 clear co cf
 obtain ⟨⟨z0,z1,z2⟩,-,-,-⟩:=q.out
 have K8:=radius_bad r k R va vn vc T t v7 (hg.out.below c.out) (h.out.below c.out) hc.out
 replace K8:=Hd K8
 go_wp2_with fail
 refine K8.out.mono ?_
 rintro e x8 ⟨_,y,rfl,b,hy,rfl⟩
 obtain ⟨T8,p8,rfl⟩:∃ T a,y=.iface T (.pointer (some a)):=by
  unfold under at hy
  exact hy.some_shape
 clear z0 z1 z2 K8
 replace A:=A.out.below b
 have co:x8.cell? ⟨o,8,none⟩=some .nilIface:=A.cells 8 (by decide)
 have cf:=A.frz 8 (by decide)
 have A2:=A.put (by decide) (T:=T8) (a:=.pointer (some p8)) hy
 have c2:=(Below.step c.out b).setCell (p:=⟨o,8,none⟩) hwo.out (.iface T8 (.pointer (some p8)))
 have q2:=(q.out.below b).far hno.out 8 (.iface T8 (.pointer (some p8)))
 clear A hy b q c
 obtain ⟨v8,hv8⟩:∃ W:World,x8.setCell ⟨o,8,none⟩ (.iface T8 (.pointer (some p8)))=W:=⟨_,rfl⟩
 rw [hv8] at A2 c2 q2
 have A:=Hd A2
 have c:=Hd c2
 have q:=Hd q2
 clear A2 c2 q2
 replace hv8:=Hd hv8
 go_upto_region 11 with fail
 rw [hv8.out]
 clear co cf
 obtain ⟨⟨z0,z1,z2⟩,-,-,-⟩:=q.out
 have K9:=look_bad r k R va vn vc T t v8 (hg.out.below c.out) (h.out.below c.out) hc.out
 replace K9:=Hd K9
 go_wp2_with fail
 refine K9.out.mono ?_
 rintro e x9 ⟨_,y,rfl,b,rfl,hy⟩
 obtain ⟨T9,p9,rfl⟩:∃ T a,y=.iface T (.pointer (some a)):=by
  unfold under at hy
  exact hy.some_shape
 clear z0 z1 z2 K9
 replace A:=A.out.below b
 have co:x9.cell? ⟨o,9,none⟩=some .nilIface:=A.cells 9 (by decide)
 have cf:=A.frz 9 (by decide)
 have A2:=A.put (by decide) (T:=T9) (a:=.pointer (some p9)) hy
 have c2:=(Below.step c.out b).setCell (p:=⟨o,9,none⟩) hwo.out (.iface T9 (.pointer (some p9)))
 have q2:=(q.out.below b).far hno.out 9 (.iface T9 (.pointer (some p9)))
 clear A hy b q c
 obtain ⟨v9,hv9⟩:∃ W:World,x9.setCell ⟨o,9,none⟩ (.iface T9 (.pointer (some p9)))=W:=⟨_,rfl⟩
 rw [hv9] at A2 c2 q2
 have A:=Hd A2
 have c:=Hd c2
 have q:=Hd q2
 clear A2 c2 q2
 replace hv9:=Hd hv9
 go_upto_region 12 with fail
 rw [hv9.out]
 clear co cf
 obtain ⟨⟨z0,z1,z2⟩,-,-,-⟩:=q.out
 have K10:=fixed_bad r k R va vn vc T 1 t v9 (hg.out.below c.out) (h.out.below c.out) hc.out
 replace K10:=Hd K10
 go_wp2_with fail
 refine K10.out.mono ?_
 rintro e x10 ⟨_,y,rfl,b,rfl,hy⟩
 obtain ⟨T10,p10,rfl⟩:∃ T a,y=.iface T (.pointer (some a)):=by
  unfold under at hy
  exact hy.some_shape
 clear z0 z1 z2 K10
 replace A:=A.out.below b
 have co:x10.cell? ⟨o,10,none⟩=some .nilIface:=A.cells 10 (by decide)
 have cf:=A.frz 10 (by decide)
 have A2:=A.put (by decide) (T:=T10) (a:=.pointer (some p10)) hy
 have c2:=(Below.step c.out b).setCell (p:=⟨o,10,none⟩) hwo.out (.iface T10 (.pointer (some p10)))
 have q2:=(q.out.below b).far hno.out 10 (.iface T10 (.pointer (some p10)))
 clear A hy b q c
 obtain ⟨v10,hv10⟩:∃ W:World,x10.setCell ⟨o,10,none⟩ (.iface T10 (.pointer (some p10)))=W:=⟨_,rfl⟩
 rw [hv10] at A2 c2 q2
 have A:=Hd A2
 have c:=Hd c2
 have q:=Hd q2
 clear A2 c2 q2
 replace hv10:=Hd hv10
 go_upto_region 13 with fail
 rw [hv10.out]
 clear co cf
 have bl:=belowAlloc v10 (.cells #[.string ⟨#[111,118,101,114,108,97,112]⟩,.string ⟨#[115,117,98,115,101,116]⟩,.string ⟨#[115,117,98,115,101,116]⟩,.string ⟨#[105,109,97,103,101]⟩,.string ⟨#[112,97,105,114,115]⟩,.string ⟨#[105,110,106,101,99,116]⟩,.string ⟨#[116,119,105,110,115]⟩,.string ⟨#[99,111,117,110,116]⟩,.string ⟨#[105,110,118,101,114,115,101]⟩,.string ⟨#[108,97,98]⟩,.string ⟨#[99,111,117,110,116]⟩] 9)
 have hvs:ValsAt (v10.alloc (.cells #[.string ⟨#[111,118,101,114,108,97,112]⟩,.string ⟨#[115,117,98,115,101,116]⟩,.string ⟨#[115,117,98,115,101,116]⟩,.string ⟨#[105,109,97,103,101]⟩,.string ⟨#[112,97,105,114,115]⟩,.string ⟨#[105,110,106,101,99,116]⟩,.string ⟨#[116,119,105,110,115]⟩,.string ⟨#[99,111,117,110,116]⟩,.string ⟨#[105,110,118,101,114,115,101]⟩,.string ⟨#[108,97,98]⟩,.string ⟨#[99,111,117,110,116]⟩] 9)) (.slice (some ⟨v10.heap.size,0,none⟩) 11 11) (askBy.map Value.string) :=
  OwnV.at (E:=9) (B:=0) (World.ownsRow_lit (base:=0) (e:=9) (size:=1) v10 _ 11 (Nat.zero_le _) (by decide) rfl)
 have hA:=A.out.below bl
 have bE:=Hd (c.out.trans (bl.mono c.out.size))
 replace hvs:=Hd hvs
 replace hA:=Hd hA
 clear A bl c q
 go_wp2
 go_ret2
 obtain ⟨vs,e1,e2,e3⟩:=hA.out.vals
 exact ⟨_,_,rfl,bE.out,vs,e1,e2,hvs.out,e3⟩
end Go.Proofs.YtkaoebokbfcmhaaGreatDoor
namespace Go.Proofs.YtkaoebokbfcmhaaGreatDoor
open Go.RowKit Go.Extern.Stop Go.Stop Go.Extern
set_option maxRecDepth 100000
set_option maxHeartbeats 8000000
namespace Errs
theorem assignEF (w : World) : (ReflectliteType.relation "AssignableTo" ReflectliteType.assignableTo #[.agg #[.pointer (some ⟨13, 287, none⟩)], .iface 192 (.agg #[.pointer (some ⟨13, 75, none⟩)])]).run Tryz.prog w = .ok (.bool false) w := by kernel_rfl
theorem uAsM : Tryz.prog.underlying 202 = some (.interface #[("As", 204)]) := by kernel_rfl
theorem noAsEE (v:Value) (xT:TypeId) (w:World):(Instr.typeAssert (.iface 287 v) xT 202 true).run Tryz.prog w=.ok (.tuple #[.nilIface,.bool false]) w:=run_typeAssert_lacksB uAsM (by kernel_rfl) (by kernel_rfl) v xT w
theorem as_loopR (r:Nat→Addr) (n:Int) (tgt x0 x1 x2:Value) (w:World) :
 Calls Tryz.prog 82 #[rootV r n,tgt,.agg #[x0,x1,x2],.iface 192 (.agg #[.pointer (some ⟨13,75,none⟩)])] w fun e w'=>e=.returned (.bool false)∧Below w.heap.size w w':=by
 have h10:=@run_callFunc_extern Tryz.prog 71 _ ReflectliteType.typeOf Tryz.func71 (by kernel_rfl) (by kernel_rfl) (by kernel_rfl) (by kernel_rfl)
 have h35 := @run_callFunc_extern Tryz.prog 231 _ (ReflectliteType.relation "AssignableTo" ReflectliteType.assignableTo) Tryz.func231 (by kernel_rfl) (by kernel_rfl) (by kernel_rfl) (by kernel_rfl)
 have tE:=typeOfE
 have mA:=methodAssignableTo
 have aE:=assignEF
 have nE:=noAsEE
 have uE:=noUnwE
 have usE:=noUnwsE
 have bb:=belowAlloc w (.cells #[x0,x1,x2] 138)
 unfold rootV
 obtain ⟨W,hW⟩:∃ W:World,w.alloc (.cells #[x0,x1,x2] 138)=W:=⟨_,rfl⟩
 rw [hW] at bb
 replace hW:=Hd hW
 go_enter Tryz.func82,Tryz.ntmps82
 go_wp2
 rw [hW.out]
 go_loopg [0] 1 (fun k u wr=>wr=W∧k=1∧u=.iface 287 (.pointer (some (r n.toNat))))
 case atStart=>exact ⟨rfl,rfl,rfl⟩
 case round =>
  obtain ⟨rfl,hk,rfl⟩:=hrel
  clear hk
  go_wp2
  go_ret
  exact ⟨rfl,bb⟩
theorem as_root (r:Nat→Addr) (n:Int) (t:Addr) (w:World) (hg:w.cell? ⟨3,0,none⟩=some (.iface 192 (.agg #[.pointer (some ⟨13,27,none⟩)]))) :
 Calls Tryz.prog 31 #[rootV r n,.iface 77 (.pointer (some t))] w fun ev w'=>ev=.returned (.bool false)∧Below w.heap.size w w':=by
 have h6:=@run_callFunc_extern Tryz.prog 79 _ (fun args=>ReflectliteValue.unpack (args.getD 0 (.tuple #[]))) Tryz.func79 (by kernel_rfl) (by kernel_rfl) (by kernel_rfl) (by kernel_rfl)
 have h7 := @run_callFunc_extern Tryz.prog 80 _ (ReflectliteValue.methodAny (ReflectliteValue.valueError "reflectlite.Value.Type" 0) (fun t _ _ _ => ReflectliteType.toType t)) Tryz.func80 (by kernel_rfl) (by kernel_rfl) (by kernel_rfl) (by kernel_rfl)
 have h8 := @run_callFunc_extern Tryz.prog 81 _ (ReflectliteValue.method (ReflectliteValue.valueError "reflectlite.Value.IsNil" 0) ReflectliteValue.isNil) Tryz.func81 (by kernel_rfl) (by kernel_rfl) (by kernel_rfl) (by kernel_rfl)
 have h27:=@run_callFunc_extern Tryz.prog 221 _ (ReflectliteType.abiMethod fun t=>do pure (.int .u8 (← Rtype.kind t))) Tryz.func221 (by kernel_rfl) (by kernel_rfl) (by kernel_rfl) (by kernel_rfl)
 have h37:=@run_callFunc_extern Tryz.prog 233 _ (ReflectliteType.method ReflectliteType.elem) Tryz.func233 (by kernel_rfl) (by kernel_rfl) (by kernel_rfl) (by kernel_rfl)
 have h38 := @run_callFunc_extern Tryz.prog 234 _ (ReflectliteType.relation "Implements" ReflectliteType.implements_) Tryz.func234 (by kernel_rfl) (by kernel_rfl) (by kernel_rfl) (by kernel_rfl)
 have f6:=valueOfFF
 have f7:=typeFF
 have mK:=methodKind
 have mE:=methodElem
 have mI:=methodImplements
 have kFF:=kindFF
 have kF:=kindF
 have eFF:=elemFF
 have iF:=implementsF
 have n8:=isNilFF ⟨w.heap.size,0,none⟩ t ((w.alloc (.cells #[.pointer (some t)] 77)).alloc (.cells #[.pointer (some ⟨13,77,none⟩),.pointer (some ⟨w.heap.size,0,none⟩),.int .u64 150] 138)) (by simp)
 have hlt:3<w.heap.size:=World.block_lt_of_cell? _ _ hg
 have hg2:((w.alloc (.cells #[.pointer (some t)] 77)).alloc (.cells #[.pointer (some ⟨13,77,none⟩),.pointer (some ⟨w.heap.size,0,none⟩),.int .u64 150] 138)).cell? ⟨3,0,none⟩=some (.iface 192 (.agg #[.pointer (some ⟨13,27,none⟩)])):=by
  rw [World.cell?_alloc_lt _ _ ⟨3,0,none⟩ (by simp; omega),World.cell?_alloc_lt _ _ ⟨3,0,none⟩ hlt]; exact hg
 have bb:=Below.step (belowAlloc w (.cells #[.pointer (some t)] 77)) (belowAlloc _ (.cells #[.pointer (some ⟨13,77,none⟩),.pointer (some ⟨w.heap.size,0,none⟩),.int .u64 150] 138))
 go_enter Tryz.func31,Tryz.ntmps31
 go_wp2_with (go_at_call 82; refine (as_loopR r n _ _ _ _ _).mono ?_; rintro e w' ⟨rfl,b2⟩)
 go_ret
 exact ⟨rfl,Below.step bb b2⟩
end Errs
end Go.Proofs.YtkaoebokbfcmhaaGreatDoor
namespace Go.Proofs.YtkaoebokbfcmhaaGreatDoor
open Go.RowKit
set_option maxRecDepth 100000
set_option maxHeartbeats 8000000
def InC (w:World) (B:Nat) (s:ByteArray) (x:Int) (y:Bool):Prop :=
 (w.cell? ⟨B,0,none⟩=some (.string s)∧w.cell? ⟨B+1,0,none⟩=some (.int .i64 x)∧w.cell? ⟨B+2,0,none⟩=some (.bool y))∧w.frozen? ⟨B,0,none⟩=false∧w.frozen? ⟨B+1,0,none⟩=false∧w.frozen? ⟨B+2,0,none⟩=false
theorem InC.within {w w':World} {A B:Nat} {s:ByteArray} {x:Int} {y:Bool} (h:InC w B s x y) (hb:Below A w w') (hA:B+3≤A):InC w' B s x y:=by
 obtain ⟨⟨h0,h1,h2⟩,f0,f1,f2⟩:=h
 exact ⟨⟨(hb.cell (p:=⟨B,0,none⟩) (by show B<A; omega)).trans h0,(hb.cell (p:=⟨B+1,0,none⟩) (by show B+1<A; omega)).trans h1,(hb.cell (p:=⟨B+2,0,none⟩) (by show B+2<A; omega)).trans h2⟩,(hb.frozen (p:=⟨B,0,none⟩) (by show B<A; omega)).trans f0,(hb.frozen (p:=⟨B+1,0,none⟩) (by show B+1<A; omega)).trans f1,(hb.frozen (p:=⟨B+2,0,none⟩) (by show B+2<A; omega)).trans f2⟩
theorem InC.far {w:World} {B b i:Nat} {s:ByteArray} {x:Int} {y:Bool} (h:InC w B s x y) (hb:b≠B∧b≠B+1∧b≠B+2) (u:Value):InC (w.setCell ⟨b,i,none⟩ u) B s x y:=by
 obtain ⟨⟨h0,h1,h2⟩,f0,f1,f2⟩:=h
 exact ⟨⟨by rw [World.cell?_setCell_far _ _ _ _ hb.1]; exact h0,by rw [World.cell?_setCell_far _ _ _ _ hb.2.1]; exact h1,by rw [World.cell?_setCell_far _ _ _ _ hb.2.2]; exact h2⟩,by simpa using f0,by simpa using f1,by simpa using f2⟩
def inSet (w:World) (B:Nat) (s:ByteArray) (x:Int):World:=((w.setCell ⟨B,0,none⟩ (.string s)).setCell ⟨B+1,0,none⟩ (.int .i64 x)).setCell ⟨B+2,0,none⟩ (.bool true)
theorem InC.put {w:World} {B:Nat} {s:ByteArray} {x:Int} {y:Bool} (h:InC w B s x y) (s':ByteArray) (x':Int):InC (inSet w B s' x') B s' x' true:=by
 obtain ⟨⟨h0,h1,h2⟩,f0,f1,f2⟩:=h
 unfold inSet
 have n1:(w.setCell ⟨B,0,none⟩ (.string s')).cell? ⟨B+1,0,none⟩=some (.int .i64 x):=by rw [World.cell?_setCell_far _ _ _ _ (show B≠B+1 by omega)]; exact h1
 have n2:((w.setCell ⟨B,0,none⟩ (.string s')).setCell ⟨B+1,0,none⟩ (.int .i64 x')).cell? ⟨B+2,0,none⟩=some (.bool y):=by rw [World.cell?_setCell_far _ _ _ _ (show B+1≠B+2 by omega),World.cell?_setCell_far _ _ _ _ (show B≠B+2 by omega)]; exact h2
 refine ⟨⟨?_,?_,World.cell?_setCell_same _ _ _ n2⟩,by simpa using f0,by simpa using f1,by simpa using f2⟩
 ·rw [World.cell?_setCell_far _ _ _ _ (show B+2≠B by omega),World.cell?_setCell_far _ _ _ _ (show B+1≠B by omega)]; exact World.cell?_setCell_same _ _ _ h0
 ·rw [World.cell?_setCell_far _ _ _ _ (show B+2≠B+1 by omega)]; exact World.cell?_setCell_same _ _ _ n1
theorem fInner1_any (p B:Nat) (hp:p<B) (op:ByteArray) (x:Int) (sb:ByteArray) (si:Int) (bb:Bool) (w:World) (c0:w.cell? ⟨p,0,none⟩=some (.string op)) (c1:w.cell? ⟨p,1,none⟩=some (.int .i64 x)) (hI:InC w B sb si bb) :
 Calls Tryz.prog 75 #[.pointer (some ⟨p,0,none⟩),.pointer (some ⟨B,0,none⟩),.pointer (some ⟨B+1,0,none⟩),.pointer (some ⟨B+2,0,none⟩)] w fun e w'=>e=.returned (.tuple #[])∧w'=inSet w.drew B op x:=by
 obtain ⟨W,hW⟩:∃ W:World,w.drew=W:=⟨_,rfl⟩
 have hS:W.cell? ⟨p,0,none⟩=some (.string op)∧W.cell? ⟨p,1,none⟩=some (.int .i64 x):=by
  rw [← hW]; exact ⟨c0,c1⟩
 have hI2:InC W B sb si bb:=by rw [← hW]; exact hI
 obtain ⟨⟨i0,i1,i2⟩,g0,g1,g2⟩:=hI2
 have j1:(W.setCell ⟨B,0,none⟩ (.string op)).cell? ⟨B+1,0,none⟩=some (.int .i64 si):=by rw [World.cell?_setCell_far _ _ _ _ (show B≠B+1 by omega)]; exact i1
 have j2:((W.setCell ⟨B,0,none⟩ (.string op)).setCell ⟨B+1,0,none⟩ (.int .i64 x)).cell? ⟨B+2,0,none⟩=some (.bool bb):=by rw [World.cell?_setCell_far _ _ _ _ (show B+1≠B+2 by omega),World.cell?_setCell_far _ _ _ _ (show B≠B+2 by omega)]; exact i2
 have hS1:(W.setCell ⟨B,0,none⟩ (.string op)).cell? ⟨p,0,none⟩=some (.string op)∧(W.setCell ⟨B,0,none⟩ (.string op)).cell? ⟨p,1,none⟩=some (.int .i64 x):=by
  exact ⟨by rw [World.cell?_setCell_far _ _ _ _ (show B≠p by omega)]; exact hS.1,by rw [World.cell?_setCell_far _ _ _ _ (show B≠p by omega)]; exact hS.2⟩
 have hS2:((W.setCell ⟨B,0,none⟩ (.string op)).setCell ⟨B+1,0,none⟩ (.int .i64 x)).cell? ⟨p,0,none⟩=some (.string op)∧((W.setCell ⟨B,0,none⟩ (.string op)).setCell ⟨B+1,0,none⟩ (.int .i64 x)).cell? ⟨p,1,none⟩=some (.int .i64 x):=by
  exact ⟨by rw [World.cell?_setCell_far _ _ _ _ (show B+1≠p by omega)]; exact hS1.1,by rw [World.cell?_setCell_far _ _ _ _ (show B+1≠p by omega)]; exact hS1.2⟩
 replace hW:=Hd hW
 clear c0 c1 hI hp
 go_enter Tryz.func75,Tryz.ntmps75
 refine wp_region_plan (fun w'=>w'.cell? ⟨p,0,none⟩=some (.string op)∧w'.cell? ⟨p,1,none⟩=some (.int .i64 x)) 10 [(0,true),(1,true),(2,true),(3,true),(4,true),(5,true),(6,true),(7,true),(8,false),(9,false)] (by kernel_rfl) (by kernel_rfl) ?_
 rw [hW.out]
 refine pqY 5 hS ?_
 refine pqY 6 hS ?_
 refine pqY 7 hS ?_
 refine pqY 8 hS ?_
 refine pqY 9 hS ?_
 refine pqY 10 hS ?_
 refine pqY 11 hS ?_
 refine pqY 12 hS ?_
 refine headC rfl (fun KK hK=>?_)
 go_simp
 refine hK _ _ hS1 ?_
 clear hK KK
 refine headC rfl (fun KK hK=>?_)
 go_simp
 refine hK _ _ hS2 ?_
 clear hK KK
 refine head0 ?_
 simp only [List.drop_succ_cons,List.drop_zero]
 go_wp2
 refine NoPanic.normal ?_
 exact bodyPost_end (v:=.tuple #[]) (by simp [results,Tryz.results75,go_sem]) rfl ⟨rfl,rfl⟩
theorem eg_fInner1 (args:Array Value) (w:World):(callFunc 75 args).run Tryz.prog w=.ok (.enter 75 args) w:=by kernel_rfl
def innOp:List (ByteArray×Int)→ByteArray:=fun l=>((l.getLast?).map Prod.fst).getD ⟨#[]⟩
def innAt:List (ByteArray×Int)→Int:=fun l=>((l.getLast?).map Prod.snd).getD 0
def innY:List (ByteArray×Int)→Bool:=fun l=>(l.getLast?).isSome
theorem innOp_snoc (l:List (ByteArray×Int)) (x:ByteArray×Int):innOp (l++[x])=x.1:=by simp [innOp]
theorem innAt_snoc (l:List (ByteArray×Int)) (x:ByteArray×Int):innAt (l++[x])=x.2:=by simp [innAt]
theorem innY_snoc (l:List (ByteArray×Int)) (x:ByteArray×Int):innY (l++[x])=true:=by simp [innY]
theorem inSet_far {w:World} {B b i:Nat} {s:ByteArray} {x:Int} (hb:B+3≤b):(inSet w B s x).cell? ⟨b,i,none⟩=w.cell? ⟨b,i,none⟩:=by
 unfold inSet
 rw [World.cell?_setCell_far _ _ _ _ (show B+2≠b by omega),World.cell?_setCell_far _ _ _ _ (show B+1≠b by omega),World.cell?_setCell_far _ _ _ _ (show B≠b by omega)]
theorem inSet_frz {w:World} {B:Nat} {s:ByteArray} {x:Int} {a:Addr}:(inSet w B s x).frozen? a=w.frozen? a:=by simp [inSet]
theorem inSet_below {w0 w:World} {B:Nat} {s:ByteArray} {x:Int} (h:Below B w0 w):Below B w0 (inSet w B s x) :=
 ((h.setCell (p:=⟨B,0,none⟩) (Nat.le_refl _) _).setCell (p:=⟨B+1,0,none⟩) (Nat.le_succ _) _).setCell (p:=⟨B+2,0,none⟩) (by show B≤B+2; omega) _
theorem faults_any (r:Nat→Addr) (n:Int) (l:List (ByteArray×Int)) (v:Value) (w0 w:World) (hG:GlobE w0) (h:ErrAt r w0 n l v) (hI:InC w w0.heap.size ⟨#[]⟩ 0 false) (hb:Below w0.heap.size w0 w) (hB:w0.heap.size+3≤w.heap.size) :
 Calls Tryz.prog 74 #[v,.func (.func 75) #[] #[.pointer (some ⟨w0.heap.size,0,none⟩),.pointer (some ⟨w0.heap.size+1,0,none⟩),.pointer (some ⟨w0.heap.size+2,0,none⟩)]] w fun e w'=>e=.returned (.tuple #[])∧InC w' w0.heap.size (innOp l) (innAt l) (innY l)∧Below w0.heap.size w0 w':=by
 obtain ⟨B,hBB⟩:∃ B,w0.heap.size=B:=⟨_,rfl⟩
 have bl:=belowAlloc w (.cells #[.pointer none] 75)
 rw [hBB] at hI hb hB ⊢
 have hz:(w.alloc (.cells #[.pointer none] 75)).cell? ⟨w.heap.size,0,none⟩=some (.pointer none):=by simp [go_sem]
 have hf:(w.alloc (.cells #[.pointer none] 75)).frozen? ⟨w.heap.size,0,none⟩=false:=by simp [go_sem]
 have hI2:=hI.within bl hB
 have hb2:=hb.trans (bl.mono (show B≤w.heap.size by omega))
 obtain ⟨w1,hw1⟩:∃ W:World,w.alloc (.cells #[.pointer none] 75)=W:=⟨_,rfl⟩
 obtain ⟨F,hF⟩:∃ F,w.heap.size=F:=⟨_,rfl⟩
 rw [hw1,hF] at hz hf
 rw [hw1] at hI2 hb2
 rw [hF] at hB
 have hsz:F+1≤w1.heap.size:=by rw [← hw1,← hF]; simp
 replace h:=Hd h
 replace hG:=Hd hG
 replace hI2:=Hd hI2
 replace hb2:=Hd hb2
 replace hz:=Hd hz
 replace hf:=Hd hf
 replace hw1:=Hd hw1
 replace hF:=Hd hF
 replace hsz:=Hd hsz
 replace hBB:=Hd hBB
 clear hI hb bl
 go_enter Tryz.func74,Tryz.ntmps74
 go_upto_region 1 with fail
 rw [hw1.out,hF.out]
 go_loopg [0] l.length (fun k u wr=>∃ pre l' q,l=pre++l'∧l'.length=k∧ErrAt r w0 n l' u∧InC wr B (innOp pre) (innAt pre) (innY pre)∧wr.cell? ⟨F,0,none⟩=some (.pointer q)∧wr.frozen? ⟨F,0,none⟩=false∧Below B w0 wr∧F+1≤wr.heap.size)
 case atStart=>exact ⟨[],l,none,rfl,rfl,h.out,hI2.out,hz.out,hf.out,hb2.out,hsz.out⟩
 case round =>
  obtain ⟨pre,l',q,hl,hk,hu,hI,hc,hfz,hbr,hsr⟩:=hrel
  obtain ⟨wo,rfl⟩:∃ wo:World,wo=wr:=⟨_,rfl⟩
  have hg:GlobE wo:=hG.out.below (by rw [hBB.out]; exact hbr)
  match l',hl,hk,hu with
  | [],hl,hk,hu =>
   obtain rfl:_=rootV r n:=hu
   rw [List.append_nil] at hl
   subst hl
   have has:=Errs.as_root r n ⟨F,0,none⟩ wo hg
   unfold rootV at has ⊢
   replace has:=Hd has
   replace hI:=Hd hI
   replace hbr:=Hd hbr
   replace hk:=Hd hk
   go_wp2_with fail
   refine has.out.mono ?_
   rintro e w2 ⟨rfl,b2⟩
   have hI3:=Hd (hI.out.within b2 (by omega))
   have hb3:=Hd (hbr.out.trans (b2.mono (show B≤wo.heap.size by omega)))
   clear b2
   go_wp2
   exact bodyPost_end (v:=.tuple #[]) (by simp [results,Tryz.results74,go_sem]) rfl ⟨rfl,hI3.out,hb3.out⟩
  | (op,at_)::rest,hl,hk,hu =>
   obtain ⟨p,u',rfl,c0,c1,c2,hrest⟩:=hu
   have hpB:p<B:=by rw [← hBB.out]; exact World.block_lt_of_cell? _ _ c0
   have has:=Errs.as_any ⟨p,0,none⟩ ⟨F,0,none⟩ _ wo hg hc hfz
   obtain ⟨T2,a2,rfl⟩:=hrest.shape
   replace has:=Hd has
   replace hI:=Hd hI
   replace hbr:=Hd hbr
   replace hk:=Hd hk
   replace hl:=Hd hl
   replace hrest:=Hd hrest
   replace c0:=Hd c0
   replace c1:=Hd c1
   replace c2:=Hd c2
   go_wp2_with fail
   refine has.out.mono ?_
   rintro e w2 ⟨rfl,w3,b3,rfl⟩
   have e1:(w3.setCell ⟨F,0,none⟩ (.pointer (some ⟨p,0,none⟩))).cell? ⟨F,0,none⟩=some (.pointer (some ⟨p,0,none⟩)):=World.cell?_setCell_same _ _ _ ((b3.cell (p:=⟨F,0,none⟩) (by show F<wo.heap.size; omega)).trans hc)
   have e2:(w3.setCell ⟨F,0,none⟩ (.pointer (some ⟨p,0,none⟩))).frozen? ⟨F,0,none⟩=false:=by
    have:=(b3.frozen (p:=⟨F,0,none⟩) (by show F<wo.heap.size; omega)).trans hfz
    simpa using this
   have hI3:=(hI.out.within b3 (by omega)).far (b:=F) (i:=0) ⟨by omega,by omega,by omega⟩ (.pointer (some ⟨p,0,none⟩))
   have hb3:Below B w0 (w3.setCell ⟨F,0,none⟩ (.pointer (some ⟨p,0,none⟩))):=(hbr.out.trans (b3.mono (show B≤wo.heap.size by omega))).setCell (p:=⟨F,0,none⟩) (show B≤F by omega) _
   have hs3:F+1≤(w3.setCell ⟨F,0,none⟩ (.pointer (some ⟨p,0,none⟩))).heap.size:=by
    have:=b3.size
    simp; omega
   obtain ⟨w4,hw4⟩:∃ W:World,w3.setCell ⟨F,0,none⟩ (.pointer (some ⟨p,0,none⟩))=W:=⟨_,rfl⟩
   rw [hw4] at e1 e2 hI3 hb3 hs3
   rw [hw4]
   have k0:w4.cell? ⟨p,0,none⟩=some (.string op):=(hb3.cell (p:=⟨p,0,none⟩) hpB).trans c0.out
   have k1:w4.cell? ⟨p,1,none⟩=some (.int .i64 at_):=(hb3.cell (p:=⟨p,1,none⟩) hpB).trans c1.out
   have hin:=fInner1_any p B hpB op at_ _ _ _ w4 k0 k1 hI3
   have eg:=eg_fInner1
   replace hin:=Hd hin
   replace hI3:=Hd hI3
   replace hb3:=Hd hb3
   replace hs3:=Hd hs3
   replace hw4:=Hd hw4
   clear k0 k1 hc hfz b3
   go_wp2_with fail
   refine hin.out.mono ?_
   rintro e w5 ⟨rfl,rfl⟩
   have i1:(inSet w4.drew B op at_).cell? ⟨F,0,none⟩=some (.pointer (some ⟨p,0,none⟩)):=(inSet_far hB).trans e1
   have i2:(inSet w4.drew B op at_).frozen? ⟨F,0,none⟩=false:=inSet_frz.trans e2
   have hI5:=hI3.out.put op at_
   have hI6:InC (inSet w4.drew B op at_) B op at_ true:=InC.put (w:=w4.drew) hI3.out op at_
   have hb5:Below B w0 (inSet w4.drew B op at_):=inSet_below hb3.out.drew
   have hs5:F+1≤(inSet w4.drew B op at_).heap.size:=by
    have:=hs3.out
    simpa [inSet] using this
   have k2:(inSet w4.drew B op at_).cell? ⟨p,2,none⟩=some (.iface T2 (.pointer (some a2))):=(hb5.cell (p:=⟨p,2,none⟩) hpB).trans c2.out
   obtain ⟨w6,hw6⟩:∃ W:World,inSet w4.drew B op at_=W:=⟨_,rfl⟩
   rw [hw6] at i1 i2 hI6 hb5 hs5 k2
   rw [hw6]
   clear hI5 e1 e2 hw6
   replace hI6:=Hd hI6
   replace hb5:=Hd hb5
   replace hs5:=Hd hs5
   replace i2:=Hd i2
   go_wp2
   go_roundg rest.length
   case measure=>have:=hk.out; simp at this; omega
   case rel=>exact ⟨pre++[(op,at_)],rest,_,by rw [hl.out,List.append_assoc]; rfl,rfl,hrest.out,by rw [innOp_snoc,innAt_snoc,innY_snoc]; exact hI6.out,i1,i2.out,hb5.out,hs5.out⟩
theorem fInner_any (r:Nat→Addr) (n:Int) (l:List (ByteArray×Int)) (v:Value) (w:World) (hG:GlobE w) (h:ErrAt r w n l v) :
 Calls Tryz.prog 29 #[v] w (Ret3 (fun x y z _=>x=.string (innOp l)∧y=.int .i64 (innAt l)∧z=.bool (innY l)) w):=by
 have b0:=Below.step (Below.step (belowAlloc w (.cells #[.string ⟨#[]⟩] 9)) (belowAlloc _ (.cells #[.int .i64 0] 3))) (belowAlloc _ (.cells #[.bool false] 4))
 have hI:InC (((w.alloc (.cells #[.string ⟨#[]⟩] 9)).alloc (.cells #[.int .i64 0] 3)).alloc (.cells #[.bool false] 4)) w.heap.size ⟨#[]⟩ 0 false:=by
  unfold InC
  simp [go_sem]
 have hs:w.heap.size+3≤(((w.alloc (.cells #[.string ⟨#[]⟩] 9)).alloc (.cells #[.int .i64 0] 3)).alloc (.cells #[.bool false] 4)).heap.size:=by simp
 have hfa:=faults_any r n l v w _ hG h hI b0 hs
 obtain ⟨T,a,rfl⟩:=h.shape
 replace hfa:=Hd hfa
 clear hG h hI hs b0
 go_enter Tryz.func29,Tryz.ntmps29
 go_wp2_with fail
 refine hfa.out.mono ?_
 rintro e w5 ⟨rfl,hI,hb⟩
 obtain ⟨W,hW⟩:∃ W:World,w5.drew=W:=⟨_,rfl⟩
 have hIW:InC W w.heap.size (innOp l) (innAt l) (innY l):=by rw [← hW]; exact hI
 have hbW:Below w.heap.size w W:=by rw [← hW]; exact hb.drew
 obtain ⟨xo,hxo⟩:∃ x,innOp l=x:=⟨_,rfl⟩
 obtain ⟨xa,hxa⟩:∃ x,innAt l=x:=⟨_,rfl⟩
 obtain ⟨xy,hxy⟩:∃ x,innY l=x:=⟨_,rfl⟩
 rw [hxo,hxa,hxy] at hIW
 obtain ⟨⟨i0,i1,i2'⟩,f0,f1,f2'⟩:=hIW
 have i2:W.cell? ⟨w.heap.size+1+1,0,none⟩=some (.bool xy):=i2'
 have f2:W.frozen? ⟨w.heap.size+1+1,0,none⟩=false:=f2'
 clear i2' f2'
 have hS:W.cell? ⟨w.heap.size,0,none⟩=some (.string xo)∧W.cell? ⟨w.heap.size+1,0,none⟩=some (.int .i64 xa)∧W.cell? ⟨w.heap.size+1+1,0,none⟩=some (.bool xy):=⟨i0,i1,i2⟩
 replace hW:=Hd hW
 replace hbW:=Hd hbW
 replace hxo:=Hd hxo
 replace hxa:=Hd hxa
 replace hxy:=Hd hxy
 clear hI hb hfa
 go_upto_region 2 with fail
 refine wp_region_plan (fun w'=>w'.cell? ⟨w.heap.size,0,none⟩=some (.string xo)∧w'.cell? ⟨w.heap.size+1,0,none⟩=some (.int .i64 xa)∧w'.cell? ⟨w.heap.size+1+1,0,none⟩=some (.bool xy)) 5 [(0,true),(1,true),(2,true),(3,false),(4,false)] (by kernel_rfl) (by kernel_rfl) ?_
 rw [hW.out]
 refine pqY 8 hS ?_
 refine pqY 9 hS ?_
 refine pqY 10 hS ?_
 refine headC rfl (fun KK hK=>?_)
 go_simp
 rw [setCell_self i0]
 refine hK _ _ hS ?_
 clear hK KK
 refine headC rfl (fun KK hK=>?_)
 go_simp
 rw [setCell_self i1]
 refine hK _ _ hS ?_
 clear hK KK
 refine head0 ?_
 simp only [List.drop_succ_cons,List.drop_zero]
 go_wp2
 rw [setCell_self i2]
 refine NoPanic.normal ?_
 go_wp2
 exact bodyPost_ret (v:=.tuple #[.string xo,.int .i64 xa,.bool xy]) (by simp [results,Tryz.results29,go_sem,i0,i1,i2]) rfl ⟨_,_,_,rfl,hbW.out,by rw [hxo.out],by rw [hxa.out],by rw [hxy.out]⟩
end Go.Proofs.YtkaoebokbfcmhaaGreatDoor
namespace Go.Proofs.YtkaoebokbfcmhaaGreatDoor
open Go.RowKit
set_option maxRecDepth 100000
theorem code_any (r:Nat→Addr) (n:Int) (l:List (ByteArray×Int)) (v:Value) (w:World) (hg:Glob r w) (h:ErrAt r w n l v) (h1:1≤n) (h2:n≤11) :
 Calls Tryz.prog 28 #[v] w (Ret1 (fun x w'=>x=.int .i64 n∧w'=w) w):=by
 obtain ⟨T,a,rfl⟩:=h.shape
 replace h:=Hd h
 replace hg:=Hd hg
 go_enter Tryz.func28,Tryz.ntmps28
 go_wp2
 go_loopw [3] (fun iv wr=>∃ m:Int,iv=.int .i64 m∧1≤m∧m≤n∧wr=w) (fun iv _=>(12-intOf iv).toNat)
 case atStart=>exact ⟨1,rfl,by omega,h1,rfl⟩
 case round =>
  obtain ⟨m,rfl,m1,m2,rfl⟩:=hrel
  have d1:decide (m≤11)=true:=decide_eq_true (by omega)
  have hroot:=root_any r m _ hg.out (by omega) (by omega)
  replace hroot:=Hd hroot
  go_wp2_with fail
  refine hroot.out.mono ?_
  rintro e w1 ⟨rfl,rfl⟩
  by_cases hmn:m=n
  ·subst hmn
   go_wp2_with fail
   refine (Errs.is_any r m l _ _ h.out).mono ?_
   rintro e w1 ⟨rfl,rfl⟩
   go_wp2
   go_ret
   exact ⟨_,rfl,Below.refl _ _,rfl,rfl⟩
  ·go_wp2_with fail
   refine (Errs.is_no r n m l _ _ hg.out h.out ⟨by omega,by omega⟩ ⟨h1,h2⟩ (fun q=>hmn q.symm)).mono ?_
   rintro e w1 ⟨rfl,rfl⟩
   go_wp2
   go_roundw
   case measure=>simp [intOf]; omega
   case rel=>exact ⟨m+1,by go_num,by omega,by omega,trivial⟩
end Go.Proofs.YtkaoebokbfcmhaaGreatDoor
