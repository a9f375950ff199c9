/-
  Texts that the proof leans on.
-/
import Derived.Test.YtncpnaoabkjegaaGreatDoorMLn6
import Derived.Deep.DeepCutAuto
import Derived.Ground.NamesProg
import Derived.Shelf.Slices.Cells
namespace Go.Proofs.YtncpnaoabkjegaaGreatDoor
open Go.RowKit
set_option maxRecDepth 100000
theorem symbol_any (K R:Nat) (va:Option Addr) (vn vc:Nat) (T:List Int) (u:Value) (ys:List Int) (w:World) (h:IntsAt w (.slice va vn vc) T) (hr:RuleOk K R T) (hu:IntsAt w u ys) (hy:Syms K ys) (hyl:ys.length=2*R+1) :
 Calls Tryz.prog 80 #[.agg #[.int .i64 K,.int .i64 R,.slice va vn vc],u] w (Ret1 (fun x _=>x=.int .i64 (T.getD (numW K ys) 0)) w):=by
 have hb0:=belowAlloc w (.cells #[.int .i64 K,.int .i64 R,.slice va vn vc] 24)
 have hR:=hr.r3
 have hk1:=hr.k1
 have hk4:=hr.k4
 have l1:=hu.len
 have hb7:ys.length≤7:=by omega
 have hnl:numW K ys<T.length:=by rw [hr.len,← hyl]; exact numW_lt ys hy
 generalize hy0:T.getD (numW K ys) 0=y0
 replace hy0:=Hd hy0
 replace hnl:=Hd hnl
 replace hyl:=Hd hyl
 replace h:=Hd (h.below hb0)
 replace hu:=Hd (hu.below hb0)
 replace hy:=Hd hy
 replace hr:=Hd hr
 obtain ⟨ua,un,uc,rfl⟩:=hu.out.shape
 go_enter Tryz.func80,Tryz.ntmps80
 go_wp2
 go_loop [5,10] (fun n i=>∃ j:Nat,j≤ys.length∧i=.int .i64 j∧n=.int .i64 (numW K (ys.take j))) (fun _ i=>ys.length-(intOf i).toNat)
 case atStart=>exact ⟨0,by omega,rfl,rfl⟩
 case round =>
  obtain ⟨j,hj,rfl,rfl⟩:=hrel
  by_cases hjl:j<ys.length
  ·have i1:=hu.out.idx j hjl
   have c1:=hu.out.cell j hjl
   have hx:=hy.out ys[j] (by simp)
   have hn:Hid (numW K (ys.take (j+1))=numW K (ys.take j)*K+ys[j].toNat):=by
    show _=_
    rw [take_snoc ys j hjl,numW_snoc]
   have hn2:numW K (ys.take j)≤16384:=by
    have h1:=numW_lt (ys.take j) (fun x hx=>hy.out x (List.mem_of_mem_take hx))
    have h2:=pw_le hk1 hk4 (i:=(ys.take j).length) (by simp; omega)
    omega
   generalize ys[j]=x at c1 hx hn
   generalize numW K (ys.take j)=N at hn hn2
   have hm1:0≤(N:Int)*(K:Int):=Int.mul_nonneg (by omega) (by omega)
   have hm2:(N:Int)*(K:Int)≤65536:=by
    have:N*K≤65536:=Nat.mul_le_mul hn2 hk4
    have h2:=Int.ofNat_le.2 this
    rw [Int.natCast_mul] at h2
    exact h2
   go_wp2
   go_round
   case rel=>exact ⟨j+1,by omega,by go_num,by rw [hn.out]; go_num⟩
   case measure=>simp [intOf]; omega
  ·obtain rfl:j=ys.length:=by omega
   rw [List.take_length]
   have i2:=h.out.idx (numW K ys) hnl.out
   have c2:=h.out.cellD (numW K ys) hnl.out
   rw [hy0.out] at c2
   clear hy0 hnl
   generalize numW K ys=N at i2 c2
   go_wp2
   go_ret
   exact ⟨_,rfl,hb0,rfl⟩
set_option maxHeartbeats 8000000
def madeP (K n:Nat) (s:List Int→Int) (m:Nat):List Int:=(List.range m).map fun x=>s (digs K n x)
theorem madeP_length (K n:Nat) (s:List Int→Int) (m:Nat):(madeP K n s m).length=m:=by simp [madeP]
theorem madeP_set (K n:Nat) (s:List Int→Int) (m P:Nat) (h:m<P):(madeP K n s m++List.replicate (P-m) (0:Int)).set m (s (digs K n m))=madeP K n s (m+1)++List.replicate (P-(m+1)) 0:=by
 rw [List.set_append_right _ _ (by rw [madeP_length]; exact Nat.le_refl _),madeP_length,Nat.sub_self,show P-m=(P-(m+1))+1 by omega,List.replicate_succ,List.set_cons_zero,madeP,madeP,List.range_succ,List.map_append,List.append_assoc]
 rfl
theorem made_two0 (K R F:Nat) (c1 c2:Value) (s:List Int→Int) (w:World) (hk1:1≤K) (hk4:K≤4) (hR:R≤3)
 (eg:∀ args w,(callFunc F args).run Tryz.prog w=.ok (.enter F args) w)
 (hF:∀ (v:Value) (ys:List Int) (w':World),Below w.heap.size w w'→IntsAt w' v ys→Syms K ys→ys.length=2*R+1→Calls Tryz.prog F #[v,c1,c2] w' (Ret1 (fun x _=>x=.int .i64 (s ys)) w')) :
 Calls Tryz.prog 76 #[.int .i64 K,.int .i64 R,.func (.func F) #[] #[c1,c2]] w (Ret1 (fun x w'=>∃ a n c,x=.agg #[.int .i64 K,.int .i64 R,.slice a n c]∧OwnI w.heap.size w' (.slice a n c) (madeP K (2*R+1) s (pw K (2*R+1)))) w):=by
 have hpl:=pw_le hk1 hk4 (i:=2*R+1) (by omega)
 replace hF:=Hd hF
 go_enter Tryz.func76,Tryz.ntmps76
 go_wp2_with fail
 refine (size_ok K R _ hk1 hk4 hR).mono ?_
 rintro e w' ⟨rfl,rfl⟩
 go_wp2_with fail
 have hb0:=belowAlloc w (.cells #[.int .i64 0,.int .i64 0,.slice none 0 0] 24)
 obtain ⟨tv,w1,hmk,ho1,hb1⟩:=run_makeI ((pw K (2*R+1):Nat):Int) (pw K (2*R+1)) (w.alloc (.cells #[.int .i64 0,.int .i64 0,.slice none 0 0] 24)) rfl (by omega)
 obtain ⟨ta,tn,tc,rfl⟩:=ho1.at.shape
 rw [hmk]
 simp only [Result.andThen]
 clear hmk
 generalize hN:2*R+1=N at *
 go_wp2_with fail
 obtain ⟨wv,w2,hmk2,ho2,hb2⟩:=run_makeI (2*(R:Int)+1) N (w1.alloc (.cells #[.int .i64 K,.int .i64 R,.slice ta tn tc] 24)) (by omega) (by omega)
 obtain ⟨wa,wn,wc,rfl⟩:=ho2.at.shape
 rw [hmk2]
 simp only [Result.andThen]
 clear hmk2
 obtain ⟨z0,z1,z2,-,-,-⟩:=cells3 hb2
 have lt:=(ho1.at.len)
 rw [List.length_replicate] at lt
 have hN7:N≤7:=by omega
 replace hN:=Hd hN
 have ltb:∀ k,(Value.slice ta tn tc).ownBlock=some k→k<w1.heap.size:=fun k hk=>(ho1.lt k hk).2
 have lwn:=ho2.at.len
 rw [List.length_replicate] at lwn
 have ho1':=Hd ((ho1.alloc (.cells #[.int .i64 K,.int .i64 R,.slice ta tn tc] 24)).below hb2)
 have zz:=Hd (And.intro z0 (And.intro z1 z2))
 have hbw:=Hd (hb1.trans ((Below.step (belowAlloc w1 (.cells #[.int .i64 K,.int .i64 R,.slice ta tn tc] 24)) hb2).mono hb1.size))
 replace ho2:=Hd ho2
 replace ltb:=Hd ltb
 have hsz1:=hb1.size
 simp at hsz1
 have hM:pw K N=pw K N:=rfl
 clear hM
 go_wp2
 go_loopw [32] (fun i wr=>∃ m:Nat,m≤pw K N∧i=.int .i64 m∧OwnI (w.heap.size+1) wr (.slice ta tn tc) (madeP K N s m++List.replicate (pw K N-m) 0)∧(∃ p:List Int,p.length=N∧OwnI (w1.heap.size+1) wr (.slice wa wn wc) p) ∧
  (wr.cell? ⟨w1.heap.size,0,none⟩=some (.int .i64 K)∧wr.cell? ⟨w1.heap.size,1,none⟩=some (.int .i64 R)∧wr.cell? ⟨w1.heap.size,2,none⟩=some (.slice ta tn tc)) ∧
  Below (w.heap.size+1) (w.alloc (.cells #[.int .i64 0,.int .i64 0,.slice none 0 0] 24)) wr) (fun i _=>pw K N-(intOf i).toNat)
 case atStart=>exact ⟨0,by omega,rfl,by simpa [madeP] using ho1'.out,⟨List.replicate N 0,by simp,by simpa using ho2.out⟩,zz.out,by simpa using hbw.out⟩
 case round =>
  obtain ⟨m,hm,rfl,hT,⟨p,hp,hP⟩,hz,hbO⟩:=hrel
  obtain ⟨wo,rfl⟩:∃ wo:World,wo=wr:=⟨_,rfl⟩
  replace hz:=Hd hz
  replace hT:=Hd hT
  by_cases hml:m<pw K N
  ·have hsz2:w1.heap.size<wo.heap.size:=World.block_lt_of_cell? _ _ hz.out.1
   have hK0:((K:Int)==0)=false:=by rw [beq_eq_false_iff_ne]; omega
   have hK1:¬ (K:Int)=0:=by omega
   have hK2:(0:Int)<K:=by omega
   go_wp2
   go_loopw [12,38] (fun x i wr=>∃ j:Nat,j≤N∧i=.int .i64 j∧x=.int .i64 (m/pw K j:Nat)∧OwnI (w1.heap.size+1) wr (.slice wa wn wc) (p.take (N-j)++(digs K N m).drop (N-j))∧Below (w1.heap.size+1) wo wr) (fun _ i _=>N-(intOf i).toNat)
   case atStart=>exact ⟨0,by omega,rfl,by simp [pw],by rw [Nat.sub_zero,List.drop_of_length_le (by rw [digs_length]; exact Nat.le_refl _),List.append_nil,List.take_of_length_le (by omega)]; exact hP,Below.refl _ _⟩
   case round =>
    obtain ⟨j,hj,rfl,rfl,hO,hbI⟩:=hrel
    obtain ⟨wi,rfl⟩:∃ wi:World,wi=wr:=⟨_,rfl⟩
    by_cases hjl:j<N
    ·have hXl:(p.take (N-j)++(digs K N m).drop (N-j)).length=N:=by simp [digs_length]; omega
     have i1:∀ w',(Instr.indexAt 22 (.slice wa wn wc) (.int .i64 ((N:Int)-1-(j:Int)))).run Tryz.prog w'=.ok (.pointer (some (valAt (.slice wa wn wc) (N-1-j)))) w':=by
      intro w'
      have:=hO.at.idxI ((N:Int)-1-(j:Int)) (by omega) (by rw [hXl]; omega) w'
      rwa [show ((N:Int)-1-(j:Int)).toNat=N-1-j by omega] at this
     have c1:=hO.at.cellD (N-1-j) (by rw [hXl]; omega)
     have f1:=hO.frz (N-1-j) (by rw [hXl]; omega)
     have hS:=hO.set (N-1-j) (by rw [hXl]; omega) ((m/pw K j%K:Nat):Int)
     have hbS:=hO.setBelow hbI (N-1-j) (by rw [hXl]; omega) (.int .i64 ((m/pw K j%K:Nat):Int))
     rw [digs_fill K N m j hjl p hp] at hS
     replace hS:=Hd hS
     replace hbS:=Hd hbS
     have hqd:m/pw K j/K=m/pw K (j+1):=by rw [Nat.div_div_eq_div_mul,← pw_succ]
     replace hqd:=Hd hqd
     have hql:m/pw K j≤16384:=Nat.le_trans (Nat.div_le_self _ _) (by omega)
     generalize (p.take (N-j)++(digs K N m).drop (N-j)).getD (N-1-j) 0=y at c1
     clear hXl hO
     generalize m/pw K j=q at *
     rw [Int.natCast_emod] at hS hbS
     have hd0:0≤(q:Int)/(K:Int):=Int.ediv_nonneg (by omega) (by omega)
     have hd1:(q:Int)/(K:Int)≤16384:=by
      have h1:q/K≤q:=Nat.div_le_self _ _
      have h2:q/K≤16384:=by omega
      exact_mod_cast h2
     have hdw:IntKind.i64.wrap ((q:Int)/(K:Int))=(q:Int)/(K:Int):=wrapK (by omega) (by omega)
     go_wp2
     go_roundw
     case rel=>exact ⟨j+1,by omega,by go_num,by rw [← hqd.out]; simp,hS.out,hbS.out⟩
     case measure=>simp [intOf]; omega
    ·have hjN:j=N:=by omega
     subst hjN
     rw [Nat.sub_self,List.take_zero,List.drop_zero,List.nil_append] at hO
     have hbW:Below w.heap.size w wi:=((belowAlloc w _).trans (hbO.mono (by omega))).trans (hbI.mono (by omega))
     have hz2:=hbI.cell (p:=⟨w1.heap.size,2,none⟩) (by simp)
     have hTl:m<(madeP K j s m++List.replicate (pw K j-m) (0:Int)).length:=by simp [madeP_length]; omega
     have hTi:=hT.out.belowB hbI (fun k hk=>by have:=ltb.out k hk; omega)
     have i2:=hTi.at.idx m hTl
     have c2:=hTi.at.cellD m hTl
     have f2:=hTi.frz m hTl
     have b2:=hTi.at.blk m hTl
     have z2i:=hz2.trans hz.out.2.2
     have zbi:(⟨w1.heap.size,2,none⟩:Addr).block<wi.heap.size:=World.block_lt_of_cell? _ _ z2i
     generalize (madeP K j s m++List.replicate (pw K j-m) (0:Int)).getD m 0=o at c2
     replace hTi:=Hd hTi
     replace hO:=Hd hO
     replace hbW:=Hd hbW
     replace hTl:=Hd hTl
     clear hz2
     have hvb:(valAt (.slice ta tn tc) m).block≠w1.heap.size:=by
      have:=ltb.out _ (hT.out.toV.blkB m (by simpa using hTl.out)).1
      omega
     have hdl:m+1≤pw K j:=hml
     go_wp2
     go_region_held3 (fun w'=>w'.cell? ⟨w1.heap.size,2,none⟩=some (.slice ta tn tc)) (go_keep)
      (first | (refine (hF.out _ (digs K j m) _ (by first | exact hbW.out.drew | exact hbW.out) (by first | exact hO.out.at.drew | exact hO.out.at) (digs_syms hk1 _ _) (by rw [digs_length])).mono ?_; rintro e w5 ⟨x5,rfl,hb5,rfl⟩; have y1:=(hb5.cell zbi).trans z2i; have y2:=(hb5.cell b2).trans c2; have y3:=(hb5.frozen b2).trans f2; have bb:Below wi.heap.size wi w5:=((Below.refl _ _).drew).trans hb5))
     have hT5:=(hTi.out.drew.below hb5).set m hTl.out (s (digs K j m))
     rw [madeP_set K j s m _ hml] at hT5
     have hO5:=(hO.out.drew.below hb5).setOther (hTi.out.drew.below hb5) (by
      intro e
      have e1:=(hT.out.toV.blkB m (by simpa using hTl.out)).1
      have e2:=(hO.out.lt _ (e.trans e1)).1
      have e3:=ltb.out _ e1
      omega) m hTl.out (.int .i64 (s (digs K j m)))
     have hB5:=((hbO.trans (hbI.mono (by omega))).trans (bb.mono (by omega))).setCell ((hTi.out.blkB m hTl.out)) (.int .i64 (s (digs K j m)))
     have x0:=(World.cell?_setCell_far w5 (valAt (.slice ta tn tc) m) ⟨w1.heap.size,0,none⟩ (.int .i64 (s (digs K j m))) hvb).trans (((bb.cell (p:=⟨w1.heap.size,0,none⟩) zbi)).trans ((hbI.cell (p:=⟨w1.heap.size,0,none⟩) (by simp)).trans hz.out.1))
     have x1:=(World.cell?_setCell_far w5 (valAt (.slice ta tn tc) m) ⟨w1.heap.size,1,none⟩ (.int .i64 (s (digs K j m))) hvb).trans (((bb.cell (p:=⟨w1.heap.size,1,none⟩) zbi)).trans ((hbI.cell (p:=⟨w1.heap.size,1,none⟩) (by simp)).trans hz.out.2.1))
     have x2:=(World.cell?_setCell_far w5 (valAt (.slice ta tn tc) m) ⟨w1.heap.size,2,none⟩ (.int .i64 (s (digs K j m))) hvb).trans y1
     have xx:=Hd (And.intro x0 (And.intro x1 x2))
     clear x0 x1 x2
     replace hT5:=Hd hT5
     replace hO5:=Hd hO5
     replace hB5:=Hd hB5
     go_wp2
     go_roundw
     case rel=>exact ⟨m+1,by omega,by go_num,hT5.out,⟨digs K j m,digs_length ..,hO5.out⟩,xx.out,hB5.out⟩
     case measure=>simp [intOf]; omega
  ·obtain rfl:m=pw K N:=by omega
   rw [Nat.sub_self,List.replicate_zero,List.append_nil] at hT
   obtain ⟨z0,z1,z2⟩:=hz.out
   obtain ⟨y0,y1,y2,f0,f1,f2⟩:=cells3 (w:=w) (show Below (w.alloc (.cells #[.int .i64 0,.int .i64 0,.slice none 0 0] 24)).heap.size _ wo by simpa using hbO)
   replace hbO:=Hd hbO
   go_wp2
   refine bodyPost_ret (v:=.agg #[.int .i64 K,.int .i64 R,.slice ta tn tc]) (by simp [results,Tryz.results76,go_sem,y0,y1,y2]) rfl ⟨_,rfl,?_,ta,tn,tc,rfl,?_⟩
   ·exact (((belowAlloc w _).trans (hbO.out.mono (by omega))).setCell (by simp) _).setCell (by simp) _ |>.setCell (by simp) _
   ·rw [hN.out]; exact (((hT.out.setBelowBase (a:=⟨w.heap.size,0,none⟩) (by simp) _).setBelowBase (a:=⟨w.heap.size,1,none⟩) (by simp) _).setBelowBase (a:=⟨w.heap.size,2,none⟩) (by simp) _).mono (Nat.le_succ _)
theorem made_two (K R F:Nat) (c1 c2:Value) (s:List Int→Int) (w:World) (hk1:1≤K) (hk4:K≤4) (hR:R≤3) (Ri:Int) (hRi:Ri=R)
 (eg:∀ args w,(callFunc F args).run Tryz.prog w=.ok (.enter F args) w)
 (hF:∀ (v:Value) (ys:List Int) (w':World),Below w.heap.size w w'→IntsAt w' v ys→Syms K ys→ys.length=2*R+1→Calls Tryz.prog F #[v,c1,c2] w' (Ret1 (fun x _=>x=.int .i64 (s ys)) w')) :
 Calls Tryz.prog 76 #[.int .i64 K,.int .i64 Ri,.func (.func F) #[] #[c1,c2]] w (Ret1 (fun x w'=>∃ a n c,x=.agg #[.int .i64 K,.int .i64 R,.slice a n c]∧OwnI w.heap.size w' (.slice a n c) (madeP K (2*R+1) s (pw K (2*R+1)))) w):=by
 subst hRi
 exact made_two0 K R F c1 c2 s w hk1 hk4 hR eg hF
end Go.Proofs.YtncpnaoabkjegaaGreatDoor
namespace Go.Proofs.YtncpnaoabkjegaaGreatDoor
open Go.RowKit
set_option maxRecDepth 100000
abbrev zR:Value:=.agg #[.int .i64 0,.int .i64 0,.slice none 0 0]
def sForms:ByteArray:=⟨#[102,111,114,109,115]⟩
theorem forms_check (r:Nat→Addr) (at_:Int) (k R:Int) (va:Option Addr) (vn vc:Nat) (xs:List Int) (w:World) (hg:Glob r w) (h:IntsAt w (.slice va vn vc) xs) :
 Calls Tryz.prog 73 #[.int .i64 at_,.agg #[.int .i64 k,.int .i64 R,.slice va vn vc]] w (Ret1 (fun x w'=>ErrIs r w' (under sForms at_ (checkP k R xs)) x) w):=by
 have hb0:=belowAlloc w (.cells #[.int .i64 k,.int .i64 R,.slice va vn vc] 24)
 replace hg:=Hd (hg.below hb0)
 replace h:=Hd (h.below hb0)
 go_enter Tryz.func73,Tryz.ntmps73
 go_wp2_with fail
 refine (check_any r k R _ xs _ hg.out h.out).mono ?_
 rintro e w1 ⟨x,rfl,hb,he⟩
 go_wp2_with fail
 refine (under_any r _ _ _ _ _ he).mono ?_
 rintro e w2 ⟨x,rfl,hb',he⟩
 go_wp2
 go_ret
 exact ⟨_,rfl,Below.step hb0 (Below.step hb hb'),he⟩
end Go.Proofs.YtncpnaoabkjegaaGreatDoor
namespace Go.Proofs.YtncpnaoabkjegaaGreatDoor
open Go.RowKit
theorem IntsAt.piece {w:World} {a:Option Addr} {cap:Nat} {xs:List Int} (h:IntsAt w (.slice a xs.length cap) xs) (k l:Nat) (hk:k≤l) (hl:l≤xs.length) :
 IntsAt w (sliced a k l cap 1) ((xs.take l).drop k):=by
 obtain ⟨a',cap',e,h1,h2,h3,h4⟩:=h
 injection e with e1 _ e3
 subst e1 e3
 have hlen:((xs.take l).drop k).length=l-k:=by simp; omega
 refine ⟨if cap=k then a else a.map (·.add (k*1)),cap-k,by rw [hlen]; rfl,by rw [hlen]; omega,by omega,?_,fun i hi=>?_⟩
 ·intro hn
  by_cases hc:cap=k
  ·omega
  ·rw [if_neg hc] at hn
   have:=h3 (Option.map_eq_none_iff.1 hn)
   omega
 ·rw [hlen] at hi
  have hc:¬ cap=k:=by omega
  show w.cell? (valAt (.slice (if cap=k then a else a.map (·.add (k*1))) _ _) i)=_
  rw [if_neg hc]
  cases a with
  | none=>have:=h3 rfl; omega
  | some p =>
   have h5:=h4 (k+i) (by omega)
   simp only [valAt] at h5
   show w.cell? ((p.add (k*1)).add i)=_
   rw [Nat.mul_one,show (p.add k).add i=p.add (k+i) by unfold Addr.add; by_cases hk0:k=0<;>by_cases hi0:i=0<;>simp [hk0,hi0,Nat.add_assoc],h5]
   simp
theorem IntsAt.post {w:World} {v:Value} {xs:List Int} (h:IntsAt w v xs) (k:Nat) (hk:k≤xs.length) :
 ∃ u,(∀ w',(Instr.slice 22 v (some (.int .i64 k)) none none).run Tryz.prog w'=.ok u w')∧IntsAt w u (xs.drop k):=by
 have h':=h
 obtain ⟨a,cap,rfl,_⟩:=h'
 refine ⟨sliced a k xs.length cap 1,fun w'=>?_,?_⟩
 ·rw [run_slice_l w' 22 a xs.length cap uIntsE .i64 k (by omega) (by omega),eInts,sInt]
  rfl
 ·have:=h.piece k xs.length hk (Nat.le_refl _)
  rwa [List.take_length] at this
theorem IntsAt.mid {w:World} {v:Value} {xs:List Int} (h:IntsAt w v xs) (k l:Nat) (hk:k≤l) (hl:l≤xs.length) :
 ∃ u,(∀ w',(Instr.slice 22 v (some (.int .i64 k)) (some (.int .i64 l)) none).run Tryz.prog w'=.ok u w')∧IntsAt w u ((xs.take l).drop k):=by
 have h':=h
 obtain ⟨a,cap,rfl,h1,_⟩:=h'
 refine ⟨sliced a k l cap 1,fun w'=>?_,h.piece k l hk hl⟩
 rw [run_slice_lh w' 22 a xs.length cap uIntsE .i64 .i64 k l (by omega) (by omega) (by omega),eInts,sInt]
 rfl
theorem IntsAt.front {w:World} {v:Value} {xs:List Int} (h:IntsAt w v xs) (l:Nat) (hl:l≤xs.length) :
 ∃ u,(∀ w',(Instr.slice 22 v none (some (.int .i64 l)) none).run Tryz.prog w'=.ok u w')∧IntsAt w u (xs.take l):=by
 have h':=h
 obtain ⟨a,cap,rfl,h1,_⟩:=h'
 refine ⟨sliced a 0 l cap 1,fun w'=>?_,?_⟩
 ·rw [run_slice_h w' 22 a xs.length cap uIntsE .i64 l (by omega) (by omega),eInts,sInt]
  rfl
 ·have:=h.piece 0 l (Nat.zero_le _) hl
  simpa using this
set_option maxRecDepth 100000
set_option maxHeartbeats 8000000
theorem widened1_any (K R d:Nat) (va:Option Addr) (vn vc:Nat) (T:List Int) (p q:Nat) (v:Value) (ys:List Int) (w:World)
 (h:IntsAt w (.slice va vn vc) T) (hr:RuleOk K R T) (hv:IntsAt w v ys) (hy:Syms K ys) (hyl:ys.length=2*(R+d)+1)
 (hRd:R+d≤3)
 (x0:w.cell? ⟨p,0,none⟩=some (.int .i64 K)) (x1:w.cell? ⟨p,1,none⟩=some (.int .i64 R)) (x2:w.cell? ⟨p,2,none⟩=some (.slice va vn vc)) (x3:w.cell? ⟨q,0,none⟩=some (.int .i64 d)) :
 Calls Tryz.prog 155 #[v,.pointer (some ⟨p,0,none⟩),.pointer (some ⟨q,0,none⟩)] w (Ret1 (fun x _=>x=.int .i64 (T.getD (numW K ((ys.drop d).take (2*R+1))) 0)) w):=by
 have lv:=hv.len
 obtain ⟨u,hu,hiu⟩:=hv.mid d (ys.length-d) (by omega) (by omega)
 have eL:(ys.take (ys.length-d)).drop d=(ys.drop d).take (2*R+1):=by
  rw [List.drop_take]; congr 1; omega
 rw [eL] at hiu
 have hD:(ys.length:Int)-(d:Int)=((ys.length-d:Nat):Int):=by omega
 have hle:ys.length≤7:=by omega
 have hsy:Syms K ((ys.drop d).take (2*R+1)):=syms_take (syms_drop hy _) _
 have hsl:((ys.drop d).take (2*R+1)).length=2*R+1:=by simp; omega
 generalize hY:T.getD (numW K ((ys.drop d).take (2*R+1))) 0=Y
 generalize (ys.drop d).take (2*R+1)=zs at *
 obtain ⟨e,hee⟩:∃ e,ys.length-d=e:=⟨_,rfl⟩
 rw [hee] at hD hu
 have he7:e≤7:=by omega
 have hwe:IntKind.i64.wrap (e:Int)=e:=wrapK (by omega) (by omega)
 obtain ⟨L,hL⟩:∃ L,ys.length=L:=⟨_,rfl⟩
 rw [hL] at lv hD hle
 have hd3:d≤3:=by omega
 replace hY:=Hd hY
 replace h:=Hd h
 replace hv:=Hd hv
 replace hy:=Hd hy
 replace hsy:=Hd hsy
 replace hsl:=Hd hsl
 replace hyl:=Hd hyl
 replace hr:=Hd hr
 replace hiu:=Hd hiu
 replace hL:=Hd hL
 clear hee eL
 go_enter Tryz.func155,Tryz.ntmps155
 go_upto_region 1 with fail
 refine wp_region_plan (fun w'=>w'.cell? ⟨p,0,none⟩=some (.int .i64 K)∧w'.cell? ⟨p,1,none⟩=some (.int .i64 R)∧w'.cell? ⟨p,2,none⟩=some (.slice va vn vc)∧w'.cell? ⟨q,0,none⟩=some (.int .i64 d)) 9 [(0,true),(1,true),(2,true),(3,true),(4,true),(5,true),(6,true),(7,true),(8,false)] (by kernel_rfl) (by kernel_rfl) ?_
 have hS:w.drew.cell? ⟨p,0,none⟩=some (.int .i64 K)∧w.drew.cell? ⟨p,1,none⟩=some (.int .i64 R)∧w.drew.cell? ⟨p,2,none⟩=some (.slice va vn vc)∧w.drew.cell? ⟨q,0,none⟩=some (.int .i64 d):=⟨x0,x1,x2,x3⟩
 refine pqY 5 hS ?_
 refine pqY 6 hS ?_
 refine pqY 7 hS ?_
 refine pqY 8 hS ?_
 refine pqY 9 hS ?_
 refine pqY 10 hS ?_
 refine pqY 11 hS ?_
 refine pqY 12 hS ?_
 refine headC rfl (fun KK hK=>?_)
 go_simp
 refine (symbol_any K R va vn vc T u zs _ h.out.drew hr.out hiu.out.drew hsy.out hsl.out).mono ?_
 rintro e w1 ⟨x,rfl,b1,rfl⟩
 rw [hY.out]
 have hS1:w1.cell? ⟨p,0,none⟩=some (.int .i64 K)∧w1.cell? ⟨p,1,none⟩=some (.int .i64 R)∧w1.cell? ⟨p,2,none⟩=some (.slice va vn vc)∧w1.cell? ⟨q,0,none⟩=some (.int .i64 d):=⟨cell_keep b1 hS.1,cell_keep b1 hS.2.1,cell_keep b1 hS.2.2.1,cell_keep b1 hS.2.2.2⟩
 refine hK _ _ hS1 ?_
 clear hK KK
 refine head0 ?_
 simp only [List.drop_succ_cons,List.drop_zero]
 clear hS hS1
 go_wp2
 refine NoPanic.normal ?_
 go_wp2
 go_ret
 exact ⟨_,rfl,Below.step ((Below.refl _ _).drew) b1,rfl⟩
theorem eg_widened1 (args:Array Value) (w:World):(callFunc 155 args).run Tryz.prog w=.ok (.enter 155 args) w:=by kernel_rfl
theorem madeP_wide (K R d:Nat) (T:List Int):madeP K (2*(R+d)+1) (fun ys=>T.getD (numW K ((ys.drop d).take (2*R+1))) 0) (pw K (2*(R+d)+1))=wideT K R d T:=rfl
theorem widened_any (K R d:Nat) (va:Option Addr) (vn vc:Nat) (T:List Int) (w:World) (h:IntsAt w (.slice va vn vc) T) (hr:RuleOk K R T) (hRd:R+d≤3) (Ri:Int) (hRi:Ri=((R+d:Nat):Int)) :
 Calls Tryz.prog 74 #[.agg #[.int .i64 K,.int .i64 R,.slice va vn vc],.int .i64 Ri] w (Ret1 (fun x w'=>∃ a n c,x=.agg #[.int .i64 K,.int .i64 ((R+d:Nat):Int),.slice a n c]∧OwnI w.heap.size w' (.slice a n c) (wideT K R d T)) w):=by
 have b0:=Below.step (belowAlloc w (.cells #[.int .i64 K,.int .i64 R,.slice va vn vc] 24)) (belowAlloc _ (.cells #[.int .i64 0,.int .i64 0,.slice none 0 0] 24))
 have b3:=Below.step b0 (belowAlloc _ (.cells #[.int .i64 d] 3))
 have q1:Box3 (((w.alloc (.cells #[.int .i64 K,.int .i64 R,.slice va vn vc] 24)).alloc (.cells #[.int .i64 0,.int .i64 0,.slice none 0 0] 24)).alloc (.cells #[.int .i64 d] 3)) w.heap.size (.int .i64 K) (.int .i64 R) (.slice va vn vc):=by simp [Box3,go_sem]
 have q2:Box3 (((w.alloc (.cells #[.int .i64 K,.int .i64 R,.slice va vn vc] 24)).alloc (.cells #[.int .i64 0,.int .i64 0,.slice none 0 0] 24)).alloc (.cells #[.int .i64 d] 3)) (w.heap.size+1) (.int .i64 0) (.int .i64 0) (.slice none 0 0):=by simp [Box3,go_sem]
 have q3:(((w.alloc (.cells #[.int .i64 K,.int .i64 R,.slice va vn vc] 24)).alloc (.cells #[.int .i64 0,.int .i64 0,.slice none 0 0] 24)).alloc (.cells #[.int .i64 d] 3)).cell? ⟨w.heap.size+2,0,none⟩=some (.int .i64 d):=by simp [go_sem]
 have hk1:=hr.k1
 have hk4:=hr.k4
 have hR3:=hr.r3
 have hsub:Ri-(R:Int)=(d:Int):=by omega
 have hRi3:0≤Ri∧Ri≤3:=by omega
 have h3:=h.below b3
 obtain ⟨W3,hW3⟩:∃ W3:World,W3=((w.alloc (.cells #[.int .i64 K,.int .i64 R,.slice va vn vc] 24)).alloc (.cells #[.int .i64 0,.int .i64 0,.slice none 0 0] 24)).alloc (.cells #[.int .i64 d] 3):=⟨_,rfl⟩
 have s3:W3.heap.size=w.heap.size+3:=by rw [hW3]; simp
 rw [← hW3] at b3 q1 q2 q3 h3
 replace hRi:=Hd hRi
 replace hr:=Hd hr
 replace hW3:=Hd hW3
 replace s3:=Hd s3
 replace q2:=Hd q2
 replace h3:=Hd h3
 go_enter Tryz.func74,Tryz.ntmps74
 go_wp2_with fail
 rw [← hW3.out]
 refine (made_two K (R+d) _ (.pointer (some ⟨w.heap.size,0,none⟩)) (.pointer (some ⟨w.heap.size+2,0,none⟩)) (fun ys=>T.getD (numW K ((ys.drop d).take (2*R+1))) 0) W3 hk1 hk4 hRd Ri hRi.out eg_widened1 (fun v ys w' hB hv hy hyl=>by
  have q11:=q1.below hB
  exact widened1_any K R d va vn vc T _ _ v ys w' (h3.out.below hB) hr.out hv hy hyl hRd q11.1.1 q11.1.2.1 q11.1.2.2 (cell_keep hB q3))).mono ?_
 rintro e w4 ⟨x,rfl,b4,a,n,c,rfl,ho⟩
 rw [madeP_wide] at ho
 obtain ⟨⟨y0,y1,y2⟩,f0,f1,f2⟩:=q2.out.below b4
 replace ho:=Hd ho
 clear q1 q3
 go_wp2
 refine bodyPost_ret (v:=.agg #[.int .i64 K,.int .i64 ((R+d:Nat):Int),.slice a n c]) (by simp [results,Tryz.results74,go_sem,y0,y1,y2]) rfl ⟨_,rfl,below_set3 (Below.step b3 b4) (Nat.le_succ _) _ _ _,a,n,c,rfl,?_⟩
 have:=s3.out
 exact (((ho.out.setBelowBase (a:=⟨w.heap.size+1,0,none⟩) (by simp; omega) _).setBelowBase (a:=⟨w.heap.size+1,1,none⟩) (by simp; omega) _).setBelowBase (a:=⟨w.heap.size+1,2,none⟩) (by simp; omega) _).mono (by omega)
theorem fwiden_ok (r:Nat→Addr) (K R d:Nat) (va:Option Addr) (vn vc:Nat) (T:List Int) (w:World) (hg:Glob r w) (h:IntsAt w (.slice va vn vc) T) (hr:RuleOk K R T) (hRd:R+d≤3) (Ri:Int) (hRi:Ri=((R+d:Nat):Int)) :
 Calls Tryz.prog 180 #[.agg #[.int .i64 K,.int .i64 R,.slice va vn vc],.int .i64 Ri] w (Ret2 (fun x y w'=>y=.nilIface∧∃ a n c,x=.agg #[.int .i64 K,.int .i64 ((R+d:Nat):Int),.slice a n c]∧OwnI w.heap.size w' (.slice a n c) (wideT K R d T)) w):=by
 have b0:=Below.step (belowAlloc w (.cells #[.int .i64 K,.int .i64 R,.slice va vn vc] 24)) (belowAlloc _ (.cells #[.int .i64 0,.int .i64 0,.slice none 0 0] 24))
 have q2:Box3 ((w.alloc (.cells #[.int .i64 K,.int .i64 R,.slice va vn vc] 24)).alloc (.cells #[.int .i64 0,.int .i64 0,.slice none 0 0] 24)) (w.heap.size+1) (.int .i64 0) (.int .i64 0) (.slice none 0 0):=by simp [Box3,go_sem]
 have q1:Box3 ((w.alloc (.cells #[.int .i64 K,.int .i64 R,.slice va vn vc] 24)).alloc (.cells #[.int .i64 0,.int .i64 0,.slice none 0 0] 24)) w.heap.size (.int .i64 K) (.int .i64 R) (.slice va vn vc):=by simp [Box3,go_sem]
 have hk1:=hr.k1
 have hk4:=hr.k4
 have hR3:=hr.r3
 have hck:=Hd hr.check
 have h1:R≤Ri:=by omega
 have h2:Ri≤3:=by omega
 have h1d:decide (Ri<(R:Int))=false:=by simp; omega
 have h2d:decide ((3:Int)<Ri)=false:=by simp; omega
 replace hRi:=Hd hRi
 replace hg:=Hd (hg.below b0)
 replace h:=Hd (h.below b0)
 replace hr:=Hd hr
 replace q1:=Hd q1
 replace q2:=Hd q2
 go_enter Tryz.func180,Tryz.ntmps180
 go_wp2_with fail
 refine (forms_check r _ K R va vn vc T _ hg.out h.out).mono ?_
 rintro e w1 ⟨x,rfl,hb,he⟩
 rw [hck.out] at he
 obtain rfl:=ErrIs.none_eq he
 have q11:=q1.out.below hb
 obtain ⟨⟨z0,z1,z2⟩,-,-,-⟩:=q11
 have s1:=hb.size
 simp only [World.size_alloc] at s1
 replace s1:=Hd s1
 go_wp2_with fail
 refine (widened_any K R d va vn vc T w1 (h.out.below hb) hr.out hRd Ri hRi.out).mono ?_
 rintro e w2 ⟨x,rfl,b2,a,n,c,rfl,ho⟩
 obtain ⟨⟨y0,y1,y2⟩,f0,f1,f2⟩:=q2.out.below (Below.step hb b2)
 replace ho:=Hd ho
 clear z0 z1 z2
 go_wp2
 refine bodyPost_ret (v:=.tuple #[.agg #[.int .i64 K,.int .i64 ((R+d:Nat):Int),.slice a n c],.nilIface]) (by simp [results,Tryz.results180,go_sem,y0,y1,y2]) rfl ⟨_,_,rfl,below_set3 (Below.step b0 (Below.step hb b2)) (Nat.le_succ _) _ _ _,rfl,a,n,c,rfl,?_⟩
 have:=s1.out
 exact (((ho.out.setBelowBase (a:=⟨w.heap.size+1,0,none⟩) (by simp; omega) _).setBelowBase (a:=⟨w.heap.size+1,1,none⟩) (by simp; omega) _).setBelowBase (a:=⟨w.heap.size+1,2,none⟩) (by simp; omega) _).mono (by omega)
def wkR (R:Nat):Nat:=if R=0 then 1 else R
def wkT (K R:Nat) (T:List Int):List Int:=if R=0 then wideT K 0 1 T else T
theorem wk_ok {K R:Nat} {T:List Int} (h:RuleOk K R T):RuleOk K (wkR R) (wkT K R T):=by
 unfold wkR wkT
 by_cases e:R=0
 ·subst e; rw [if_pos rfl,if_pos rfl]; exact wideT_ok (d:=1) h (by decide)
 ·rw [if_neg e,if_neg e]; exact h
theorem wk_pos (R:Nat):1≤wkR R:=by unfold wkR; split<;>omega
theorem wk_small {K R:Nat} {T:List Int} (h:RuleOk K R T) (hl:T.length≤256):(wkT K R T).length≤256:=by
 unfold wkT
 by_cases e:R=0
 ·subst e; rw [if_pos rfl,wideT_length]
  have h4:=h.k4
  have:pw K 3≤pw 4 3:=Nat.pow_le_pow_left h4 3
  have e4:pw 4 3=64:=by decide
  have:pw K (2*(0+1)+1)=pw K 3:=rfl
  omega
 ·rw [if_neg e]; exact hl
theorem nodes_le {K R:Nat} {T:List Int} (h:RuleOk K R T) (hR:1≤R) (hl:T.length≤256):pw K (2*R)≤81:=by
 have h1:=h.k1
 have h4:=h.k4
 have h3:=h.r3
 rw [h.len] at hl
 have hK:K=1∨K=2∨K=3∨K=4:=by omega
 have hR':R=1∨R=2∨R=3:=by omega
 rcases hK with rfl | rfl | rfl | rfl<;>rcases hR' with rfl | rfl | rfl<;>revert hl<;>decide
theorem working_bad (r:Nat→Addr) (k R:Int) (va:Option Addr) (vn vc:Nat) (T:List Int) (t:Int×List (ByteArray×Int)) (w:World) (hg:Glob r w) (h:IntsAt w (.slice va vn vc) T) (hc:smallP k R T=some t) :
 Calls Tryz.prog 111 #[.agg #[.int .i64 k,.int .i64 R,.slice va vn vc]] w (Ret2 (fun x y w'=>x=zR∧ErrIs r w' (under sPairs 0 (some t)) y) w):=by
 have b0:=Below.step (belowAlloc w (.cells #[.int .i64 k,.int .i64 R,.slice va vn vc] 24)) (belowAlloc _ (.cells #[.int .i64 0,.int .i64 0,.slice none 0 0] 24))
 have q2:Box3 ((w.alloc (.cells #[.int .i64 k,.int .i64 R,.slice va vn vc] 24)).alloc (.cells #[.int .i64 0,.int .i64 0,.slice none 0 0] 24)) (w.heap.size+1) (.int .i64 0) (.int .i64 0) (.slice none 0 0):=by simp [Box3,go_sem]
 replace hg:=Hd (hg.below b0)
 replace h:=Hd (h.below b0)
 replace hc:=Hd hc
 replace q2:=Hd q2
 go_enter Tryz.func111,Tryz.ntmps111
 go_wp2_with fail
 refine (small_any r k R va vn vc T _ hg.out h.out).mono ?_
 rintro e w1 ⟨x,rfl,b1,he⟩
 rw [hc.out] at he
 have he':=he
 obtain ⟨T1,a1,rfl⟩:=ErrIs.some_shape he
 replace he:=Hd he
 replace he':=Hd he'
 go_wp2_with fail
 refine (under_any r _ 0 _ _ w1 he'.out).mono ?_
 rintro e w2 ⟨y,rfl,b2,hy⟩
 obtain ⟨T2,a2,rfl⟩:∃ T a,y=.iface T (.pointer (some a)):=by
  unfold under at hy
  exact ErrIs.some_shape hy
 obtain ⟨⟨y0,y1,y2⟩,f0,f1,f2⟩:=q2.out.below (Below.step b1 b2)
 replace hy:=Hd hy
 go_wp2
 rw [setCell_self3 y0 y1 y2]
 exact bodyPost_ret (v:=.tuple #[zR,.iface T2 (.pointer (some a2))]) (by simp [results,Tryz.results111,go_sem,y0,y1,y2]) rfl ⟨_,_,rfl,Below.step b0 (Below.step b1 b2),rfl,hy.out⟩
theorem working_ok (r:Nat→Addr) (K R:Nat) (va:Option Addr) (vn vc:Nat) (T:List Int) (w:World) (hg:Glob r w) (h:IntsAt w (.slice va vn vc) T) (hr:RuleOk K R T) (hl:T.length≤256) :
 Calls Tryz.prog 111 #[.agg #[.int .i64 K,.int .i64 R,.slice va vn vc]] w (Ret2 (fun x y w'=>y=.nilIface∧∃ a n c,x=.agg #[.int .i64 K,.int .i64 (wkR R),.slice a n c]∧IntsAt w' (.slice a n c) (wkT K R T)) w):=by
 have b0:=Below.step (belowAlloc w (.cells #[.int .i64 K,.int .i64 R,.slice va vn vc] 24)) (belowAlloc _ (.cells #[.int .i64 0,.int .i64 0,.slice none 0 0] 24))
 have q2:Box3 ((w.alloc (.cells #[.int .i64 K,.int .i64 R,.slice va vn vc] 24)).alloc (.cells #[.int .i64 0,.int .i64 0,.slice none 0 0] 24)) (w.heap.size+1) (.int .i64 0) (.int .i64 0) (.slice none 0 0):=by simp [Box3,go_sem]
 have q1:Box3 ((w.alloc (.cells #[.int .i64 K,.int .i64 R,.slice va vn vc] 24)).alloc (.cells #[.int .i64 0,.int .i64 0,.slice none 0 0] 24)) w.heap.size (.int .i64 K) (.int .i64 R) (.slice va vn vc):=by simp [Box3,go_sem]
 have hs:=Hd (smallP_small hr hl)
 have h0:=Hd h
 have hs0:w.heap.size+1<((w.alloc (.cells #[.int .i64 K,.int .i64 R,.slice va vn vc] 24)).alloc (.cells #[.int .i64 0,.int .i64 0,.slice none 0 0] 24)).heap.size:=by simp
 replace hg:=Hd (hg.below b0)
 replace h:=Hd (h.below b0)
 replace hr:=Hd hr
 replace q1:=Hd q1
 replace q2:=Hd q2
 replace hs0:=Hd hs0
 by_cases hR:R=0
 ·have e1:wkR R=R+1:=by unfold wkR; rw [if_pos hR,hR]
  have e2:wkT K R T=wideT K R 1 T:=by unfold wkT; rw [if_pos hR,hR]
  have hRq:((R:Int)==0)=true:=by simp [hR]
  rw [e1,e2]
  replace hR:=Hd hR
  clear e1 e2
  go_enter Tryz.func111,Tryz.ntmps111
  go_wp2_with fail
  refine (small_any r K R va vn vc T _ hg.out h.out).mono ?_
  rintro e w1 ⟨x,rfl,b1,he⟩
  rw [hs.out] at he
  obtain rfl:=ErrIs.none_eq he
  have q11:=q1.out.below b1
  obtain ⟨⟨z0,z1,z2⟩,-,-,-⟩:=q11
  go_wp2_with fail
  refine (fwiden_ok r K R 1 va vn vc T w1 (hg.out.below b1) (h.out.below b1) hr.out (by have:=hR.out; omega) 1 (by have:=hR.out; simp [this])).mono ?_
  rintro e w2 ⟨x,y,rfl,b2,rfl,a,n,c,rfl,ho⟩
  obtain ⟨⟨y0,y1,y2⟩,f0,f1,f2⟩:=q2.out.below (Below.step b1 b2)
  replace ho:=Hd ho
  clear z0 z1 z2
  go_wp2
  refine bodyPost_ret (v:=.tuple #[.agg #[.int .i64 K,.int .i64 ((R+1:Nat):Int),.slice a n c],.nilIface]) (by simp [results,Tryz.results111,go_sem,y0,y1,y2]) rfl ⟨_,_,rfl,below_set3 (Below.step b0 (Below.step b1 b2)) (Nat.le_succ _) _ _ _,rfl,a,n,c,rfl,?_⟩
  have s1:=hs0.out
  have s2:=b1.size
  exact (((ho.out.setBelowBase (a:=⟨w.heap.size+1,0,none⟩) (Nat.lt_of_lt_of_le s1 s2) _).setBelowBase (a:=⟨w.heap.size+1,1,none⟩) (Nat.lt_of_lt_of_le s1 s2) _).setBelowBase (a:=⟨w.heap.size+1,2,none⟩) (Nat.lt_of_lt_of_le s1 s2) _).at
 ·have e1:wkR R=R:=by unfold wkR; rw [if_neg hR]
  have e2:wkT K R T=T:=by unfold wkT; rw [if_neg hR]
  have hRq:((R:Int)==0)=false:=by rw [beq_eq_false_iff_ne]; omega
  have hR':¬ (R:Int)=0:=by omega
  rw [e1,e2]
  clear e1 e2
  go_enter Tryz.func111,Tryz.ntmps111
  go_wp2_with fail
  refine (small_any r K R va vn vc T _ hg.out h.out).mono ?_
  rintro e w1 ⟨x,rfl,b1,he⟩
  rw [hs.out] at he
  obtain rfl:=ErrIs.none_eq he
  have q11:=q1.out.below b1
  obtain ⟨⟨z0,z1,z2⟩,-,-,-⟩:=q11
  obtain ⟨⟨y0,y1,y2⟩,f0,f1,f2⟩:=q2.out.below b1
  have b01:=Below.step b0 b1
  have hTW:=h0.out.below (below_set3 b01 (Nat.le_succ _) (.int .i64 K) (.int .i64 R) (.slice va vn vc))
  replace hTW:=Hd hTW
  go_wp2
  refine bodyPost_ret (v:=.tuple #[.agg #[.int .i64 K,.int .i64 R,.slice va vn vc],.nilIface]) (by simp [results,Tryz.results111,go_sem,y0,y1,y2]) rfl ⟨_,_,rfl,below_set3 b01 (Nat.le_succ _) _ _ _,rfl,va,vn,vc,rfl,hTW.out⟩
theorem dm (p N:Nat) (hp:p≤100000000):(p:Int).tdiv (N:Int)=((p/N:Nat):Int)∧(p:Int).tmod (N:Int)=((p%N:Nat):Int)∧(p:Int)/(N:Int)=((p/N:Nat):Int)∧(p:Int)%(N:Int)=((p%N:Nat):Int) ∧
 IntKind.i64.wrap ((p/N:Nat):Int)=((p/N:Nat):Int)∧IntKind.i64.wrap ((p%N:Nat):Int)=((p%N:Nat):Int):=by
 have h1:p/N≤p:=Nat.div_le_self _ _
 have h2:p%N≤p:=Nat.mod_le _ _
 refine ⟨by rw [Int.tdiv_eq_ediv_of_nonneg (by omega)]; simp,by rw [Int.tmod_eq_emod_of_nonneg (by omega)]; simp,by simp,by simp,?_,?_⟩
 ·generalize p/N=a at *; exact wrapK (by omega) (by omega)
 ·generalize p%N=a at *; exact wrapK (by omega) (by omega)
theorem words1_any (x:Int) (b N:Nat) (w:World) (hN:N≤10000) (hb:w.cell? ⟨b,0,none⟩=some (.int .i64 N)) :
 Calls Tryz.prog 118 #[.int .i64 x,.pointer (some ⟨b,0,none⟩)] w fun e w'=>e=.returned (.bool (odd1 ((N*N:Nat):Int) x))∧w=w':=by
 have hM:(N:Int)*(N:Int)=((N*N:Nat):Int):=by simp
 have hM2:=Nat.mul_le_mul hN hN
 by_cases h:x<0
 ·have e:odd1 ((N*N:Nat):Int) x=true:=by simp [odd1,h]
  rw [e]
  clear hM hM2
  go_enter Tryz.func118,Tryz.ntmps118
  go_wp2
  go_ret
  exact ⟨rfl,rfl⟩
 ·have e:odd1 ((N*N:Nat):Int) x=decide (((N*N:Nat):Int)≤x):=by simp [odd1,h]
  rw [e]
  generalize N*N=M at *
  clear e
  go_enter Tryz.func118,Tryz.ntmps118
  go_wp2
  go_ret
  exact ⟨ret_bool (by simp),rfl⟩
theorem eg_words1 (args:Array Value) (w:World):(callFunc 118 args).run Tryz.prog w=.ok (.enter 118 args) w:=by kernel_rfl
theorem words2_any (K R x q:Nat) (w:World) (hk1:1≤K) (hk4:K≤4) (hR:R≤3) (hx:x≤100000) (q0:w.cell? ⟨q,0,none⟩=some (.int .i64 K)) (q1:w.cell? ⟨q,1,none⟩=some (.int .i64 R)) :
 Calls Tryz.prog 120 #[.int .i64 x,.pointer (some ⟨q,0,none⟩)] w (Ret1 (fun y w'=>OwnI w.heap.size w' y (digs K (2*R) x)) w):=by
 obtain ⟨ov,w1,mk,ho,hb1⟩:=run_makeI (2*(R:Int)) (2*R) w (by omega) (by omega)
 have lo:=ho.at.len
 rw [List.length_replicate] at lo
 obtain ⟨oa,on,oc,rfl⟩:=ho.at.shape
 have hql:=World.block_lt_of_cell? _ _ q0
 have hK0:((K:Int)==0)=false:=by rw [beq_eq_false_iff_ne]; omega
 have hK1:¬ (K:Int)=0:=by omega
 have hK2:(0:Int)<K:=by omega
 have hK3:¬ K=0:=by omega
 obtain ⟨N,hN⟩:∃ N,2*R=N:=⟨_,rfl⟩
 have hN6:N≤6:=by omega
 rw [hN] at ho lo ⊢
 have hNi:2*(R:Int)=(N:Int):=by omega
 have hNw:IntKind.i64.wrap (N:Int)=N:=wrapK (by omega) (by omega)
 rw [hNi] at mk
 replace ho:=Hd ho
 replace hN:=Hd hN
 go_enter Tryz.func120,Tryz.ntmps120
 go_wp2_with fail
 clear mk
 go_loopw [0,12] (fun xv jv wr=>∃ j:Nat,j≤N∧jv=.int .i64 j∧xv=.int .i64 (x/pw K j:Nat)∧OwnI w.heap.size wr (.slice oa on oc) ((List.replicate N (0:Int)).take (N-j)++(digs K N x).drop (N-j))∧Below w.heap.size w wr) (fun _ jv _=>N-(intOf jv).toNat)
 case atStart=>exact ⟨0,by omega,rfl,by simp [pw],by rw [Nat.sub_zero,List.drop_of_length_le (by rw [digs_length]; exact Nat.le_refl _),List.append_nil,List.take_of_length_le (by simp)]; exact ho.out,hb1⟩
 case round =>
  obtain ⟨j,hj,rfl,rfl,hO,hbI⟩:=hrel
  obtain ⟨wi,rfl⟩:∃ wi:World,wi=wr:=⟨_,rfl⟩
  by_cases hjl:j<N
  ·have hXl:((List.replicate N (0:Int)).take (N-j)++(digs K N x).drop (N-j)).length=N:=by simp only [List.length_append,List.length_take,List.length_replicate,List.length_drop,digs_length]; omega
   have i1:∀ w',(Instr.indexAt 22 (.slice oa on oc) (.int .i64 ((N:Int)-1-(j:Int)))).run Tryz.prog w'=.ok (.pointer (some (valAt (.slice oa on oc) (N-1-j)))) w':=by
    intro w'
    have:=hO.at.idxI ((N:Int)-1-(j:Int)) (by omega) (by rw [hXl]; omega) w'
    rwa [show ((N:Int)-1-(j:Int)).toNat=N-1-j by omega] at this
   have c1:=hO.at.cellD (N-1-j) (by rw [hXl]; omega)
   have f1:=hO.frz (N-1-j) (by rw [hXl]; omega)
   have hS:=hO.set (N-1-j) (by rw [hXl]; omega) ((x/pw K j%K:Nat):Int)
   have hbS:=hO.setBelow hbI (N-1-j) (by rw [hXl]; omega) (.int .i64 ((x/pw K j%K:Nat):Int))
   rw [digs_fill K N x j hjl _ (by simp)] at hS
   have hqd:x/pw K j/K=x/pw K (j+1):=by rw [Nat.div_div_eq_div_mul,← pw_succ]
   have hql:x/pw K j≤100000:=Nat.le_trans (Nat.div_le_self _ _) hx
   have y0:=(hbI.cell (p:=⟨q,0,none⟩) (World.block_lt_of_cell? _ _ q0)).trans q0
   have hbe:=hO.blkB (N-1-j) (by rw [hXl]; omega)
   generalize ((List.replicate N (0:Int)).take (N-j)++(digs K N x).drop (N-j)).getD (N-1-j) 0=y at c1
   have y0':(wi.setCell (valAt (.slice oa on oc) (N-1-j)) (.int .i64 ((x/pw K j%K:Nat):Int))).cell? ⟨q,0,none⟩=some (.int .i64 K):=(hbS.cell (p:=⟨q,0,none⟩) (World.block_lt_of_cell? _ _ q0)).trans q0
   have hlen':=lo
   generalize valAt (.slice oa on oc) (N-1-j)=ya at *
   generalize x/pw K j=z at *
   obtain ⟨a1,a2,a3,a4,a5,a6⟩:=dm z K (by omega)
   obtain ⟨d,hd⟩:∃ d,z%K=d:=⟨_,rfl⟩
   obtain ⟨e,he⟩:∃ e,z/K=e:=⟨_,rfl⟩
   rw [hd] at a2 a4 a6 hS hbS y0'
   rw [he] at a1 a3 a5 hqd
   replace hS:=Hd hS
   replace hbS:=Hd hbS
   replace hqd:=Hd hqd
   replace hO:=Hd hO
   replace hd:=Hd hd
   replace he:=Hd he
   clear hXl
   go_wp2
   go_roundw
   case rel=>exact ⟨j+1,by omega,by go_num,by rw [← hqd.out],hS.out,hbS.out⟩
   case measure=>simp [intOf]; omega
  ·obtain rfl:j=N:=by omega
   rw [Nat.sub_self,List.take_zero,List.drop_zero,List.nil_append] at hO
   replace hO:=Hd hO
   go_wp2
   go_ret
   exact ⟨_,rfl,hbI,hO.out⟩
end Go.Proofs.YtncpnaoabkjegaaGreatDoor
namespace Go.Proofs.YtncpnaoabkjegaaGreatDoor
open Go.RowKit
set_option maxRecDepth 100000
def TwoInts (T E:TypeId):Prop:=Tryz.prog.underlying T=some (.slice E)∧∃ i,Tryz.prog.info? E=some i∧i.zero=some (.agg #[.int .i64 0,.int .i64 0])∧i.size=2∧i.bytes=16
theorem twoInts_mk {T E:TypeId} (h1:Tryz.prog.underlying T=some (.slice E)) (h2:(Tryz.prog.info? E).map (fun i=>(i.zero,i.size,i.bytes))=some (some (.agg #[.int .i64 0,.int .i64 0]),2,16)):TwoInts T E:=by
 refine ⟨h1,?_⟩
 cases h:Tryz.prog.info? E with
 | none=>rw [h] at h2; cases h2
 | some i=>rw [h] at h2; simp at h2; exact ⟨i,rfl,h2.1,h2.2.1,h2.2.2⟩
theorem run_app2 {T E:TypeId} (tc:TwoInts T E) (w:World) (B:Nat) (ty:TypeId) (v:Value) (m:Nat) (xs:List Value) (hown:w.ownsRow B E 2 v m xs)
 (b:Nat) (y0 y1:Int) (hys:∀ (j:Nat) (u:Value),([Value.int .i64 y0,.int .i64 y1]:List Value)[j]?=some u→w.cell? ((⟨b,0,none⟩:Addr).add j)=some u) (hlen:m<1000000) (hB:B≤w.heap.size) :
 ∃ g n' c' w',(Builtin.append_ #[T,T] ty #[v,.slice (some ⟨b,0,none⟩) 1 1]).run Tryz.prog w=.ok (.slice (some ⟨g,0,none⟩) n' c') w'∧n'=m+1∧w'.ownsRow B E 2 (.slice (some ⟨g,0,none⟩) (m+1) c') (m+1) (xs++[.int .i64 y0,.int .i64 y1]) ∧
  ((v.ownBlock=some g∧w.grownBy w' v.ownBlock)∨(g=w.heap.size∧w.grownBy w' none)):=by
 obtain ⟨ht,i,hi,hz0,hz1,hz2⟩:=tc
 have hzc:(Value.agg #[.int .i64 0,.int .i64 0]).cells=#[.int .i64 0,.int .i64 0]:=by rfl
 have hxl:=hown.1
 have big:∀ (old:Nat),old<m+1 →
  (w.drew.alloc (.cells (xs.toArray++[Value.int .i64 y0,.int .i64 y1].toArray++Builtin.zeroCells (Value.agg #[.int .i64 0,.int .i64 0]).cells (grownCap w (m+1) old E-(m+1))) E)).ownsRow B E 2 (.slice (some ⟨w.heap.size,0,none⟩) (m+1) (grownCap w (m+1) old E)) (m+1) (xs++[.int .i64 y0,.int .i64 y1]):=by
  intro old ho
  have hge:=grownCap_ge w (m+1) old E
  have hcm:grownCap w (m+1) old E≤maxLen:=grownCap_le_maxLen w _ old E (by unfold maxLen; omega)
  refine ⟨by simp [hxl]; omega,.inr ⟨w.heap.size,_,_,rfl,hB,heap_alloc_new w.drew _,hge,hcm,?_,?_⟩⟩
  ·simp only [Array.size_append,List.size_toArray,size_zeroCells,hzc,hxl]
   simp
   omega
  ·simp only [Array.toList_append]
   exact List.take_left' (by simp [hxl]; omega)
 have grw:∀ (oo:Obj),w.grownBy (w.drew.alloc oo) none:=fun oo=>⟨rfl,rfl,rfl,by simp,fun k hk _=>Below.heap_alloc w.drew oo k hk⟩
 rcases hown.2 with ⟨rfl,hn⟩ | ⟨g,cap,cur,rfl,hbg,hg,hnc,hcm,hcs,htake⟩
 ·subst hn
  obtain rfl:=List.length_eq_zero_iff.1 (show xs.length=0 by omega)
  have hr:=run_append_nil (P:=Tryz.prog) w T ty E i _ ht hi hz0 ⟨b,0,none⟩ 1 1 [.int .i64 y0,.int .i64 y1] (by rw [hz1]; rfl) hys (by omega) (by omega) (by rw [hz2]; decide)
  have hbg:=big 0 (by omega)
  simp only [List.nil_append,Array.empty_append,Nat.zero_add] at hbg hr
  exact ⟨_,_,_,_,hr,rfl,by simpa using hbg,.inr ⟨rfl,grw _⟩⟩
 ·by_cases hroom:m+1≤cap
  ·have hr:=run_append_room (P:=Tryz.prog) w T ty E i ht hi g m cap cur hg ⟨b,0,none⟩ 1 1 [.int .i64 y0,.int .i64 y1] (by rw [hz1]; rfl) hys (by simp [Value.oneCell']) hroom (by rw [hz1,hcs]; simp; omega)
   refine ⟨_,_,_,_,hr,rfl,⟨by simp [hxl]; omega,.inr ⟨g,cap,_,rfl,hbg,setRow_heap w g cur _ E _ hg,hroom,hcm,?_,?_⟩⟩,.inl ⟨rfl,⟨rfl,rfl,rfl,by simp,fun k _ hk=>setRow_other w g k _ (fun e=>hk (by simp [Value.ownBlock,e]))⟩⟩⟩
   ·simp only [List.size_toArray,List.length_append,List.length_take,List.length_drop,Array.length_toList,hz1,hcs]
    simp
    omega
   ·rw [hz1,htake]
    exact List.take_left' (by simp [hxl]; omega)
  ·have holds:∀ j u,xs[j]?=some u→w.cell? ((⟨g,0,none⟩:Addr).add j)=some u:=World.ownsRow.cells hown (g:=g) rfl
   have hr:=run_append_grow (P:=Tryz.prog) w T ty E i _ ht hi hz0 ⟨g,0,none⟩ m cap xs (by rw [hz1]; exact hxl) holds ⟨b,0,none⟩ 1 1 [.int .i64 y0,.int .i64 y1] (by rw [hz1]; rfl) hys (by omega) (by omega) (by
    rw [hz2]
    exact growslice_fits (by omega) (by
     calc (m+1)*16≤1000000*16:=Nat.mul_le_mul_right _ hlen
      _≤_:=by decide))
   exact ⟨_,_,_,_,hr,rfl,big cap (by omega),.inr ⟨rfl,grw _⟩⟩
theorem wpl_app2 {T E:TypeId} (tc:TwoInts T E) {w:World} {ops:Array Oper} {rest:List Oper} {o:Oper} {a:Act} {Q:Exit→Act→World→Prop} (hgd:o.guard=none) (s x:Operand)
 (ho:o.op=.call { callee:=.builtin .append,args:=#[s,x],argTypes:=#[T,T] })
 (B:Nat) (v:Value) (m:Nat) (xs:List Value) (y0 y1:Int) (b:Nat) (hown:w.ownsRow B E 2 v m xs) (hs:a.eval s=v) (hx:a.eval x=.slice (some ⟨b,0,none⟩) 1 1) (hb:b=w.heap.size)
 (hlen:m<1000000) (hB:B≤w.heap.size)
 (h:∀ g c w',w'.ownsRow B E 2 (.slice (some ⟨g,0,none⟩) (m+1) c) (m+1) (xs++[.int .i64 y0,.int .i64 y1])→((v.ownBlock=some g∧w.grownBy w' v.ownBlock)∨(w.heap.size≤g∧w.grownBy w' none))→wpList Tryz.prog ops Q rest (a.put o.dst (.slice (some ⟨g,0,none⟩) (m+1) c)) w') :
 wpList Tryz.prog ops Q (o::rest) a (w.alloc (.cells #[.int .i64 y0,.int .i64 y1] E)):=by
 subst hb
 refine wpList_plain hgd fun K hK=>?_
 have hcells:∀ (j:Nat) (u:Value),([Value.int .i64 y0,.int .i64 y1]:List Value)[j]?=some u→(w.alloc (.cells #[.int .i64 y0,.int .i64 y1] E)).cell? ((⟨w.heap.size,0,none⟩:Addr).add j)=some u:=by
  intro j u hj
  have hn:=heap_alloc_new w (.cells #[.int .i64 y0,.int .i64 y1] E)
  match j,hj with
  | 0,hj=>simp at hj; subst hj; simp only [World.cell?,Addr.add,if_true]; rw [hn]; rfl
  | 1,hj=>simp at hj; subst hj; simp only [World.cell?,Addr.add,show ¬ (1=0) by decide,if_false]; rw [hn]; rfl
  | j+2,hj=>simp at hj
 obtain ⟨g,n',c',w',hr,rfl,h2,h3⟩:=run_app2 tc (w.alloc (.cells #[.int .i64 y0,.int .i64 y1] E)) B o.type v m xs (World.ownsRow.alloc hown _) w.heap.size y0 y1 hcells hlen (by simp; omega)
 unfold Oper.wp execOp
 simp only [ho,resolve,invoke,builtin,Sem.run_bind,Sem.run_pure,Result.andThen_ok,List.map_toArray,List.map_cons,List.map_nil,hs,hx]
 rw [hr]
 have hal:∀ row,w.grownBy (w.alloc (.cells #[.int .i64 y0,.int .i64 y1] E)) row:=fun row=>World.grownBy_alloc w _ row
 rcases h3 with ⟨hv,hg⟩ | ⟨hk,hg⟩
 ·exact hK _ _ (h g c' w' h2 (.inl ⟨hv,(hal v.ownBlock).trans hg⟩))
 ·exact hK _ _ (h g c' w' h2 (.inr ⟨by rw [hk]; simp,(hal none).trans hg⟩))
def flat2 (l:List (Int×Int)):List Value:=l.flatMap fun p=>[.int .i64 p.1,.int .i64 p.2]
theorem flat2_snoc (l:List (Int×Int)) (a b:Int):flat2 (l++[(a,b)])=flat2 l++[.int .i64 a,.int .i64 b]:=by simp [flat2]
theorem flat2_get (l:List (Int×Int)) (s:Nat) (h:s<l.length):(flat2 l)[s*2]?=some (.int .i64 l[s].1)∧(flat2 l)[s*2+1]?=some (.int .i64 l[s].2):=by
 induction l generalizing s with
 | nil=>simp at h
 | cons p l ih =>
  cases s with
  | zero=>exact ⟨rfl,rfl⟩
  | succ s =>
   have:=ih s (by simpa using h)
   rw [show (s+1)*2=s*2+1+1 by omega]
   simpa [flat2] using this
set_option maxHeartbeats 8000000
def arrL (K N:Nat) (T:List Int) (u n:Nat):List (Int×Int):=(List.range n).map fun s=>((toN K N u s:Int),labN K T u s)
theorem arrL_len (K N:Nat) (T:List Int) (u n:Nat):(arrL K N T u n).length=n:=by simp [arrL]
theorem arrL_succ (K N:Nat) (T:List Int) (u n:Nat):arrL K N T u (n+1)=arrL K N T u n++[((toN K N u n:Int),labN K T u n)]:=by simp [arrL,List.range_succ]
def arrTo (K N:Nat) (T:List Int) (k j:Nat) (u:Nat):List (Int×Int):=if u<k then arrL K N T u K else if u=k then arrL K N T u j else []
theorem arrTo_zero (K N:Nat) (T:List Int):arrTo K N T 0 0=fun _=>[]:=by
 funext u; unfold arrTo
 rw [if_neg (by omega)]
 split
 ·simp [arrL]
 ·rfl
theorem arrTo_next (K N:Nat) (T:List Int) (k:Nat):arrTo K N T k K=arrTo K N T (k+1) 0:=by
 funext u; unfold arrTo
 by_cases h:u<k
 ·rw [if_pos h,if_pos (by omega)]
 ·rw [if_neg h]
  by_cases e:u=k
  ·rw [if_pos e,if_pos (by omega)]
  ·rw [if_neg e,if_neg (by omega)]
   split
   ·simp [arrL]
   ·rfl
theorem arrTo_at (K N:Nat) (T:List Int) (k j:Nat):arrTo K N T k j k=arrL K N T k j:=by unfold arrTo; rw [if_neg (by omega),if_pos rfl]
theorem arrTo_step (K N:Nat) (T:List Int) (k j:Nat):updN (arrTo K N T k j) k (arrL K N T k (j+1))=arrTo K N T k (j+1):=by
 funext u
 by_cases e:u=k
 ·subst e; rw [updN_same,arrTo_at]
 ·rw [updN_other _ _ _ e]; unfold arrTo
  by_cases h:u<k
  ·rw [if_pos h,if_pos h]
  ·rw [if_neg h,if_neg h,if_neg e,if_neg e]
theorem twoArrow:TwoInts 167 169:=twoInts_mk (by kernel_rfl) (by kernel_rfl)
theorem oneArrows:OneCell 165 167 (.slice none 0 0) 24:=⟨by kernel_rfl,by kernel_rfl,rfl,by decide,fun _=>by kernel_rfl⟩
structure AN (f:Names) (ov:Value) (vals:List Value) (n:Nat) (F:Nat→List (Int×Int)):Prop where
 outer:f (1,0)=some (rowV 167 ov vals)
 len:vals.length=n
 rows:∀ u,u<n→f (2,u)=some ⟨169,2,vAt vals u,(F u).length,flat2 (F u)⟩
section
variable {B:Nat} {w:World} {f:Names} {ov:Value} {vals:List Value} {n:Nat} {F:Nat→List (Int×Int)}
def nils2 (n:Nat):Names:=fun i=>if i.1=2∧i.2<n then some ⟨169,2,.slice none 0 0,0,[]⟩ else none
theorem rows_nils2 (B:Nat) (w:World) (n:Nat):Rows B w (nils2 n):=by
 refine ⟨fun i r hi=>?_,fun i j r s hi _ _=>?_⟩
 ·unfold nils2 at hi
  split at hi
  ·injection hi with hi; subst hi; exact World.ownsRow_nil w B _ 2
  ·cases hi
 ·left
  unfold nils2 at hi
  split at hi
  ·injection hi with hi; subst hi; rfl
  ·cases hi
theorem AN.made {w1:World} (n:Nat) (hb:Below w.heap.size w w1) (hB:B≤w.heap.size) (ho:OwnV 167 w.heap.size w1 ov (List.replicate n (.slice none 0 0))) :
 ∃ f,Rows B w1 f∧AN f ov (List.replicate n (.slice none 0 0)) n (fun _=>[]):=by
 refine ⟨_,(rows_nils2 B w n).add (i:=(1,0)) (r':=rowV 167 ov (List.replicate n (.slice none 0 0))) hb (ho.mono hB) (fun k hk=>(ho.lt k hk).1),⟨upd_same _ _ _,by simp,fun u hu=>?_⟩⟩
 rw [upd_ne _ _ (by simp)]
 show nils2 n (2,u)=_
 unfold nils2
 rw [if_pos ⟨rfl,hu⟩]
 simp [vAt,List.getD,hu,flat2]
theorem AN.app (h:AN f ov vals n F) (hr:Rows B w f) {w1:World} {u g c:Nat} (hu:u<n) (x y:Int)
 (ho:w1.ownsRow B 169 2 (.slice (some ⟨g,0,none⟩) ((F u).length+1) c) ((F u).length+1) (flat2 (F u)++[.int .i64 x,.int .i64 y]))
 (hal:((vAt vals u).ownBlock=some g∧w.grownBy w1 (vAt vals u).ownBlock)∨(w.heap.size≤g∧w.grownBy w1 none)) :
 w1.cell? (valAt ov u)=some (vAt vals u)∧w1.frozen? (valAt ov u)=false∧B≤(valAt ov u).block ∧
 ∃ f' vals',Rows B (w1.setCell (valAt ov u) (.slice (some ⟨g,0,none⟩) ((F u).length+1) c)) f'∧AN f' ov vals' n (updN F u (F u++[(x,y)])):=by
 have hrow:=h.rows u hu
 have hg:w.grownBy w1 (vAt vals u).ownBlock:=grown_via (hal.imp (·.2) (·.2))
 have hob:(Value.slice (some ⟨g,0,none⟩) ((F u).length+1) c).ownBlock=(vAt vals u).ownBlock∨∃ k,(Value.slice (some ⟨g,0,none⟩) ((F u).length+1) c).ownBlock=some k∧w.heap.size≤k:=by
  rcases hal with ⟨q,_⟩ | ⟨q,_⟩
  ·exact .inl q.symm
  ·exact .inr ⟨g,rfl,q⟩
 have h1:=hr.grown (r':=⟨169,2,.slice (some ⟨g,0,none⟩) ((F u).length+1) c,(F u).length+1,flat2 (F u)++[Value.int .i64 x,Value.int .i64 y]⟩) hrow hg (show Row.own B w1 ⟨_,_,_,_,_⟩ from ho) hob
 have ho':upd f (2,u) (some ⟨169,2,.slice (some ⟨g,0,none⟩) ((F u).length+1) c,(F u).length+1,flat2 (F u)++[Value.int .i64 x,Value.int .i64 y]⟩) (1,0)=some (rowV 167 ov vals):=by rw [upd_ne _ _ (by simp)]; exact h.outer
 have hl:u<vals.length:=by rw [h.len]; exact hu
 have hO:=h1.ownV ho'
 refine ⟨hO.at.cellV u hl,hO.frz u hl,(hO.blkB u hl).2,_,_,h1.setV ho' u hl _,⟨upd_same _ _ _,by simpa using h.len,fun t ht=>?_⟩⟩
 rw [upd_ne _ _ (by simp)]
 by_cases e:t=u
 ·subst e
  rw [upd_same,vAt_set_same hl,updN_same,flat2_snoc]; simp
 ·rw [upd_ne _ _ (by simpa using e),vAt_set_ne e,updN_other _ _ _ e]
  exact h.rows t ht
end
def ArrowsAt (w:World) (v:Value) (K N:Nat) (T:List Int):Prop :=
 ∃ vs,ValsAt w v vs∧vs.length=N∧∀ u,u<N→∃ g c,vAt vs u=.slice (some ⟨g,0,none⟩) K c∧K≤c∧∀ s,s<K→w.cell? ⟨g,s*2,none⟩=some (.int .i64 (toN K N u s))∧w.cell? ⟨g,s*2+1,none⟩=some (.int .i64 (labN K T u s))
theorem ArrowsAt.below {w w':World} {v:Value} {K N:Nat} {T:List Int} (h:ArrowsAt w v K N T) (hb:Below w.heap.size w w'):ArrowsAt w' v K N T:=by
 obtain ⟨vs,h1,h2,h3⟩:=h
 refine ⟨vs,h1.below hb,h2,fun u hu=>?_⟩
 obtain ⟨g,c,e,hc,h4⟩:=h3 u hu
 exact ⟨g,c,e,hc,fun s hs=>⟨cell_keep hb (h4 s hs).1,cell_keep hb (h4 s hs).2⟩⟩
theorem AN.reads {B:Nat} {w:World} {f:Names} {ov:Value} {vals:List Value} {K N:Nat} {T:List Int} (hK:1≤K) (h:AN f ov vals N (arrTo K N T N 0)) (hr:Rows B w f):ArrowsAt w ov K N T:=by
 refine ⟨vals,(hr.ownV h.outer).at,h.len,fun u hu=>?_⟩
 have hrow:=h.rows u hu
 have hF:arrTo K N T N 0 u=arrL K N T u K:=by unfold arrTo; rw [if_pos hu]
 rw [hF,arrL_len] at hrow
 obtain ⟨g,c,e,hc⟩:=row_shape (hr.1 _ _ hrow) hK
 refine ⟨g,c,e,hc,fun s hs=>?_⟩
 have c0:=hr.cell hrow (g:=g) (cap:=c) e (s*2) (by simp; omega)
 have c1:=hr.cell hrow (g:=g) (cap:=c) e (s*2+1) (by simp; omega)
 have:=flat2_get (arrL K N T u K) s (by rw [arrL_len]; exact hs)
 have ea:(arrL K N T u K)[s]'(by rw [arrL_len]; exact hs)=((toN K N u s:Int),labN K T u s):=by simp [arrL]
 rw [ea] at this
 exact ⟨c0.trans this.1,c1.trans this.2⟩
theorem arrows_any (r:Nat→Addr) (K R:Nat) (va:Option Addr) (vn vc:Nat) (T:List Int) (w:World) (hg:Glob r w) (h:IntsAt w (.slice va vn vc) T) (hok:RuleOk K R T) (hl:T.length≤256) :
 Calls Tryz.prog 112 #[.agg #[.int .i64 K,.int .i64 R,.slice va vn vc]] w (Ret1 (fun x w'=>ArrowsAt w' x K (T.length/K) T) w):=by
 have b0:=belowAlloc w (.cells #[.int .i64 K,.int .i64 R,.slice va vn vc] 24)
 have q:Box3 (w.alloc (.cells #[.int .i64 K,.int .i64 R,.slice va vn vc] 24)) w.heap.size (.int .i64 K) (.int .i64 R) (.slice va vn vc):=by simp [Box3,go_sem]
 have hk1:=hok.k1
 have hk4:=hok.k4
 have hN0:T.length/K≤256:=Nat.le_trans (Nat.div_le_self _ _) hl
 have hEdge:=fun (u s:Nat) (w':World) (hgl:Glob r w') (hT:IntsAt w' (.slice va vn vc) T) (hu:u<T.length/K) (hs:s<K)=>over_Edge r K R va vn vc T u s w' hgl hT hok hl hu hs
 have hNodes:=fun (w':World) (hgl:Glob r w') (hT:IntsAt w' (.slice va vn vc) T)=>over_Nodes r K R va vn vc T w' hgl hT hok hl
 generalize T.length/K=N at *
 replace hEdge:=Hd hEdge
 replace hNodes:=Hd hNodes
 replace hg:=Hd (hg.below b0)
 replace h:=Hd (h.below b0)
 replace hok:=Hd hok
 go_enter Tryz.func112,Tryz.ntmps112
 go_wp2_with fail
 refine (hNodes.out _ hg.out h.out).mono ?_
 rintro e w1 ⟨x,y,rfl,b1,rfl,rfl⟩
 have q1:=q.below b1
 have b01:=Below.step b0 b1
 have hg1:=hg.out.below b1
 have hT1:=h.out.below b1
 clear q
 go_wp2_with fail
 obtain ⟨ov,w2,mk,ho,hb2⟩:=run_makeW oneArrows (N:Int) N w1 rfl (by omega)
 obtain ⟨f1,hr1,h1⟩:=AN.made N hb2 (Nat.le_refl _) ho
 obtain ⟨oa,on,oc,rfl⟩:=ho.shape
 have lo:=fun w'=>(ho.at).len oneArrows 3 w'
 rw [List.length_replicate] at lo
 rw [mk]
 simp only [Result.andThen]
 rw [← arrTo_zero K N T] at h1
 replace hr1:=Hd hr1
 replace ho:=Hd ho
 replace q1:=Hd q1
 replace hg1:=Hd hg1
 replace hT1:=Hd hT1
 clear mk
 go_wp2_with fail
 clear lo
 go_loopw [20] (fun kv wr=>∃ (k:Nat) (f:Names) (vals:List Value),k≤N∧kv=.int .i64 k∧Rows w1.heap.size wr f∧Below w1.heap.size w1 wr∧AN f (.slice oa on oc) vals N (arrTo K N T k 0)) (fun kv _=>N-(intOf kv).toNat)
 case atStart=>exact ⟨0,f1,_,by omega,rfl,hr1.out,hb2,h1⟩
 case round =>
  clear h1 ho hr1 hb2
  obtain ⟨k,f2,vals,hk,rfl,hr2,b2,h2⟩:=hrel
  obtain ⟨wo,rfl⟩:∃ wo:World,wo=wr:=⟨_,rfl⟩
  by_cases hlt:k<N
  ·have z0:=(q1.out.below b2).1.1
   replace hr2:=Hd hr2
   go_wp2_with fail
   clear z0
   go_loopw [25] (fun jv wr=>∃ (j:Nat) (f:Names) (vals:List Value),j≤K∧jv=.int .i64 j∧Rows w1.heap.size wr f∧Below w1.heap.size w1 wr∧AN f (.slice oa on oc) vals N (arrTo K N T k j)) (fun jv _=>K-(intOf jv).toNat)
   case atStart=>exact ⟨0,f2,vals,by omega,rfl,hr2.out,b2,h2⟩
   case round =>
    clear hr2 h2 b2
    obtain ⟨j,f3,vals,hj,rfl,hr3,b3,h3⟩:=hrel
    obtain ⟨wo,rfl⟩:∃ wo:World,wo=wr:=⟨_,rfl⟩
    by_cases hjl:j<K
    ·obtain ⟨z0,z1,z2⟩:=(q1.out.below b3).1
     replace hr3:=Hd hr3
     go_wp2_with fail
     refine (hEdge.out k j _ (hg1.out.below b3) (hT1.out.below b3) hlt hjl).mono ?_
     rintro e w4 ⟨x,y,z,rfl,b4,rfl,rfl,rfl⟩
     have hr4:=hr3.out.below b4
     have b34:=Below.trans b3 (b4.mono b3.size)
     clear z0 z1 z2
     have hOV:=(hr4.ownV h3.outer).at
     have iO:=fun w'=>hOV.idx oneArrows k (by rw [h3.len]; exact hlt) w'
     have cO:=hOV.cellV k (by rw [h3.len]; exact hlt)
     have hT:=hr4.1 _ _ (h3.rows k hlt)
     have hB4:w1.heap.size≤w4.heap.size:=b34.size
     have happ:=fun (w5:World) (g c:Nat)=>h3.app hr4 (w1:=w5) (g:=g) (c:=c) hlt (toN K N k j) (labN K T k j)
     rw [arrTo_at,← arrL_succ,arrTo_step] at happ
     rw [arrTo_at] at hT
     unfold Row.own at hT
     simp only [arrL_len] at hT
     generalize vAt vals k=tv at *
     generalize valAt (.slice oa on oc) k=ua at *
     obtain ⟨X,hX⟩:∃ X,toN K N k j=X:=⟨_,rfl⟩
     obtain ⟨Y,hY⟩:∃ Y,labN K T k j=Y:=⟨_,rfl⟩
     rw [hX,hY] at happ ⊢
     replace happ:=Hd happ
     replace hr4:=Hd hr4
     replace hOV:=Hd hOV
     replace hX:=Hd hX
     replace hY:=Hd hY
     go_wp2_with (at_builtin; go_loud (refine wpl_app2 twoArrow rfl _ _ rfl w1.heap.size tv j (flat2 (arrL K N T k j)) X Y _ hT rfl rfl (by simp) (by omega) hB4 ?_))
     intro g c w7 ho7 hal7
     obtain ⟨y1,y2,y3,f8,vals8,hr8,h8⟩:=happ.out w7 g c (by rw [arrL_len]; exact ho7) hal7
     rw [arrL_len] at hr8
     replace hr8:=Hd hr8
     replace ho7:=Hd ho7
     have b7:Below w1.heap.size w4 w7:=by
      rcases hal7 with ⟨hv,hgr⟩ | ⟨_,hgr⟩
      ·exact (Below.refl _ _).grown hgr hB4 (fun m hm=>(World.ownsRow.lt hT m hm).1)
      ·exact (Below.refl _ _).grown hgr hB4 (fun m hm=>by cases hm)
     clear hal7 hT cO
     go_wp2
     go_roundw
     case measure=>simp [intOf]; omega
     case rel=>exact ⟨j+1,f8,vals8,by omega,by go_num,hr8.out,(b34.trans b7).setCell y3 _,h8⟩
    ·obtain rfl:j=K:=by omega
     rw [arrTo_next] at h3
     replace hr3:=Hd hr3
     go_wp2
     go_roundw
     case measure=>simp [intOf]; omega
     case rel=>exact ⟨k+1,f3,vals,by omega,by go_num,hr3.out,b3,h3⟩
  ·obtain rfl:k=N:=by omega
   have hA:=h2.reads hk1 hr2
   replace hA:=Hd hA
   replace hr2:=Hd hr2
   have bE:=Below.step b01 b2
   go_wp2
   go_ret
   exact ⟨_,rfl,bE,hA.out⟩
end Go.Proofs.YtncpnaoabkjegaaGreatDoor
namespace Go.Proofs.YtncpnaoabkjegaaGreatDoor
def ded (zs:List Int):Nat→List Int
 | 0=>[]
 | m+1=>ded zs m++if m=0∨zs.getD m 0≠zs.getD (m-1) 0 then [zs.getD m 0] else []
theorem ded_len (zs:List Int):∀ m,(ded zs m).length≤m
 | 0=>Nat.le_refl _
 | m+1=>by
  have:=ded_len zs m
  rw [ded,List.length_append]
  split<;>simp<;>omega
theorem sorted_getD {zs:List Int} (h:zs.Pairwise (·≤·)) {i j:Nat} (hij:i≤j) (hj:j<zs.length):zs.getD i 0≤zs.getD j 0:=by
 simp only [List.getD_eq_getElem?_getD,List.getElem?_eq_getElem hj,List.getElem?_eq_getElem (show i<zs.length by omega),Option.getD_some]
 by_cases e:i=j
 ·subst e; exact Int.le_refl _
 ·exact List.pairwise_iff_getElem.1 h i j (by omega) hj (by omega)
theorem ded_spec {zs:List Int} (h:zs.Pairwise (·≤·)):∀ m,m≤zs.length→(ded zs m).Pairwise (·<·)∧(∀ x,x∈ded zs m↔x∈zs.take m)
 | 0,_=>by simp [ded]
 | m+1,hm=>by
  obtain ⟨h1,h2⟩:=ded_spec h m (by omega)
  have ht:zs.take (m+1)=zs.take m++[zs.getD m 0]:=by
   rw [List.take_add_one,List.getElem?_eq_getElem (show m<zs.length by omega)]
   simp [List.getD,show m<zs.length by omega]
  have top:∀ x∈zs.take m,m≠0∧x≤zs.getD (m-1) 0:=fun x hx=>by
   obtain ⟨i,hi,e⟩:=List.mem_iff_getElem.1 hx
   have hi':i<m:=by rw [List.length_take] at hi; omega
   have:=sorted_getD h (show i≤m-1 by omega) (by omega)
   rw [List.getElem_take] at e
   rw [List.getD_eq_getElem?_getD,List.getElem?_eq_getElem (show i<zs.length by omega),Option.getD_some,e] at this
   exact ⟨by omega,this⟩
  rw [ded,ht]
  by_cases c:m=0∨zs.getD m 0≠zs.getD (m-1) 0
  ·rw [if_pos c]
   refine ⟨List.pairwise_append.2 ⟨h1,by simp,fun a ha b hb=>?_⟩,fun x=>by simp [h2]⟩
   rw [List.mem_singleton] at hb
   subst hb
   obtain ⟨t1,t2⟩:=top a ((h2 a).1 ha)
   have:=sorted_getD h (show m-1≤m by omega) (by omega)
   rcases c with c | c<;>omega
  ·rw [if_neg c,List.append_nil]
   refine ⟨h1,fun x=>?_⟩
   rw [h2,List.mem_append,List.mem_singleton]
   constructor
   ·exact .inl
   ·rintro (q | q)
    ·exact q
    ·have c2:m≠0∧zs.getD m 0=zs.getD (m-1) 0:=by
      refine ⟨fun e=>c (.inl e),?_⟩
      apply Classical.byContradiction
      intro e; exact c (.inr e)
     rw [q,c2.2,List.mem_iff_getElem]
     refine ⟨m-1,by rw [List.length_take]; omega,?_⟩
     rw [List.getElem_take]
     simp [List.getD,show m-1<zs.length by omega]
theorem sorted_eqI:∀ {L M:List Int},L.Pairwise (·<·)→M.Pairwise (·<·)→(∀ v,v∈L↔v∈M)→L=M
 | [],[],_,_,_=>rfl
 | [],b::M,_,_,h=>absurd ((h b).2 List.mem_cons_self) (by simp)
 | a::L,[],_,_,h=>absurd ((h a).1 List.mem_cons_self) (by simp)
 | a::L,b::M,hL,hM,h=>by
  obtain ⟨a1,a2⟩:=List.pairwise_cons.1 hL
  obtain ⟨b1,b2⟩:=List.pairwise_cons.1 hM
  have hab:a=b:=by
   rcases List.mem_cons.1 ((h a).1 List.mem_cons_self) with e | e
   ·exact e
   ·rcases List.mem_cons.1 ((h b).2 List.mem_cons_self) with e2 | e2
    ·exact e2.symm
    ·have:=b1 a e; have:=a1 b e2; omega
  subst hab
  rw [sorted_eqI a2 b2 fun v=>?_]
  have:=h v
  simp only [List.mem_cons] at this
  constructor
  ·intro hv
   rcases this.1 (.inr hv) with e | e
   ·subst e; exact absurd (a1 v hv) (Int.lt_irrefl _)
   ·exact e
  ·intro hv
   rcases this.2 (.inr hv) with e | e
   ·subst e; exact absurd (b1 v hv) (Int.lt_irrefl _)
   ·exact e
theorem ded_pair {K N:Nat} {T:List Int} (hN:0<N) {p:Nat} {zs:List Int} (hs:zs.Pairwise (·≤·)) (hm:∀ x,x∈zs↔x∈(rawP K N T (p/N) (p%N) K).map fun (n:Nat)=>(n:Int)) :
 ded zs zs.length=(pairL K N T p).map fun (n:Nat)=>(n:Int):=by
 obtain ⟨h1,h2⟩:=ded_spec hs zs.length (Nat.le_refl _)
 refine sorted_eqI h1 (List.pairwise_map.2 ((pairL_sorted K N T p).imp fun h=>by omega)) fun v=>?_
 rw [h2,List.take_length,hm]
 simp only [List.mem_map]
 constructor
 ·rintro ⟨q,hq,rfl⟩; exact ⟨q,(mem_pairL hN).2 (mem_rawP.1 hq),rfl⟩
 ·rintro ⟨q,hq,rfl⟩; exact ⟨q,mem_rawP.2 ((mem_pairL hN).1 hq),rfl⟩
open Go.RowKit Go.Shelf
set_option maxRecDepth 100000
def Tryz.laysCompact_ren:Go.Shelf.Ren:=⟨fun | 20=>114 | n=>n,fun | 22=>22 | 3=>3 | 4=>4 | 0=>0 | n=>n,fun | n=>n⟩
theorem Tryz.laysCompact:Go.Proofs.Lays2.n20 Tryz.prog Tryz.laysCompact_ren:={
 mixed:=by kernel_rfl
 f20:=Tryz.func114.trans (congrArg some (by kernel_rfl))
 t0:=Tryz.underlying0
 a0:=Tryz.isAgg0
 z0:=Tryz.sizeOf0
 v0:=Tryz.zeroValue0
 t3:=Tryz.underlying3
 a3:=Tryz.isAgg3
 z3:=Tryz.sizeOf3
 v3:=Tryz.zeroValue3
 t4:=Tryz.underlying4
 a4:=Tryz.isAgg4
 z4:=Tryz.sizeOf4
 v4:=Tryz.zeroValue4
 t22:=Tryz.underlying22
 a22:=Tryz.isAgg22
 z22:=Tryz.sizeOf22
 v22:=Tryz.zeroValue22
 i3:=by kernel_rfl }
theorem compact_ded (zs:List Int):Lib.compact zs=ded zs zs.length:=by
 have:∀ m,m≤zs.length→Lib.compactUpTo zs.toArray m=ded zs m:=by
  intro m
  induction m with
  | zero=>intro _; rfl
  | succ m ih =>
   intro hm
   rw [Lib.compactUpTo_succ,ih (by omega),ded]
   have e1:zs.toArray[m]! = zs.getD m 0:=by
    rw [getElem!_pos zs.toArray m (by simp; omega)]; simp [List.getD,show m<zs.length by omega]
   have e2:zs.toArray[m-1]! = zs.getD (m-1) 0:=by
    rw [getElem!_pos zs.toArray (m-1) (by simp; omega)]; simp [List.getD,show m-1<zs.length by omega]
   unfold Lib.keeps
   rw [e1,e2]
   by_cases c:m=0∨zs.getD m 0≠zs.getD (m-1) 0
   ·rw [if_pos c,if_pos (by simpa using c)]
   ·rw [if_neg c,if_neg (by simpa using c)]
 exact this _ (Nat.le_refl _)
theorem OwnI.cutTo {B:Nat} {w:World} {a:Option Addr} {n c:Nat} {xs:List Int} (h:OwnI B w (.slice a n c) xs) (m:Nat) (hm:m≤xs.length):OwnI B w (.slice a m c) (xs.take m):=by
 rcases h.2 with ⟨e,e2⟩ | ⟨g,cap,cur,e,hB,hg,hn,hcm,hs,ht⟩
 ·injection e with e1 e3 e4
  subst e1 e4
  obtain rfl:=List.length_eq_zero_iff.1 e2
  obtain rfl:m=0:=by simpa using hm
  exact OwnI.nil B w
 ·injection e with e1 e3 e4
  subst e1 e4
  have hl:(xs.take m).length=m:=by simp; omega
  refine ⟨by simp,.inr ⟨g,c,cur,by rw [hl],hB,hg,by rw [hl]; omega,hcm,hs,?_⟩⟩
  rw [hl,List.map_take,← ht,List.take_take]
  congr 1
  omega
theorem compact_own (B:Nat) (v:Value) (xs:List Int) (w:World) (h:OwnI B w v xs) (hl:xs.length≤9223372036854775807) :
 Calls Tryz.prog 114 #[v] w fun e w'=>∃ x,e=.returned x∧x.ownBlock=v.ownBlock∧OwnI B w' x (ded xs xs.length)∧Below B w w':=by
 rcases h.2 with ⟨rfl,hn⟩ | ⟨g,cap,cur,rfl,hb,hg,hn,hm,hs,ht⟩
 ·obtain rfl:=List.length_eq_zero_iff.1 hn
  refine Calls.mono (Any.slices_Compact_int_empty Tryz.laysCompact none 0 w) ?_
  rintro e w' ⟨rfl,rfl⟩
  exact ⟨_,rfl,rfl,h,Below.refl _ _⟩
 ·refine Calls.mono (Any.slices_Compact_int_cells Tryz.laysCompact g 0 xs.length cap xs w (Nat.le_refl _) hl hn (fun j hj=>?_) (fun j hj=>?_)) ?_
  ·have:=h.at.cellD j hj
   rw [valAt_row] at this
   simpa using this
  ·have:=h.frz j hj
   rw [valAt_row] at this
   simpa using this
  ·rintro e w' ⟨rfl,q,rfl⟩
   rw [List.take_length,compact_ded]
   have hd:=ded_len xs xs.length
   have hL:(ded xs xs.length++List.replicate (xs.length-(ded xs xs.length).length) (0:Int)).length=xs.length:=by simp; omega
   have:=setCells_own (w0:=w) (ded xs xs.length++List.replicate (xs.length-(ded xs xs.length).length) 0) 0 xs (w.drewN q) rfl (by rw [hL]; omega) (h.drewN q) (below_drewN (Below.refl _ _) q)
   rw [hL,List.take_zero,List.nil_append,Nat.zero_add,List.drop_length,List.append_nil] at this
   have ho:=this.1.cutTo (ded xs xs.length).length (by rw [hL]; exact hd)
   rw [List.take_left'  rfl] at ho
   exact ⟨_,rfl,rfl,ho,this.2⟩
end Go.Proofs.YtncpnaoabkjegaaGreatDoor
namespace Go.Proofs.YtncpnaoabkjegaaGreatDoor
open Go.RowKit
set_option maxRecDepth 100000
set_option maxHeartbeats 8000000
theorem lenArr (g K c:Nat) (w:World):(Builtin.len_ #[167] 3 #[.slice (some ⟨g,0,none⟩) K c]).run Tryz.prog w=.ok (.int .i64 K) w:=by
 rw [run_len_slice _ _ _ _ _ _ (by kernel_rfl)]; rfl
theorem idxArr (g K c s:Nat) (hs:s<K) (w:World):(Instr.indexAt 167 (.slice (some ⟨g,0,none⟩) K c) (.int .i64 s)).run Tryz.prog w=.ok (.pointer (some ⟨g,s*2,none⟩)) w:=by
 have e:Tryz.prog.elem 167=169:=by kernel_rfl
 have hz:∀ w:World,(sizeOf 169).run Tryz.prog w=.ok 2 w:=fun w=>by kernel_rfl
 rw [run_indexAt_slice _ _ _ _ _ _ _ (by rw [e]; kernel_rfl),if_pos (by omega),e,hz]
 simp only [Result.andThen,Addr.add,Int.toNat_natCast]
 by_cases e:s*2=0
 ·rw [if_pos e]
  simp only [e]
 ·rw [if_neg e]
  simp
def pairTo (K N:Nat) (T:List Int) (k p:Nat):List Int:=if p<k then castI (pairL K N T p) else []
theorem pairTo_zero (K N:Nat) (T:List Int):pairTo K N T 0=fun _=>[]:=by funext p; unfold pairTo; rw [if_neg (by omega)]
theorem pairTo_step (K N:Nat) (T:List Int) (k:Nat):updN (pairTo K N T k) k (castI (pairL K N T k))=pairTo K N T (k+1):=by
 funext p
 unfold pairTo
 by_cases e:p=k
 ·subst e; rw [updN_same,if_pos (by omega)]
 ·rw [updN_other _ _ _ e]
  by_cases h:p<k
  ·rw [if_pos h,if_pos (by omega)]
  ·rw [if_neg h,if_neg (by omega)]
def pairG (K N:Nat) (T:List Int):List (List Int):=rowsOf (N*N) fun p=>castI (pairL K N T p)
theorem cell_grown {w w':World} {row:Option Nat} {p:Addr} {v:Value} (hg:w.grownBy w' row) (h:w.cell? p=some v) (hne:row≠some p.block):w'.cell? p=some v :=
 (World.cell?_of_block (hg.block _ (World.block_lt_of_cell? _ _ h) (fun e=>hne e.symm))).trans h
theorem Rows.monoB {B B':Nat} {w:World} {f:Names} (h:Rows B w f) (hB:B'≤B):Rows B' w f :=
 ⟨fun i r hi=>by
   have ho:=h.1 i r hi
   refine ⟨ho.1,?_⟩
   rcases ho.2 with h2 | ⟨g,cap,cur,e,hb,r⟩
   ·exact .inl h2
   ·exact .inr ⟨g,cap,cur,e,Nat.le_trans hB hb,r⟩,h.2⟩
theorem pgraph_ok (r:Nat→Addr) (K R:Nat) (va:Option Addr) (vn vc:Nat) (T:List Int) (w:World) (hg:Glob r w) (h:IntsAt w (.slice va vn vc) T) (hr:RuleOk K R T) (hl:T.length≤256) :
 Calls Tryz.prog 50 #[.agg #[.int .i64 K,.int .i64 R,.slice va vn vc]] w (Ret2 (fun x y w'=>y=.nilIface∧∃ f vals,Rows w.heap.size w' f∧WN f x vals (pw K (2*wkR R)*pw K (2*wkR R)) (fun p=>castI (pairL K (pw K (2*wkR R)) (wkT K R T) p))) w):=by
 have b0:=belowAlloc w (.cells #[.int .i64 K,.int .i64 R,.slice va vn vc] 24)
 have q:Box3 (w.alloc (.cells #[.int .i64 K,.int .i64 R,.slice va vn vc] 24)) w.heap.size (.int .i64 K) (.int .i64 R) (.slice va vn vc):=by simp [Box3,go_sem]
 have hk1:=hr.k1
 have hk4:=hr.k4
 have hokW:=wk_ok hr
 have hlW:=wk_small hr hl
 have hRW:=wk_pos R
 have hN81:=nodes_le hokW hRW hlW
 obtain ⟨hdiv,hlen⟩:=hokW.half
 have hN1:=pw_pos (K:=K) (2*wkR R) hk1
 have hwork:=fun (w':World) (hgl:Glob r w') (hT:IntsAt w' (.slice va vn vc) T)=>working_ok r K R va vn vc T w' hgl hT hr hl
 have harr:=fun (a:Option Addr) (n c:Nat) (w':World) (hgl:Glob r w') (hT:IntsAt w' (.slice a n c) (wkT K R T))=>arrows_any r K (wkR R) a n c (wkT K R T) w' hgl hT hokW hlW
 rw [hdiv] at harr
 generalize pw K (2*wkR R)=N at *
 generalize wkT K R T=T' at *
 generalize wkR R=R' at *
 replace hwork:=Hd hwork
 replace harr:=Hd harr
 replace hg:=Hd (hg.below b0)
 replace h:=Hd (h.below b0)
 replace hokW:=Hd hokW
 replace hr:=Hd hr
 replace hdiv:=Hd hdiv
 replace hlen:=Hd hlen
 go_enter Tryz.func50,Tryz.ntmps50
 go_wp2_with fail
 refine (hwork.out _ hg.out h.out).mono ?_
 rintro e w1 ⟨x,y,rfl,b1,rfl,a,n,c,rfl,hT1⟩
 have b01:=Below.step b0 b1
 have ba:=belowAlloc w1 (.cells #[.int .i64 K,.int .i64 R',.slice a n c] 24)
 have q1:Box3 (w1.alloc (.cells #[.int .i64 K,.int .i64 R',.slice a n c] 24)) w1.heap.size (.int .i64 K) (.int .i64 R') (.slice a n c):=by simp [Box3,go_sem]
 have b02:=Below.step b01 ba
 have b12:=Below.step b1 ba
 have hT2:=hT1.below ba
 clear q
 replace hT1:=Hd hT1
 replace hT2:=Hd hT2
 go_wp2_with fail
 refine (harr.out a n c _ (hg.out.below b12) hT2.out).mono ?_
 rintro e w3 ⟨lv,rfl,b3,hA⟩
 have b03:=Below.step b02 b3
 clear q1
 obtain ⟨vs,hvs,hvl,hrows⟩:=hA
 obtain ⟨la,ln,lc,rfl⟩:=hvs.shape
 have ll:=fun w'=>hvs.len oneArrows 3 w'
 rw [hvl] at ll
 have hNN:(N:Int)*(N:Int)=((N*N:Nat):Int):=by simp
 have hM6:N*N≤6561:=Nat.mul_le_mul hN81 hN81
 have hNz1:¬ (N:Int)=0:=by omega
 have hNz2:((N:Int)==0)=false:=by rw [beq_eq_false_iff_ne]; omega
 have hNz3:(0:Int)<N:=by omega
 have hNz4:¬ N=0:=by omega
 obtain ⟨M,hM⟩:∃ M,N*N=M:=⟨_,rfl⟩
 rw [hM] at hNN hM6
 have hwM:IntKind.i64.wrap (M:Int)=M:=wrapK (by omega) (by omega)
 obtain ⟨ov,w4,mk,ho,hb4⟩:=run_makeW oneLists (M:Int) M w3 rfl (by omega)
 obtain ⟨f1,hr1,h1⟩:=WN.made M hb4 (Nat.le_refl _) ho
 obtain ⟨oa,on,oc,rfl⟩:=ho.shape
 have lo:=fun w'=>(ho.at).len oneLists 3 w'
 rw [List.length_replicate] at lo
 rw [← pairTo_zero K N T'] at h1
 replace hvs:=Hd hvs
 replace hrows:=Hd hrows
 replace hr1:=Hd hr1
 replace ho:=Hd ho
 replace hM:=Hd hM
 go_wp2_with fail
 clear mk lo ll
 go_loopw [33] (fun kv wr=>∃ (k:Nat) (f:Names) (vals:List Value),k≤M∧kv=.int .i64 k∧Rows w3.heap.size wr f∧Below w3.heap.size w3 wr∧WN f (.slice oa on oc) vals M (pairTo K N T' k)) (fun kv _=>M-(intOf kv).toNat)
 case atStart=>exact ⟨0,f1,_,by omega,rfl,hr1.out,hb4,h1⟩
 case round =>
  clear h1 ho hr1 hb4
  obtain ⟨k,f2,vals,hk,rfl,hr2,b2,h2⟩:=hrel
  obtain ⟨wo,rfl⟩:∃ wo:World,wo=wr:=⟨_,rfl⟩
  by_cases hlt:k<M
  ·obtain ⟨u,hu⟩:∃ u,k/N=u:=⟨_,rfl⟩
   obtain ⟨v,hv⟩:∃ v,k%N=v:=⟨_,rfl⟩
   have hun:u<N:=by rw [← hu]; exact div_lt_of (by rw [hM.out]; exact hlt)
   have hvn:v<N:=by rw [← hv]; exact Nat.mod_lt _ (by omega)
   have hqu:(k:Int)/(N:Int)=(u:Int):=by rw [← hu]; simp
   have hqv:(k:Int)%(N:Int)=(v:Int):=by rw [← hv]; simp
   have hqu2:(k:Int).tdiv (N:Int)=(u:Int):=by rw [Int.tdiv_eq_ediv_of_nonneg (by omega)]; exact hqu
   have hqv2:(k:Int).tmod (N:Int)=(v:Int):=by rw [Int.tmod_eq_emod_of_nonneg (by omega)]; exact hqv
   have hwu:IntKind.i64.wrap (u:Int)=u:=wrapK (by omega) (by omega)
   have hwv:IntKind.i64.wrap (v:Int)=v:=wrapK (by omega) (by omega)
   obtain ⟨gu,cu,eu,hcu,hcellU⟩:=hrows.out u hun
   obtain ⟨gv,cv,ev,hcv,hcellV⟩:=hrows.out v hvn
   have iU:=fun w'=>hvs.out.idx oneArrows u (by omega) w'
   have iV:=fun w'=>hvs.out.idx oneArrows v (by omega) w'
   have cU3:=hvs.out.cellV u (by omega)
   have cV3:=hvs.out.cellV v (by omega)
   rw [eu] at cU3
   rw [ev] at cV3
   have cU:=(b2.cell (World.block_lt_of_cell? _ _ cU3)).trans cU3
   generalize valAt (.slice la ln lc) u=ua at *
   have lenU:=lenArr gu K cu
   have lenV:=lenArr gv K cv
   have idxU:=fun s (hs:s<K) w'=>idxArr gu K cu s hs w'
   have idxV:=fun s (hs:s<K) w'=>idxArr gv K cv s hs w'
   have hcU:=fun (w':World) (hb:Below w3.heap.size w3 w') s (hs:s<K)=>(⟨cell_keep hb (hcellU s hs).1,cell_keep hb (hcellU s hs).2⟩:w'.cell? ⟨gu,s*2,none⟩=some (.int .i64 (toN K N u s))∧w'.cell? ⟨gu,s*2+1,none⟩=some (.int .i64 (labN K T' u s)))
   have hcV:=fun (w':World) (hb:Below w3.heap.size w3 w') s (hs:s<K)=>(⟨cell_keep hb (hcellV s hs).1,cell_keep hb (hcellV s hs).2⟩:w'.cell? ⟨gv,s*2,none⟩=some (.int .i64 (toN K N v s))∧w'.cell? ⟨gv,s*2+1,none⟩=some (.int .i64 (labN K T' v s)))
   have cVk:=fun (w':World) (hb:Below w3.heap.size w3 w')=>(hb.cell (World.block_lt_of_cell? _ _ cV3)).trans cV3
   generalize valAt (.slice la ln lc) v=va' at *
   replace hcU:=Hd hcU
   replace hcV:=Hd hcV
   replace cVk:=Hd cVk
   replace idxU:=Hd idxU
   replace idxV:=Hd idxV
   replace hcellU:=Hd hcellU
   replace hcellV:=Hd hcellV
   replace hr2:=Hd hr2
   replace hu:=Hd hu
   replace hv:=Hd hv
   replace eu:=Hd eu
   replace ev:=Hd ev
   clear cU3 cV3
   go_wp2_with fail
   clear cU iU
   go_loopw [10,43] (fun tv sv wr=>∃ (s:Nat) (tw:Value),s≤K∧sv=.int .i64 s∧tw=tv∧OwnI wo.heap.size wr tw (castI (rawP K N T' u v s))∧Below wo.heap.size wo wr) (fun _ sv _=>K-(intOf sv).toNat)
   case atStart=>exact ⟨0,_,by omega,rfl,rfl,OwnI.nil _ _,Below.refl _ _⟩
   case round =>
    obtain ⟨s,tv,hs,rfl,rfl,hoT,bT⟩:=hrel
    obtain ⟨wt,rfl⟩:∃ wt:World,wt=wr:=⟨_,rfl⟩
    by_cases hsl:s<K
    ·have b3t:=b2.trans (bT.mono b2.size)
     have iS:=fun w'=>idxU.out s hsl w'
     obtain ⟨cS0,cS1⟩:=hcU.out wt b3t s hsl
     obtain ⟨X,hX⟩:∃ X,toN K N u s=X:=⟨_,rfl⟩
     obtain ⟨Y,hY⟩:∃ Y,labN K T' u s=Y:=⟨_,rfl⟩
     rw [hX] at cS0
     rw [hY] at cS1
     have hXN:X<N:=by rw [← hX]; exact toN_lt (by omega)
     have bA:=belowAlloc wt (.cells #[.int .i64 X,.int .i64 Y] 169)
     have bTA:=bT.trans (bA.mono bT.size)
     have b3A:=b3t.trans (bA.mono b3t.size)
     have cA0:(wt.alloc (.cells #[.int .i64 X,.int .i64 Y] 169)).cell? ⟨wt.heap.size,0,none⟩=some (.int .i64 X):=by simp [go_sem]
     have cA1:(wt.alloc (.cells #[.int .i64 X,.int .i64 Y] 169)).cell? ⟨wt.heap.size,1,none⟩=some (.int .i64 Y):=by simp [go_sem]
     have cV:=cVk.out _ b3A
     have hoA:=hoT.below bA
     have hneT:tv.ownBlock≠some wt.heap.size:=fun e=>by have:=(hoT.lt _ e).2; omega
     replace hoT:=Hd hoT
     replace hoA:=Hd hoA
     replace hX:=Hd hX
     replace hY:=Hd hY
     replace cA0:=Hd cA0
     replace cA1:=Hd cA1
     go_wp2_with fail
     obtain ⟨wa,hwa⟩:∃ wa:World,wa=wt.alloc (.cells #[.int .i64 X,.int .i64 Y] 169):=⟨_,rfl⟩
     rw [← hwa] at bA bTA b3A cA0 cA1 cV hoA ⊢
     replace hwa:=Hd hwa
     go_loopw [10,54] (fun tv' jv wr=>∃ (j:Nat) (tw:Value),j≤K∧jv=.int .i64 j∧tw=tv'∧OwnI wo.heap.size wr tw (castI (rawP K N T' u v s++rawS K N T' u v s j))∧Below wo.heap.size wo wr∧tw.ownBlock≠some wt.heap.size∧wr.cell? ⟨wt.heap.size,0,none⟩=some (.int .i64 X)∧wr.cell? ⟨wt.heap.size,1,none⟩=some (.int .i64 Y)) (fun _ jv _=>K-(intOf jv).toNat)
     case atStart=>exact ⟨0,_,by omega,rfl,rfl,by simpa [rawS] using hoA.out,bTA,hneT,cA0.out,cA1.out⟩
     case round =>
      obtain ⟨j,tj,hj,rfl,rfl,hoJ,bJ,hne,y0,y1⟩:=hrel
      obtain ⟨wj,rfl⟩:∃ wj:World,wj=wr:=⟨_,rfl⟩
      by_cases hjl:j<K
      ·have b3j:=b2.trans (bJ.mono b2.size)
       have iJ:=fun w'=>idxV.out j hjl w'
       obtain ⟨cJ0,cJ1⟩:=hcV.out wj b3j j hjl
       obtain ⟨X2,hX2⟩:∃ X,toN K N v j=X:=⟨_,rfl⟩
       obtain ⟨Y2,hY2⟩:∃ Y,labN K T' v j=Y:=⟨_,rfl⟩
       rw [hX2] at cJ0
       rw [hY2] at cJ1
       have hXN2:X2<N:=by rw [← hX2]; exact toN_lt (by omega)
       have bA2:=belowAlloc wj (.cells #[.int .i64 X2,.int .i64 Y2] 169)
       have y0':=cell_keep bA2 y0
       have y1':=cell_keep bA2 y1
       have bJA:=bJ.trans (bA2.mono bJ.size)
       have hoJA:=hoJ.below bA2
       have hsz:=bJA.size
       have hwt:wt.heap.size<wj.heap.size:=World.block_lt_of_cell? _ _ y0
       have hlenJ:(castI (rawP K N T' u v s++rawS K N T' u v s j)).length≤100:=by
        rw [castI_len,List.length_append]
        have e1:=rawP_len K N T' u v s
        have e2:=rawS_len K N T' u v s j
        have e3:=Nat.mul_le_mul hs hk4
        omega
       replace hoJ:=Hd hoJ
       replace hX2:=Hd hX2
       replace hY2:=Hd hY2
       have cB0:(wj.alloc (.cells #[.int .i64 X2,.int .i64 Y2] 169)).cell? ⟨wj.heap.size,0,none⟩=some (.int .i64 X2):=by simp [go_sem]
       have cB1:(wj.alloc (.cells #[.int .i64 X2,.int .i64 Y2] 169)).cell? ⟨wj.heap.size,1,none⟩=some (.int .i64 Y2):=by simp [go_sem]
       go_upto_region 17 with fail
       obtain ⟨wb,hwb⟩:∃ wb:World,wb=wj.alloc (.cells #[.int .i64 X2,.int .i64 Y2] 169):=⟨_,rfl⟩
       rw [← hwb] at bA2 y0' y1' bJA hoJA hsz cB0 cB1 ⊢
       have hszb:wj.heap.size<wb.heap.size:=World.block_lt_of_cell? _ _ cB0
       replace hszb:=Hd hszb
       replace hwb:=Hd hwb
       by_cases hYY:Y=Y2
       ·have hYq:(Y==Y2)=true:=by rw [beq_iff_eq]; exact hYY
        have hraw:rawS K N T' u v s (j+1)=rawS K N T' u v s j++[X*N+X2]:=by
         rw [rawS_succ]; unfold rawT
         rw [hY.out,hY2.out,hX.out,hX2.out,if_pos hYY]
        obtain ⟨m,hm⟩:∃ m,X*N=m:=⟨_,rfl⟩
        have hm1:(X:Int)*(N:Int)=(m:Int):=by rw [← hm]; simp
        have hml:m≤6561:=by rw [← hm]; exact Nat.le_trans (Nat.mul_le_mul (show X≤81 by omega) hN81) (by decide)
        have hwm:IntKind.i64.wrap (m:Int)=m:=wrapK (by omega) (by omega)
        have hsum:(m:Int)+(X2:Int)=((m+X2:Nat):Int):=by simp
        rw [hm] at hraw
        obtain ⟨z,hz⟩:∃ z,m+X2=z:=⟨_,rfl⟩
        rw [hz] at hsum hraw
        have hzl:z≤7000:=by omega
        have hwz:IntKind.i64.wrap (z:Int)=z:=wrapK (by omega) (by omega)
        replace hraw:=Hd hraw
        replace hm:=Hd hm
        replace hz:=Hd hz
        replace hYY:=Hd hYY
        go_wp2_with (at_builtin; go_loud (refine wpl_app1 rfl _ _ rfl wo.heap.size tj _ z hoJA rfl rfl (by omega) hsz ?_))
        intro v' w7 ho7 b7 hal
        have hne':v'.ownBlock≠some wt.heap.size:=by
         rcases hal with ⟨q1,_⟩ | ⟨m,q1,q2,_⟩
         ·rw [ownBlock_eq hoJA ho7 q1]; exact hne
         ·rw [q1]; intro e; injection e with e; have:=hszb.out; omega
        have y07:w7.cell? ⟨wt.heap.size,0,none⟩=some (.int .i64 X)∧w7.cell? ⟨wt.heap.size,1,none⟩=some (.int .i64 Y):=by
         rcases hal with ⟨_,q2⟩ | ⟨_,_,_,q2⟩
         ·exact ⟨cell_grown q2 y0' hne,cell_grown q2 y1' hne⟩
         ·exact ⟨cell_grown q2 y0' (by simp),cell_grown q2 y1' (by simp)⟩
        obtain ⟨ta,tn,tc,rfl⟩:=ho7.at.shape
        replace ho7:=Hd ho7
        replace y07:=Hd y07
        clear hal
        go_wp2
        go_roundw
        case measure=>simp [intOf]; omega
        case rel=>exact ⟨j+1,_,by omega,by go_num,rfl,by rw [hraw.out,← List.append_assoc,castI_snoc]; exact ho7.out,bJA.trans b7,hne',y07.out.1,y07.out.2⟩
       ·have hYq:(Y==Y2)=false:=by rw [beq_eq_false_iff_ne]; exact hYY
        have hraw:rawS K N T' u v s (j+1)=rawS K N T' u v s j:=by
         rw [rawS_succ]; unfold rawT
         rw [hY.out,hY2.out,if_neg hYY,List.append_nil]
        replace hraw:=Hd hraw
        replace hoJA:=Hd hoJA
        replace hYY:=Hd hYY
        go_wp2
        go_roundw
        case measure=>simp [intOf]; omega
        case rel=>exact ⟨j+1,_,by omega,by go_num,rfl,by rw [hraw.out]; exact hoJA.out,bJA,hne,y0',y1'⟩
      ·obtain rfl:j=K:=by omega
       rw [← rawP_succ] at hoJ
       replace hoJ:=Hd hoJ
       go_wp2
       go_roundw
       case measure=>simp [intOf]; omega
       case rel=>exact ⟨s+1,_,by omega,by go_num,rfl,hoJ.out,bJ⟩
    ·obtain rfl:s=K:=by omega
     have hlT:(castI (rawP s N T' u v s)).length≤17592186044416:=by
      rw [castI_len]
      have e1:=rawP_len s N T' u v s
      have e3:=Nat.mul_le_mul hk4 hk4
      omega
     have hsz:=bT.size
     replace hoT:=Hd hoT
     go_wp2_with fail
     refine (sort_own wo.heap.size tv _ wt hoT.out hlT hsz).mono ?_
     rintro e w8 ⟨rfl,ho8,b8⟩
     have bT8:=bT.trans b8
     replace ho8:=Hd ho8
     go_wp2_with fail
     refine (compact_own wo.heap.size tv _ w8 ho8.out (by rw [srt_length]; omega)).mono ?_
     rintro e w9 ⟨x,rfl,_,ho9,b9⟩
     have bT9:=bT8.trans b9
     have hded:ded (srt (castI (rawP s N T' u v s))) (srt (castI (rawP s N T' u v s))).length=castI (pairL s N T' k):=by
      refine ded_pair (by omega) (srt_sorted _) (fun x=>?_)
      rw [srt_mem,hu.out,hv.out]; rfl
     rw [hded] at ho9
     have hnew:=h2.new hr2.out k bT9 b2.size ho9
     obtain ⟨y1,y2,y3,f8,hr8,h8,_⟩:=h2.put hlt hnew
     rw [pairTo_step] at h8
     have iO:=fun w'=>((hr2.out.ownV h2.outer).at).idx oneLists k (by rw [h2.len]; exact hlt) w'
     generalize valAt (.slice oa on oc) k=ka at *
     obtain ⟨xa,xn,xc,rfl⟩:=ho9.at.shape
     have b39:=b2.trans (bT9.mono b2.size)
     replace hr8:=Hd hr8
     replace ho9:=Hd ho9
     replace hded:=Hd hded
     replace hnew:=Hd hnew
     go_wp2
     go_roundw
     case measure=>simp [intOf]; omega
     case rel=>exact ⟨k+1,f8,_,by omega,by go_num,hr8.out,b39.setCell y3 _,h8⟩
  ·obtain rfl:k=M:=by omega
   have hR:=hr2.monoB (Nat.le_trans b03.size (Nat.le_refl _))
   have hW:WN f2 (.slice oa on oc) vals (N*N) (fun p=>castI (pairL K N T' p)):=by
    rw [hM.out]
    exact ⟨h2.outer,h2.len,fun u hu=>by rw [h2.rows u hu]; unfold pairTo; rw [if_pos hu]⟩
   have bE:=Below.step b03 b2
   replace hR:=Hd hR
   replace hr2:=Hd hr2
   go_wp2
   go_ret2
   exact ⟨_,_,rfl,bE,rfl,_,_,hR.out,hW⟩
end Go.Proofs.YtncpnaoabkjegaaGreatDoor
namespace Go.Proofs.YtncpnaoabkjegaaGreatDoor
open Go.RowKit
set_option maxRecDepth 100000
theorem Rows.push {B:Nat} {w w1:World} {f:Names} {i:Nat×Nat} {v v':Value} {xs:List Int} (h:Rows B w f) (hi:f i=some (rowI v xs)) (x:Int) (ho:OwnI B w1 v' (xs++[x]))
 (hg:w.grownBy w1 v.ownBlock) (hal:v'.ownBlock=v.ownBlock∨∃ k,v'.ownBlock=some k∧w.heap.size≤k):Rows B w1 (upd f i (some (rowI v' (xs++[x])))) :=
 h.grown (r':=rowI v' (xs++[x])) hi hg ho hal
theorem alongW_snoc (K m:Nat) (F:Nat→Nat) (l:List Nat) (p:Nat) (hl:l≠[]):alongW K m F (l++[p])=alongW K m F l++[((F p%K:Nat):Int)]:=by
 cases l with
 | nil=>exact absurd rfl hl
 | cons a l=>simp [alongW,List.getD]
theorem alongW_one (K m:Nat) (F:Nat→Nat) (p:Nat):alongW K m F [p]=digs K m (F p):=by simp [alongW,List.getD]
theorem pairs_wrong (r:Nat→Addr) (at_ n:Int) (w:World) (hg:Glob r w) (h1:1≤n) (h2:n≤11) :
 Calls Tryz.prog 119 #[.int .i64 at_,.int .i64 n] w (Ret1 (fun v w'=>ErrIs r w' (fresh sPairs at_ n) v) w):=by
 go_enter Tryz.func119,Tryz.ntmps119
 go_wp2_with fail
 refine (new_any r _ at_ n w hg h1 h2).mono ?_
 rintro e w' ⟨v,rfl,hb,he⟩
 go_wp2
 go_ret
 exact ⟨_,rfl,hb,he⟩
def AllFit (K N:Nat) (T:List Int) (ns:List Nat):Prop:=∀ i,i+1<ns.length→StepFits K N T (ns.getD i 0) (ns.getD (i+1) 0)
set_option maxHeartbeats 8000000
theorem indexFunc2_any (v b c:Value) (F:Nat) (xs:List Int) (p:Int→Bool) (w:World) (h:IntsAt w v xs)
 (eg:∀ args w,(callFunc F args).run Tryz.prog w=.ok (.enter F args) w)
 (hF:∀ x:Int,x∈xs→∀ n,Calls Tryz.prog F #[.int .i64 x,b,c] (w.drewN n) (RetB (p x) (w.drewN n))) :
 Calls Tryz.prog 168 #[v,.func (.func F) #[] #[b,c]] w fun e w'=>∃ n,e=.returned (.int .i64 (idxOf p xs))∧w'=w.drewN n:=by
 have hlen:=h.len
 have hm:=h.len_le
 replace hF:=Hd hF
 go_enter Tryz.func168,Tryz.ntmps168
 go_wp2
 go_loopw [8] (fun i wr=>(∃ k:Nat,k≤xs.length∧i=.int .i64 k∧∀ j (hj:j<xs.length),j<k→p xs[j]=false)∧∃ n,wr=w.drewN n) (fun i _=>xs.length-(intOf i).toNat)
 case atStart=>exact ⟨⟨0,by omega,rfl,by intro t _ h; omega⟩,0,rfl⟩
 case round =>
  obtain ⟨⟨k,hk,rfl,hp⟩,n,rfl⟩:=hrel
  replace hp:=Hd hp
  by_cases hlt:k<xs.length
  ·have hi:=h.idx k hlt
   have hc:(w.drewN n).cell? (valAt v k)=some (.int .i64 xs[k]):=h.cell k hlt
   have hf:=Hd (hF.out xs[k] (by simp) n)
   go_wp2_with fail
   refine hf.out.mono ?_
   rintro e w' ⟨n2,rfl,rfl⟩
   cases hpk:p xs[k]
   ·have HP:=Hd hpk
    go_wp2
    go_roundw
    case rel =>
     refine ⟨⟨k+1,by omega,by go_num,?_⟩,_,rfl⟩
     intro j hj hjk
     by_cases e:j=k
     ·subst e; exact HP.out
     ·exact hp.out j hj (by omega)
    case measure=>simp [intOf]; omega
   ·have HP:=Hd hpk
    go_wp2
    go_ret
    exact ⟨_,ret_int (idxOf_at k hlt HP.out fun j hj h=>hp.out j hj h).symm,rfl⟩
  ·go_wp2
   go_ret
   refine ⟨n,ret_int (idxOf_neg fun x hx=>?_).symm,rfl⟩
   obtain ⟨j,hj,rfl⟩:=List.mem_iff_getElem.1 hx
   exact hp.out j hj (by omega)
theorem idxOf_any (p:Int→Bool) (xs:List Int):(0≤idxOf p xs)↔∃ x∈xs,p x=true:=by
 rcases idxOf_cases p xs with ⟨h1,h2⟩ | ⟨k,h1,h2,h3,_⟩
 ·rw [h1]
  exact ⟨fun h=>by omega,fun ⟨x,hx,hp⟩=>by rw [h2 x hx] at hp; cases hp⟩
 ·rw [h1]
  exact ⟨fun _=>⟨_,List.getElem_mem h2,h3⟩,fun _=>by omega⟩
theorem containsFunc2_any (v b c:Value) (F:Nat) (xs:List Int) (p:Int→Bool) (w:World) (h:IntsAt w v xs)
 (eg:∀ args w,(callFunc F args).run Tryz.prog w=.ok (.enter F args) w)
 (hF:∀ x:Int,x∈xs→∀ n,Calls Tryz.prog F #[.int .i64 x,b,c] (w.drewN n) (RetB (p x) (w.drewN n))) :
 Calls Tryz.prog 117 #[v,.func (.func F) #[] #[b,c]] w (RetB (decide (0≤idxOf p xs)) w):=by
 have hI:=indexFunc2_any v b c F xs p w h eg hF
 clear hF eg
 go_enter Tryz.func117,Tryz.ntmps117
 go_wp2_with fail
 refine hI.mono ?_
 rintro e w' ⟨n,rfl,rfl⟩
 go_wp2
 go_ret
 exact ⟨n,ret_bool (by simp),rfl⟩
theorem loops1_any (t v bp bv:Nat) (pv:Value) (ps:List Int) (w:World) (hp:IntsAt w pv ps) (c1:w.cell? ⟨bp,0,none⟩=some pv) (c2:w.cell? ⟨bv,0,none⟩=some (.int .i64 v)) (ht:t<ps.length) (hv:v<ps.length) :
 Calls Tryz.prog 187 #[.int .i64 t,.pointer (some ⟨bp,0,none⟩),.pointer (some ⟨bv,0,none⟩)] w (RetB (decide (ps.getD t 0=ps.getD v 0)) w):=by
 have iT:=fun w'=>hp.idx t ht w'
 have cT:=hp.cellD t ht
 have iV:=fun w'=>hp.idx v hv w'
 have cV:=hp.cellD v hv
 generalize ps.getD t 0=a at *
 generalize ps.getD v 0=b at *
 have heq:(a==b)=decide (a=b):=by by_cases e:a=b<;>simp [e]
 generalize valAt pv t=ta at *
 generalize valAt pv v=va at *
 replace hp:=Hd hp
 replace heq:=Hd heq
 generalize hd:decide (a=b)=d at *
 go_enter Tryz.func187,Tryz.ntmps187
 go_upto_region 1 with fail
 refine wp_region_plan (fun w'=>w'.cell? ⟨bp,0,none⟩=some pv∧w'.cell? ⟨bv,0,none⟩=some (.int .i64 v)∧w'.cell? ta=some (.int .i64 a)∧w'.cell? va=some (.int .i64 b)) 9 [(0,true),(1,true),(2,true),(3,true),(4,true),(5,true),(6,true),(7,true),(8,true)] (by kernel_rfl) (by kernel_rfl) ?_
 have hS:w.drew.cell? ⟨bp,0,none⟩=some pv∧w.drew.cell? ⟨bv,0,none⟩=some (.int .i64 v)∧w.drew.cell? ta=some (.int .i64 a)∧w.drew.cell? va=some (.int .i64 b):=⟨c1,c2,cT,cV⟩
 refine pqY 5 hS ?_
 refine pqY 6 hS ?_
 refine pqY 7 hS ?_
 refine pqY 8 hS ?_
 refine pqY 9 hS ?_
 refine pqY 10 hS ?_
 refine pqY 11 hS ?_
 refine pqY 12 hS ?_
 refine pqY 13 hS ?_
 refine head0 ?_
 simp only [List.drop_succ_cons,List.drop_zero]
 clear hS
 go_wp2
 refine NoPanic.normal ?_
 go_wp2
 go_ret
 exact ⟨1,ret_bool heq.out,rfl⟩
theorem eg_loops1 (args:Array Value) (w:World):(callFunc 187 args).run Tryz.prog w=.ok (.enter 187 args) w:=by kernel_rfl
theorem loops14_any (r:Nat→Addr) (na:Option Addr) (nc:Nat) (G:List (List Int)) (w:World) (hg:Glob r w) (h:ListsAt w (.slice na G.length nc) G) (hsz:∀ k,k<G.length→(G.getD k []).length≤17592186044416) (hck:checkG G=none) (hok:GraphOk G) (hn:G.length≤8200) :
 Calls Tryz.prog 125 #[.slice na G.length nc] w (Ret2 (fun x y w'=>y=.nilIface∧∃ on:Nat→Bool,OwnV 4 w.heap.size w' x (tabB G.length on)∧∀ v,v<G.length→(on v=true↔OnLoop (adjOf G) v)) w):=by
 have hP:=parts_any r na nc G w hg h hsz
 have hlg:=h.len 3 w
 replace h:=Hd h
 replace hok:=Hd hok
 replace hck:=Hd hck
 go_enter Tryz.func125,Tryz.ntmps125
 go_wp2_with fail
 refine hP.mono ?_
 rintro e w1 ⟨pv,y,rfl,b1,hE,hps,-⟩
 rw [hck.out] at hE
 obtain rfl:=hE.none_eq
 obtain ⟨ps,hpo,ho⟩:=hps hck.out
 have hpl:=hpo.len
 obtain ⟨pa,pn,pc,rfl⟩:=ho.at.shape
 have b1a:=belowAlloc w1 (.cells #[.slice pa pn pc] 22)
 obtain ⟨W1,hW1⟩:∃ W1:World,W1=w1.alloc (.cells #[.slice pa pn pc] 22):=⟨_,rfl⟩
 have R1:=(Rows.void w.heap.size w).add (i:=(2,0)) (r':=rowI (.slice pa pn pc) ps) b1 ho (fun k hk=>(ho.lt k hk).1)
 have hbx:OwnV 22 w1.heap.size (w1.alloc (.cells #[.slice pa pn pc] 22)) (.slice (some ⟨w1.heap.size,0,none⟩) 1 1) [.slice pa pn pc] :=
  World.ownsRow_lit (base:=w1.heap.size) (e:=22) (size:=1) w1 #[.slice pa pn pc] 1 (Nat.le_refl _) (by decide) rfl
 have R2:=R1.add (i:=(3,0)) (r':=rowV 22 (.slice (some ⟨w1.heap.size,0,none⟩) 1 1) [.slice pa pn pc]) b1a (hbx.mono b1.size) (fun k hk=>by cases hk; exact Nat.le_refl _)
 rw [← hW1] at R2 b1a
 have bW1:=Below.step b1 b1a
 obtain ⟨ov,w2,mk,hin,hb2⟩:=run_makeW oneBoolG (G.length:Int) G.length W1 rfl (by omega)
 obtain ⟨oa,on',oc,rfl⟩:=hin.shape
 rw [← tabB_none] at hin
 have R3:=R2.add (i:=(1,0)) (r':=rowV 4 (.slice oa on' oc) (tabB G.length fun _=>false)) hb2 (hin.mono bW1.size) (fun k hk=>(hin.lt k hk).1)
 have bW2:=Below.step bW1 hb2
 have hf1:upd (upd (upd (fun _=>Option.none) (2,0) (some (rowI (.slice pa pn pc) ps))) (3,0) (some (rowV 22 (.slice (some ⟨w1.heap.size,0,none⟩) 1 1) [.slice pa pn pc]))) (1,0) (some (rowV 4 (.slice oa on' oc) (tabB G.length fun _=>false))) (2,0)=some (rowI (.slice pa pn pc) ps):=by rw [upd_ne _ _ (by simp),upd_ne _ _ (by simp),upd_same]
 have hf2:upd (upd (upd (fun _=>Option.none) (2,0) (some (rowI (.slice pa pn pc) ps))) (3,0) (some (rowV 22 (.slice (some ⟨w1.heap.size,0,none⟩) 1 1) [.slice pa pn pc]))) (1,0) (some (rowV 4 (.slice oa on' oc) (tabB G.length fun _=>false))) (3,0)=some (rowV 22 (.slice (some ⟨w1.heap.size,0,none⟩) 1 1) [.slice pa pn pc]):=by rw [upd_ne _ _ (by simp),upd_same]
 have hf3:upd (upd (upd (fun _=>Option.none) (2,0) (some (rowI (.slice pa pn pc) ps))) (3,0) (some (rowV 22 (.slice (some ⟨w1.heap.size,0,none⟩) 1 1) [.slice pa pn pc]))) (1,0) (some (rowV 4 (.slice oa on' oc) (tabB G.length fun _=>false))) (1,0)=some (rowV 4 (.slice oa on' oc) (tabB G.length fun _=>false)):=by rw [upd_same]
 generalize upd (upd (upd (fun _=>Option.none) (2,0) (some (rowI (.slice pa pn pc) ps))) (3,0) (some (rowV 22 (.slice (some ⟨w1.heap.size,0,none⟩) 1 1) [.slice pa pn pc]))) (1,0) (some (rowV 4 (.slice oa on' oc) (tabB G.length fun _=>false)))=f1 at *
 replace hf1:=Hd hf1
 replace hf2:=Hd hf2
 replace hf3:=Hd hf3
 replace R3:=Hd R3
 replace hpo:=Hd hpo
 replace hpl:=Hd hpl
 clear hE hps ho R1 R2 hbx hin hP
 go_upto_region 4 with fail
 rw [← hW1]
 replace hW1:=Hd hW1
 go_wp2_with fail
 clear mk
 go_loopw [22] (fun kv wr=>∃ (k:Nat) (F:Nat→Bool) (f:Names),k≤G.length∧kv=.int .i64 k∧Rows w.heap.size wr f∧Below w.heap.size w wr∧f (2,0)=some (rowI (.slice pa pn pc) ps)∧f (3,0)=some (rowV 22 (.slice (some ⟨w1.heap.size,0,none⟩) 1 1) [.slice pa pn pc])∧f (1,0)=some (rowV 4 (.slice oa on' oc) (tabB G.length F))∧∀ x,x<k→(F x=true↔OnLoop (adjOf G) x)) (fun kv _=>G.length-(intOf kv).toNat)
 case atStart=>exact ⟨0,_,f1,Nat.zero_le _,rfl,R3.out,bW2,hf1.out,hf2.out,hf3.out,fun x hx=>by omega⟩
 case round =>
  clear R3 hf1 hf2 hf3
  obtain ⟨k,F,f2,hk,rfl,hR,hB,g2,g3,g1,hF⟩:=hrel
  obtain ⟨wo,rfl⟩:∃ wo:World,wo=wr:=⟨_,rfl⟩
  by_cases hlt:k<G.length
  ·obtain ⟨mv,iR,cR0,hM0⟩:=h.out.row k hlt
   have cR:=(hB.cell (World.block_lt_of_cell? _ _ cR0)).trans cR0
   have hM:=hM0.below hB
   have hgp:=hok.out k hlt
   have hon:=onLoop_parts hok.out hpo.out hlt
   have hadj:adjOf G k=(G.getD k []).map Int.toNat:=rfl
   rw [hadj] at hon
   generalize G.getD k []=gx at *
   generalize valAt (.slice na G.length nc) k=ra at *
   obtain ⟨ma,mn,mc,rfl⟩:=hM.shape
   have ba:=belowAlloc wo (.cells #[.int .i64 (k:Int)] 3)
   have cV:(wo.alloc (.cells #[.int .i64 (k:Int)] 3)).cell? ⟨wo.heap.size,0,none⟩=some (.int .i64 k):=by simp [go_sem]
   obtain ⟨W,hW⟩:∃ W:World,W=(wo.alloc (.cells #[.int .i64 (k:Int)] 3)).drew:=⟨_,rfl⟩
   have bW:Below wo.heap.size wo W:=by rw [hW]; exact ba.drew
   have cVW:W.cell? ⟨wo.heap.size,0,none⟩=some (.int .i64 k):=by rw [hW]; exact cV
   have hRW:=hR.below bW
   have hpW:=(hRW.ownI g2).at
   have hMW:=hM.below bW
   have cP:W.cell? ⟨w1.heap.size,0,none⟩=some (.slice pa pn pc):=by
    have:=hRW.cell g3 (g:=w1.heap.size) (cap:=1) rfl 0 (by simp)
    simpa using this
   have hcl:∀ x:Int,x∈gx→∀ n,Calls Tryz.prog 187 #[.int .i64 x,.pointer (some ⟨w1.heap.size,0,none⟩),.pointer (some ⟨wo.heap.size,0,none⟩)] (W.drewN n) (RetB (decide (ps.getD x.toNat 0=ps.getD k 0)) (W.drewN n)):=fun x hx n=>by
    obtain ⟨p1,p2⟩:=hgp x hx
    obtain ⟨t,rfl⟩:∃ t:Nat,x=t:=Int.eq_ofNat_of_zero_le p1
    rw [Int.toNat_natCast]
    exact loops1_any t k w1.heap.size wo.heap.size (.slice pa pn pc) ps (W.drewN n) (hpW.drewN n) cP cVW (by rw [hpl.out]; omega) (by rw [hpl.out]; exact hlt)
   have hcf:=containsFunc2_any (.slice ma mn mc) (.pointer (some ⟨w1.heap.size,0,none⟩)) (.pointer (some ⟨wo.heap.size,0,none⟩)) 187 gx (fun x=>decide (ps.getD x.toNat 0=ps.getD k 0)) W hMW eg_loops1 hcl
   obtain ⟨bb,hbb⟩:∃ bb,decide (0≤idxOf (fun x=>decide (ps.getD x.toNat 0=ps.getD k 0)) gx)=bb:=⟨_,rfl⟩
   rw [hbb] at hcf
   have hF2:∀ x,x<k+1→(updN F k bb x=true↔OnLoop (adjOf G) x):=fun x hx=>by
    by_cases e:x=k
    ·subst e
     rw [updN_same,hon,← hbb,decide_eq_true_iff,idxOf_any]
     constructor
     ·rintro ⟨z,hz,hzp⟩
      exact ⟨z.toNat,List.mem_map.2 ⟨z,hz,rfl⟩,of_decide_eq_true hzp⟩
     ·rintro ⟨t,ht,htp⟩
      obtain ⟨z,hz,rfl⟩:=List.mem_map.1 ht
      exact ⟨z,hz,decide_eq_true htp⟩
    ·rw [updN_other _ _ _ e]; exact hF x (by omega)
   have hOV0:=hRW.ownV g1
   have iO:=fun w'=>hOV0.at.idx oneBoolG k (by rw [tabB_len]; exact hlt) w'
   replace hbb:=Hd hbb
   replace hF2:=Hd hF2
   replace hF:=Hd hF
   replace hcf:=Hd hcf
   replace hcl:=Hd hcl
   replace hon:=Hd hon
   replace hgp:=Hd hgp
   replace hadj:=Hd hadj
   replace hR:=Hd hR
   replace hRW:=Hd hRW
   replace hOV0:=Hd hOV0
   replace hM:=Hd hM
   replace hM0:=Hd hM0
   replace hMW:=Hd hMW
   replace hpW:=Hd hpW
   replace g1:=Hd g1
   replace g2:=Hd g2
   replace g3:=Hd g3
   clear cR0 cP
   go_upto_region 8 with fail
   refine wp_region_plan (fun w'=>w'.cell? ⟨wo.heap.size,0,none⟩=some (.int .i64 k)) 6 [(0,true),(1,true),(2,true),(3,true),(4,false),(5,true)] (by kernel_rfl) (by kernel_rfl) ?_
   rw [← hW]
   replace hW:=Hd hW
   have hS:W.cell? ⟨wo.heap.size,0,none⟩=some (.int .i64 k):=cVW
   refine pqY 27 hS ?_
   refine pqY 28 hS ?_
   refine pqY 29 hS ?_
   refine pqY 30 hS ?_
   refine headC rfl (fun KK hK=>?_)
   go_simp
   refine hcf.out.mono ?_
   rintro e w5 h5
   obtain ⟨n5,rfl,rfl⟩:=h5
   have hS5:(W.drewN n5).cell? ⟨wo.heap.size,0,none⟩=some (.int .i64 k):=cVW
   refine hK _ _ hS5 ?_
   clear hK KK
   refine pqY 32 hS5 ?_
   refine head0 ?_
   simp only [List.drop_succ_cons,List.drop_zero]
   clear hS hS5
   have b5:Below wo.heap.size wo (W.drewN n5):=below_drewN bW n5
   have hR5:=hRW.out.drewN n5
   have hOV:=hR5.ownV g1.out
   have cT:=hOV.at.cellV k (by rw [tabB_len]; exact hlt)
   rw [tabB_get _ _ _ hlt] at cT
   have fT:=hOV.frz k (by rw [tabB_len]; exact hlt)
   have kT:=(hOV.blkB k (by rw [tabB_len]; exact hlt)).2
   have hR6:=hR5.setV g1.out k (by rw [tabB_len]; exact hlt) (.bool bb)
   rw [tabB_upd] at hR6
   have b6:Below w.heap.size w ((W.drewN n5).setCell (valAt (.slice oa on' oc) k) (.bool bb)):=(hB.trans (b5.mono hB.size)).setCell kT _
   generalize valAt (.slice oa on' oc) k=ta at *
   replace hR5:=Hd hR5
   replace hR6:=Hd hR6
   replace hOV:=Hd hOV
   clear iO
   go_wp2
   refine NoPanic.normal ?_
   go_wp2
   go_roundw
   case measure=>simp [intOf]; omega
   case rel=>exact ⟨k+1,_,_,by omega,by go_num,hR6.out,b6,by rw [upd_ne _ _ (by simp)]; exact g2.out,by rw [upd_ne _ _ (by simp)]; exact g3.out,by rw [upd_same],hF2.out⟩
  ·obtain rfl:k=G.length:=by omega
   have hres:=hR.ownV g1
   replace hres:=Hd hres
   replace hF:=Hd hF
   replace hR:=Hd hR
   replace g1:=Hd g1
   replace g2:=Hd g2
   replace g3:=Hd g3
   go_wp2
   go_ret2
   exact ⟨_,_,rfl,hB,rfl,F,hres.out,hF.out⟩
end Go.Proofs.YtncpnaoabkjegaaGreatDoor
namespace Go.Proofs.YtncpnaoabkjegaaGreatDoor
def extQ (q:List Nat) (l:List Nat):List Nat:=l.foldl (fun q t=>if t∈q then q else q++[t]) q
theorem extQ_nil (q:List Nat):extQ q []=q:=rfl
theorem extQ_snoc (q l:List Nat) (t:Nat):extQ q (l++[t])=if t∈extQ q l then extQ q l else extQ q l++[t]:=by
 unfold extQ; rw [List.foldl_append]; rfl
def runQ (adj:Nat→List Nat) (v:Nat):Nat→List Nat
 | 0=>[v]
 | i+1=>match (runQ adj v i)[i]? with
  | some u=>extQ (runQ adj v i) (adj u)
  | none=>runQ adj v i
theorem runQ_succ {adj:Nat→List Nat} {v i u:Nat} (h:(runQ adj v i)[i]?=some u):runQ adj v (i+1)=extQ (runQ adj v i) (adj u):=by
 rw [runQ,h]
def NearIs (adj:Nat→List Nat) (P:Nat→Prop) (v u:Nat):Prop:=∃ i,(runQ adj v i)[i]?=some u∧P u∧∀ j,j<i→∀ x,(runQ adj v j)[j]?=some x→¬ P x
def NRun (adj:Nat→List Nat) (P:Nat→Prop) (v:Nat) (q:List Nat) (i:Nat):Prop:=q=runQ adj v i∧∀ j,j<i→∀ x,(runQ adj v j)[j]?=some x→¬ P x
def NRunIn (adj:Nat→List Nat) (P:Nat→Prop) (v:Nat) (q:List Nat) (i u j:Nat):Prop:=q=extQ (runQ adj v i) ((adj u).take j)∧(runQ adj v i)[i]?=some u∧¬ P u∧∀ j,j<i→∀ x,(runQ adj v j)[j]?=some x→¬ P x
theorem NRun.start (adj:Nat→List Nat) (P:Nat→Prop) (v:Nat):NRun adj P v [v] 0:=⟨rfl,fun _ h=>absurd h (Nat.not_lt_zero _)⟩
theorem NRun.hit {adj:Nat→List Nat} {P:Nat→Prop} {v:Nat} {q:List Nat} {i u:Nat} (h:NRun adj P v q i) (hu:q[i]?=some u) (hp:P u):NearIs adj P v u:=⟨i,by rw [← h.1]; exact hu,hp,h.2⟩
theorem NRun.enter {adj:Nat→List Nat} {P:Nat→Prop} {v:Nat} {q:List Nat} {i u:Nat} (h:NRun adj P v q i) (hu:q[i]?=some u) (hp:¬ P u):NRunIn adj P v q i u 0:=⟨by rw [List.take_zero,extQ_nil]; exact h.1,by rw [← h.1]; exact hu,hp,h.2⟩
theorem NRunIn.push {adj:Nat→List Nat} {P:Nat→Prop} {v:Nat} {q:List Nat} {i u j t:Nat} (h:NRunIn adj P v q i u j) (ht:(adj u)[j]?=some t) (hq:t∉q):NRunIn adj P v (q++[t]) i u (j+1):=by
 refine ⟨?_,h.2⟩
 rw [List.take_add_one,ht,Option.toList_some,extQ_snoc,← h.1,if_neg hq]
theorem NRunIn.old {adj:Nat→List Nat} {P:Nat→Prop} {v:Nat} {q:List Nat} {i u j t:Nat} (h:NRunIn adj P v q i u j) (ht:(adj u)[j]?=some t) (hq:t∈q):NRunIn adj P v q i u (j+1):=by
 refine ⟨?_,h.2⟩
 rw [List.take_add_one,ht,Option.toList_some,extQ_snoc,← h.1,if_pos hq]
theorem NRunIn.leave {adj:Nat→List Nat} {P:Nat→Prop} {v:Nat} {q:List Nat} {i u:Nat} (h:NRunIn adj P v q i u (adj u).length):NRun adj P v q (i+1):=by
 refine ⟨?_,fun j hj x hx=>?_⟩
 ·rw [runQ_succ h.2.1,h.1,List.take_length]
 ·by_cases e:j=i
  ·subst e
   rw [h.2.1] at hx
   obtain rfl:=Option.some.inj hx
   exact h.2.2.1
  ·exact h.2.2.2 j (by omega) x hx
open Go.RowKit
set_option maxRecDepth 100000
set_option maxHeartbeats 8000000
structure NInv (n:Nat) (adj:Nat→List Nat) (v:Nat) (on m:Nat→Bool) (q:List Nat) (i:Nat):Prop where
 nd:q.Nodup
 low:∀ x∈q,x<n∧Goes adj v x
 seen:∀ x,x<n→(m x=true↔x∈q)
 st:v∈q
 dn:∀ j x,j<i→q[j]?=some x→on x=false∧∀ t∈adj x,t∈q
theorem NInv.start {n:Nat} {adj:Nat→List Nat} {v:Nat} {on:Nat→Bool} (hv:v<n):NInv n adj v on (updN (fun _=>false) v true) [v] 0 :=
 ⟨by simp,fun x hx=>by rw [List.mem_singleton] at hx; subst hx; exact ⟨hv,.refl _⟩,fun x _=>by
   by_cases e:x=v
   ·subst e; simp [updN_same]
   ·rw [updN_other _ _ _ e]; simp [e],by simp,fun j x h=>absurd h (Nat.not_lt_zero _)⟩
theorem NInv.len {n:Nat} {adj:Nat→List Nat} {v:Nat} {on m:Nat→Bool} {q:List Nat} {i:Nat} (h:NInv n adj v on m q i):q.length≤n:=nodup_len n q h.nd fun x hx=>(h.low x hx).1
theorem NInv.push {n:Nat} {adj:Nat→List Nat} {v:Nat} {on m:Nat→Bool} {q:List Nat} {i u t:Nat} (h:NInv n adj v on m q i) (hu:u∈q) (ht:t∈adj u) (htn:t<n) (hm:m t=false) (hi:i≤q.length):NInv n adj v on (updN m t true) (q++[t]) i:=by
 have hnt:t∉q:=fun e=>by have:=(h.seen t htn).2 e; rw [hm] at this; cases this
 refine ⟨List.nodup_append.2 ⟨h.nd,by simp,fun a ha b hb e=>by rw [List.mem_singleton] at hb; subst hb; subst e; exact hnt ha⟩,fun x hx=>?_,fun x hx=>?_,List.mem_append_left _ h.st,fun j x hj hx=>?_⟩
 ·rcases List.mem_append.1 hx with hx | hx
  ·exact h.low x hx
  ·rw [List.mem_singleton] at hx; subst hx; exact ⟨htn,(h.low u hu).2.step ht⟩
 ·rw [List.mem_append,List.mem_singleton]
  by_cases e:x=t
  ·subst e; simp [updN_same]
  ·rw [updN_other _ _ _ e,h.seen x hx]; simp [e]
 ·rw [List.getElem?_append_left (by omega)] at hx
  obtain ⟨h1,h2⟩:=h.dn j x hj hx
  exact ⟨h1,fun s hs=>List.mem_append_left _ (h2 s hs)⟩
theorem NInv.next {n:Nat} {adj:Nat→List Nat} {v:Nat} {on m:Nat→Bool} {q:List Nat} {i u:Nat} (h:NInv n adj v on m q i) (hu:q[i]?=some u) (ho:on u=false) (ha:∀ t∈adj u,t∈q):NInv n adj v on m q (i+1) :=
 ⟨h.nd,h.low,h.seen,h.st,fun j x hj hx=>by
   by_cases e:j=i
   ·subst e; rw [hu] at hx; cases hx; exact ⟨ho,ha⟩
   ·exact h.dn j x (by omega) hx⟩
theorem NInv.stop {n:Nat} {adj:Nat→List Nat} {v:Nat} {on m:Nat→Bool} {q:List Nat} (h:NInv n adj v on m q q.length) {u:Nat} (ho:on u=true) (hg:Goes adj v u):False:=by
 have hc:u∈q:=Goes.closed (P:=fun x=>x∈q) (fun x hx t ht=>by
  obtain ⟨j,hj,e⟩:=List.mem_iff_getElem.1 hx
  exact (h.dn j x hj (by rw [List.getElem?_eq_getElem hj,e])).2 t ht) hg h.st
 obtain ⟨j,hj,e⟩:=List.mem_iff_getElem.1 hc
 have:=(h.dn j u hj (by rw [List.getElem?_eq_getElem hj,e])).1
 rw [ho] at this; cases this
structure NB (f:Names) (sv qv:Value) (n:Nat) (m:Nat→Bool) (q:List Nat):Prop where
 outs:f (1,0)=some (rowV 4 sv (tabB n m))
 queue:f (2,0)=some (rowI qv (castI q))
section
variable {B:Nat} {w:World} {f:Names} {ov qv:Value} {n:Nat} {m:Nat→Bool} {q:List Nat}
theorem NB.mark (h:NB f ov qv n m q) (hr:Rows B w f) (t:Nat) (ht:t<n):∃ f',Rows B (w.setCell (valAt ov t) (.bool true)) f'∧NB f' ov qv n (updN m t true) q:=by
 have hs:=hr.setV h.outs t (by rw [tabB_len]; exact ht) (.bool true)
 rw [tabB_upd] at hs
 exact ⟨_,hs,⟨upd_same _ _ _,by rw [upd_ne _ _ (by simp)]; exact h.queue⟩⟩
theorem NB.push (h:NB f ov qv n m q) (hr:Rows B w f) {w1:World} {qv':Value} (t:Nat) (ho:OwnI B w1 qv' (castI q++[(t:Int)]))
 (hal:(roomOf qv'=roomOf qv∧w.grownBy w1 qv.ownBlock)∨(∃ k,qv'.ownBlock=some k∧w.heap.size≤k∧w.grownBy w1 none)):∃ f',Rows B w1 f'∧NB f' ov qv' n m (q++[t]):=by
 have hO:=hr.ownI h.queue
 have hg:w.grownBy w1 qv.ownBlock:=grown_via (hal.imp (·.2) (fun ⟨_,_,_,q⟩=>q))
 have hob:qv'.ownBlock=qv.ownBlock∨∃ k,qv'.ownBlock=some k∧w.heap.size≤k:=by
  rcases hal with ⟨q,_⟩ | ⟨k,h1,h2,_⟩
  ·obtain ⟨a1,n1,c1,e1⟩:=hO.at.shape
   obtain ⟨a2,n2,c2,e2⟩:=ho.at.shape
   exact .inl (ownBlock_of_room e1 e2 q)
  ·exact .inr ⟨k,h1,h2⟩
 exact ⟨_,hr.grown (r':=rowI qv' (castI q++[(t:Int)])) h.queue hg ho hob,⟨by rw [upd_ne _ _ (by simp)]; exact h.outs,by rw [upd_same,castI_snoc]⟩⟩
end
theorem near_any (na:Option Addr) (nc:Nat) (G:List (List Int)) (bv:Value) (on:Nat→Bool) (v:Nat) (w:World) (h:ListsAt w (.slice na G.length nc) G) (hok:GraphOk G) (hn:G.length≤8200) (hb:ValsAt w bv (tabB G.length on)) (hv:v<G.length)
 (hex:∃ u,on u=true∧Goes (adjOf G) v u) (P:Nat→Prop) (hP:∀ x,x<G.length→(on x=true↔P x)) :
 Calls Tryz.prog 126 #[.slice na G.length nc,bv,.int .i64 v] w (Ret1 (fun x _=>∃ u,x=.int .i64 ((u:Nat):Int)∧u<G.length∧on u=true∧Goes (adjOf G) v u∧NearIs (adjOf G) P v u) w):=by
 obtain ⟨sv,w1,mk,hin,hb1⟩:=run_makeW oneBoolG (G.length:Int) G.length w rfl (by omega)
 obtain ⟨sa,sn,sc,rfl⟩:=hin.shape
 rw [← tabB_none] at hin
 have R1:=(Rows.void w.heap.size w).add (i:=(1,0)) (r':=rowV 4 (.slice sa sn sc) (tabB G.length fun _=>false)) hb1 hin (fun k hk=>(hin.lt k hk).1)
 have hOV:=R1.ownV (upd_same _ _ _)
 have iV:=fun w'=>hOV.at.idx oneBoolG v (by rw [tabB_len]; exact hv) w'
 have cV:=hOV.at.cellV v (by rw [tabB_len]; exact hv)
 have fV:=hOV.frz v (by rw [tabB_len]; exact hv)
 have kV:=(hOV.blkB v (by rw [tabB_len]; exact hv)).2
 rw [tabB_get _ _ _ hv] at cV
 have R2:=R1.setV (upd_same _ _ _) v (by rw [tabB_len]; exact hv) (.bool true)
 rw [tabB_upd] at R2
 have b2:Below w.heap.size w (w1.setCell (valAt (.slice sa sn sc) v) (.bool true)):=hb1.setCell kV _
 generalize valAt (.slice sa sn sc) v=va at *
 obtain ⟨W2,hW2⟩:∃ W2:World,W2=w1.setCell va (.bool true):=⟨_,rfl⟩
 rw [← hW2] at R2 b2
 have hB2:=b2.size
 have bL:=belowAlloc W2 (.cells #[.int .i64 (v:Int)] 3)
 have R3:=R2.add (i:=(2,0)) (r':=rowI (.slice (some ⟨W2.heap.size,0,none⟩) 1 1) (castI [v])) bL (OwnI.lit w.heap.size W2 hB2 (castI [v]) (by simp [maxLen,castI]) #[.int .i64 (v:Int)] rfl 1 rfl) (fun k hk=>by cases hk; exact Nat.le_refl _)
 have h3:NB (upd (upd (upd (fun _=>Option.none) (1,0) (some (rowV 4 (.slice sa sn sc) (tabB G.length fun _=>false)))) (1,0) (some (rowV 4 (.slice sa sn sc) (tabB G.length (updN (fun _=>false) v true))))) (2,0) (some (rowI (.slice (some ⟨W2.heap.size,0,none⟩) 1 1) (castI [v])))) (.slice sa sn sc) (.slice (some ⟨W2.heap.size,0,none⟩) 1 1) G.length (updN (fun _=>false) v true) [v]:=⟨by rw [upd_ne _ _ (by simp),upd_same],by rw [upd_same]⟩
 generalize upd (upd (upd (fun _=>Option.none) (1,0) (some (rowV 4 (.slice sa sn sc) (tabB G.length fun _=>false)))) (1,0) (some (rowV 4 (.slice sa sn sc) (tabB G.length (updN (fun _=>false) v true))))) (2,0) (some (rowI (.slice (some ⟨W2.heap.size,0,none⟩) 1 1) (castI [v])))=f3 at *
 have b3:=b2.trans (bL.mono hB2)
 replace hex:=Hd hex
 replace hP:=Hd hP
 replace h:=Hd h
 replace hok:=Hd hok
 replace hb:=Hd hb
 replace R3:=Hd R3
 replace h3:=Hd h3
 replace hW2:=Hd hW2
 have hlg:=h.out.len 3 w
 clear R1 R2 hOV hin
 go_enter Tryz.func126,Tryz.ntmps126
 go_upto_region 3 with fail
 rw [← hW2.out]
 clear mk iV cV fV
 go_wp2_with fail
 go_loopw [8,9] (fun qv iv wr=>∃ (i:Nat) (m:Nat→Bool) (q:List Nat) (f:Names) (qw:Value),qw=qv∧iv=.int .i64 i∧i≤q.length∧Rows w.heap.size wr f∧Below w.heap.size w wr∧NB f (.slice sa sn sc) qw G.length m q∧NInv G.length (adjOf G) v on m q i∧NRun (adjOf G) P v q i) (fun _ iv _=>G.length-(intOf iv).toNat)
 case atStart=>exact ⟨0,_,_,f3,_,rfl,rfl,Nat.zero_le _,R3.out,b3,h3.out,NInv.start hv,NRun.start _ _ _⟩
 case round =>
  clear h3 R3 b3
  obtain ⟨i,m,q,f4,qv,rfl,rfl,hi,hr4,b4,h4,hI,hN⟩:=hrel
  obtain ⟨wo,rfl⟩:∃ wo:World,wo=wr:=⟨_,rfl⟩
  have hql:=hI.len
  have hOQ:=hr4.ownI h4.queue
  have lQ:=hOQ.at.len
  rw [castI_len] at lQ
  by_cases hil:i<q.length
  ·obtain ⟨u,hu⟩:∃ u,q[i]?=some u:=⟨_,List.getElem?_eq_getElem hil⟩
   have hum:=List.mem_of_getElem? hu
   obtain ⟨hun,hug⟩:=hI.low u hum
   have iQ:=fun w'=>hOQ.at.idx i (by rw [castI_len]; exact hil) w'
   have cQ:=hOQ.at.cellD i (by rw [castI_len]; exact hil)
   rw [castI_get hu] at cQ
   have hbo:=hb.out.below b4
   have iB:=fun w'=>hbo.idx oneBoolG u (by rw [tabB_len]; exact hun) w'
   have cB:=hbo.cellV u (by rw [tabB_len]; exact hun)
   rw [tabB_get _ _ _ hun] at cB
   generalize valAt qv i=qa at *
   generalize valAt bv u=ba at *
   obtain ⟨bo,hbo2⟩:∃ bo,on u=bo:=⟨_,rfl⟩
   rw [hbo2] at cB
   replace hOQ:=Hd hOQ
   replace hbo:=Hd hbo
   cases bo with
   | true =>
    have hnr:=hN.hit hu ((hP.out u hun).1 hbo2)
    replace hnr:=Hd hnr
    replace hN:=Hd hN
    replace hI:=Hd hI
    replace hr4:=Hd hr4
    replace hu:=Hd hu
    replace hum:=Hd hum
    replace hbo2:=Hd hbo2
    replace hug:=Hd hug
    go_wp2
    go_ret
    exact ⟨_,rfl,b4,u,rfl,hun,hbo2.out,hug.out,hnr.out⟩
   | false =>
    have hent:=hN.enter hu (fun e=>by have:=(hP.out u hun).2 e; rw [hbo2] at this; cases this)
    replace hent:=Hd hent
    replace hN:=Hd hN
    obtain ⟨xv,iR,cR0,hM0⟩:=h.out.row u hun
    have cR:=(b4.cell (World.block_lt_of_cell? _ _ cR0)).trans cR0
    have hM:=hM0.below b4
    have hgp:=hok.out u hun
    have hadj:adjOf G u=(G.getD u []).map Int.toNat:=rfl
    generalize G.getD u []=gx at *
    have lM:=hM.len
    have hglen:=hM.len_le
    generalize valAt (.slice na G.length nc) u=ra at *
    replace hM:=Hd hM
    replace hM0:=Hd hM0
    replace hgp:=Hd hgp
    replace hadj:=Hd hadj
    replace hI:=Hd hI
    replace hr4:=Hd hr4
    replace hu:=Hd hu
    replace hum:=Hd hum
    replace hbo2:=Hd hbo2
    replace hug:=Hd hug
    have hil2:=Hd hil
    go_wp2_with fail
    clear iQ cQ iB cB iR cR lM lQ
    go_loopw [8,41] (fun qv jv wr=>∃ (j:Nat) (m:Nat→Bool) (q:List Nat) (f:Names) (qw:Value),qw=qv∧jv=.int .i64 j∧j≤gx.length∧Rows w.heap.size wr f∧Below w.heap.size w wr∧NB f (.slice sa sn sc) qw G.length m q∧NInv G.length (adjOf G) v on m q i∧q[i]?=some u∧(∀ s,s<j→(gx.getD s 0).toNat∈q)∧NRunIn (adjOf G) P v q i u j) (fun _ jv _=>gx.length-(intOf jv).toNat)
    case atStart=>exact ⟨0,m,q,f4,_,rfl,rfl,by omega,hr4.out,b4,h4,hI.out,hu.out,(fun s hs=>by omega),hent.out⟩
    case round =>
     clear hr4 h4 b4 hI hu hum hi hil hil2 hql hOQ hbo hM hN hent
     obtain ⟨j,m,q,f5,qv,rfl,rfl,hj,hr5,b5,h5,hI,hu,hdone,hNI⟩:=hrel
     obtain ⟨wo,rfl⟩:∃ wo:World,wo=wr:=⟨_,rfl⟩
     have hum:=List.mem_of_getElem? hu
     have hil:i<q.length:=(List.getElem?_eq_some_iff.1 hu).1
     have hql:=hI.len
     by_cases hjl:j<gx.length
     ·have hMj:=hM0.out.below b5
      have hgj:=hgp.out gx[j] (List.getElem_mem hjl)
      obtain ⟨t,hu2⟩:∃ t:Nat,gx[j]=t:=Int.eq_ofNat_of_zero_le hgj.1
      have htn:t<G.length:=by rw [hu2] at hgj; omega
      have hgd:gx.getD j 0=(t:Int):=by rw [List.getD_eq_getElem?_getD,List.getElem?_eq_getElem hjl,hu2]; rfl
      have hta:t∈adjOf G u:=by
       rw [hadj.out]
       exact List.mem_map.2 ⟨gx[j],List.getElem_mem hjl,by rw [hu2]; rfl⟩
      have htj:(adjOf G u)[j]?=some t:=by
       rw [hadj.out,List.getElem?_map,List.getElem?_eq_getElem hjl,hu2]; rfl
      have iJ:=fun w'=>hMj.idx j hjl w'
      have cJ:=hMj.cellD j hjl
      rw [hgd] at cJ
      have hOV:=(hr5.ownV h5.outs)
      have iT:=fun w'=>hOV.at.idx oneBoolG t (by rw [tabB_len]; exact htn) w'
      have cT:=hOV.at.cellV t (by rw [tabB_len]; exact htn)
      rw [tabB_get _ _ _ htn] at cT
      have fT:=hOV.frz t (by rw [tabB_len]; exact htn)
      have kT:=(hOV.blkB t (by rw [tabB_len]; exact htn)).2
      obtain ⟨f6,hr6,h6⟩:=h5.mark hr5 t htn
      have b6:Below w.heap.size w (wo.setCell (valAt (.slice sa sn sc) t) (.bool true)):=b5.setCell kT _
      generalize valAt xv j=ja at *
      generalize valAt (.slice sa sn sc) t=ta at *
      obtain ⟨bt,hbt⟩:∃ bt,m t=bt:=⟨_,rfl⟩
      rw [hbt] at cT
      cases bt with
      | false =>
       have hpush:=hI.push hum hta htn hbt (by omega)
       have hnp:=hNI.push htj (fun e=>by have:=(hI.seen t htn).2 e; rw [hbt] at this; cases this)
       replace hnp:=Hd hnp
       replace hNI:=Hd hNI
       replace htj:=Hd htj
       have hu3:(q++[t])[i]?=some u:=by rw [List.getElem?_append_left hil]; exact hu
       have hdone2:∀ s,s<j+1→(gx.getD s 0).toNat∈q++[t]:=fun s hs=>by
        by_cases e:s=j
        ·subst e; rw [hgd]; simp
        ·exact List.mem_append_left _ (hdone s (by omega))
       replace hpush:=Hd hpush
       replace hu3:=Hd hu3
       replace hdone2:=Hd hdone2
       replace hdone:=Hd hdone
       replace hI:=Hd hI
       replace hbt:=Hd hbt
       replace hr5:=Hd hr5
       replace hr6:=Hd hr6
       replace hOV:=Hd hOV
       replace hMj:=Hd hMj
       replace hgd:=Hd hgd
       replace hgj:=Hd hgj
       replace hu2:=Hd hu2
       replace hu:=Hd hu
       replace hum:=Hd hum
       replace hta:=Hd hta
       go_upto_region 15 with fail
       obtain ⟨W6,hW6⟩:∃ W6:World,W6=wo.setCell ta (.bool true):=⟨_,rfl⟩
       rw [← hW6]
       rw [← hW6] at hr6 b6
       clear hW6 iJ cJ iT cT fT
       have hOQ:=hr6.out.ownI h6.queue
       have hB6:w.heap.size≤W6.heap.size:=b6.size
       go_wp2_with (at_builtin; refine wpl_app1 rfl _ _ rfl w.heap.size qv (castI q) t hOQ rfl rfl (by rw [castI_len]; omega) hB6 ?_)
       intro qv' w7 ho7 b7 hal7
       obtain ⟨f7,hr7,h7⟩:=h6.push hr6.out t ho7 hal7
       replace hr7:=Hd hr7
       replace ho7:=Hd ho7
       clear hal7
       go_wp2
       go_roundw
       case measure=>simp [intOf]; omega
       case rel=>exact ⟨j+1,updN m t true,q++[t],f7,qv',rfl,by go_num,by omega,hr7.out,b6.trans b7,h7,hpush.out,hu3.out,hdone2.out,hnp.out⟩
      | true =>
       have hnp:=hNI.old htj ((hI.seen t htn).1 hbt)
       replace hnp:=Hd hnp
       replace hNI:=Hd hNI
       replace htj:=Hd htj
       have hdone2:∀ s,s<j+1→(gx.getD s 0).toNat∈q:=fun s hs=>by
        by_cases e:s=j
        ·subst e; rw [hgd]; exact (hI.seen t htn).1 hbt
        ·exact hdone s (by omega)
       replace hdone2:=Hd hdone2
       replace hdone:=Hd hdone
       replace hI:=Hd hI
       replace hbt:=Hd hbt
       replace hr5:=Hd hr5
       replace hr6:=Hd hr6
       replace hOV:=Hd hOV
       replace hMj:=Hd hMj
       replace hgd:=Hd hgd
       replace hgj:=Hd hgj
       replace hu2:=Hd hu2
       replace hu:=Hd hu
       replace hum:=Hd hum
       replace hta:=Hd hta
       go_wp2
       go_roundw
       case measure=>simp [intOf]; omega
       case rel=>exact ⟨j+1,m,q,f5,qv,rfl,by go_num,by omega,hr5.out,b5,h5,hI.out,hu.out,hdone2.out,hnp.out⟩
     ·obtain rfl:j=gx.length:=by omega
      have hfin:=hI.next hu hbo2.out (fun t ht=>by
       rw [hadj.out] at ht
       obtain ⟨x,hx,rfl⟩:=List.mem_map.1 ht
       obtain ⟨s,hs,rfl⟩:=List.mem_iff_getElem.1 hx
       have:=hdone s hs
       rw [List.getD_eq_getElem?_getD,List.getElem?_eq_getElem hs] at this
       exact this)
      have hnl:NRun (adjOf G) P v q (i+1):=by
       have hl:gx.length=(adjOf G u).length:=by rw [hadj.out,List.length_map]
       rw [hl] at hNI
       exact hNI.leave
      replace hnl:=Hd hnl
      replace hNI:=Hd hNI
      replace hfin:=Hd hfin
      replace hdone:=Hd hdone
      replace hI:=Hd hI
      replace hr5:=Hd hr5
      replace hu:=Hd hu
      replace hum:=Hd hum
      go_wp2
      go_roundw
      case measure=>simp [intOf]; omega
      case rel=>exact ⟨i+1,m,q,f5,qv,rfl,by go_num,by omega,hr5.out,b5,h5,hfin.out,hnl.out⟩
  ·obtain rfl:i=q.length:=by omega
   obtain ⟨u,ho,hg⟩:=hex.out
   exact absurd hg (fun hg=>hI.stop ho hg)
def rowB (k:Nat) (F:Nat→List Int) (l:List Int):Nat→List Int:=l.foldl (fun F x=>updN F x.toNat (F x.toNat++[(k:Int)])) F
theorem rowB_snoc (k:Nat) (F:Nat→List Int) (l:List Int) (u:Nat):updN (rowB k F l) u (rowB k F l u++[(k:Int)])=rowB k F (l++[(u:Int)]):=by
 unfold rowB; rw [List.foldl_append]; rfl
def runB (G:List (List Int)):Nat→Nat→List Int
 | 0=>fun _=>[]
 | k+1=>rowB k (runB G k) (G.getD k [])
def turnG (G:List (List Int)):List (List Int):=rowsOf G.length (runB G G.length)
theorem turned14_any (na:Option Addr) (nc:Nat) (G:List (List Int)) (w:World) (h:ListsAt w (.slice na G.length nc) G) (hok:GraphOk G) (hn:G.length≤8200) (harr:arrowsTo G G.length≤262144) :
 Calls Tryz.prog 127 #[.slice na G.length nc] w (Ret1 (fun x w'=>TurnedOf G (turnG G)∧ListsAt w' x (turnG G)) w):=by
 obtain ⟨ov,w1,mk,ho,hb1⟩:=run_makeW oneLists (G.length:Int) G.length w rfl (by omega)
 obtain ⟨f1,hr1,h1⟩:=WN.made G.length hb1 (Nat.le_refl _) ho
 obtain ⟨oa,on,oc,rfl⟩:=ho.shape
 have hlen:∀ k,k<G.length→(G.getD k []).length≤262144:=fun k hk=>by
  have:=arrowsTo_mono G (show k+1≤G.length by omega)
  simp only [arrowsTo] at this; omega
 replace h:=Hd h
 replace hok:=Hd hok
 replace hr1:=Hd hr1
 replace ho:=Hd ho
 replace hlen:=Hd hlen
 go_enter Tryz.func127,Tryz.ntmps127
 go_wp2_with fail
 clear mk
 go_loopw [13] (fun kv wr=>∃ (k:Nat) (F:Nat→List Int) (f:Names) (vals:List Value),k≤G.length∧kv=.int .i64 k∧Rows w.heap.size wr f∧Below w.heap.size w wr∧WN f (.slice oa on oc) vals G.length F∧BackTo G k 0 F∧F=runB G k) (fun kv _=>G.length-(intOf kv).toNat)
 case atStart=>exact ⟨0,_,f1,_,by omega,rfl,hr1.out,hb1,h1,BackTo.zero G,rfl⟩
 case round =>
  clear h1 ho hr1
  obtain ⟨k,F,f2,vals,hk,rfl,hr2,b2,h2,hB,hFk⟩:=hrel
  obtain ⟨wo,rfl⟩:∃ wo:World,wo=wr:=⟨_,rfl⟩
  by_cases hlt:k<G.length
  ·obtain ⟨mv,iR,cR0,hM0⟩:=h.out.row k hlt
   have cR:=(b2.cell (World.block_lt_of_cell? _ _ cR0)).trans cR0
   clear cR0
   have hM:=hM0.below b2
   have hgl:=hlen.out k hlt
   have hgp:=hok.out k hlt
   have hBadd:=fun (j u:Nat) (F:Nat→List Int) (h:BackTo G k j F)=>h.add (u:=u)
   have hBnext:=fun (F:Nat→List Int) (h:BackTo G k (G.getD k []).length F)=>h.next
   have hBlen:=fun (j t:Nat) (F:Nat→List Int) (h:BackTo G k j F) (ht:t<G.length)=>(h t ht).1
   have harrk:=arrowsTo_mono G hk
   have hrun:runB G (k+1)=rowB k (runB G k) (G.getD k []):=rfl
   rw [← hFk] at hrun
   generalize hF0:F=F0 at hrun
   replace hF0:=Hd hF0
   replace hFk:=Hd hFk
   generalize G.getD k []=gk at *
   have lM:=hM.len
   generalize valAt (.slice na G.length nc) k=ra at *
   replace hrun:=Hd hrun
   replace hB:=Hd hB
   replace hBadd:=Hd hBadd
   replace hBnext:=Hd hBnext
   replace hBlen:=Hd hBlen
   replace hgp:=Hd hgp
   replace hr2:=Hd hr2
   replace hM:=Hd hM
   replace hM0:=Hd hM0
   go_wp2_with fail
   clear iR cR lM
   go_loopw [20] (fun jv wr=>∃ (j:Nat) (F:Nat→List Int) (f:Names) (vals:List Value),j≤gk.length∧jv=.int .i64 j∧Rows w.heap.size wr f∧Below w.heap.size w wr∧WN f (.slice oa on oc) vals G.length F∧BackTo G k j F∧F=rowB k F0 (gk.take j)) (fun jv _=>gk.length-(intOf jv).toNat)
   case atStart=>exact ⟨0,F,f2,vals,by omega,rfl,hr2.out,b2,h2,hB.out,by rw [List.take_zero]; exact hF0.out⟩
   case round =>
    clear hB hr2 h2 b2 hM hF0 hFk
    obtain ⟨j,F,f3,vals,hj,rfl,hr3,b3,h3,hB,hFj⟩:=hrel
    obtain ⟨wo,rfl⟩:∃ wo:World,wo=wr:=⟨_,rfl⟩
    by_cases hjl:j<gk.length
    ·have hMj:=hM0.out.below b3
     have hgj:=hgp.out gk[j] (List.getElem_mem hjl)
     obtain ⟨u,hu⟩:∃ u:Nat,gk[j]=u:=Int.eq_ofNat_of_zero_le hgj.1
     have hun:u<G.length:=by rw [hu] at hgj; omega
     have hgu:gk[j]?=some (u:Int):=by rw [List.getElem?_eq_getElem hjl,hu]
     have hgd:gk.getD j 0=(u:Int):=by rw [List.getD_eq_getElem?_getD,hgu]; rfl
     have iJ:=fun w'=>hMj.idx j hjl w'
     have cJ:=hMj.cellD j hjl
     rw [hgd] at cJ
     have hadd:=hBadd.out j u F hB hgu
     have hF2:updN F u (F u++[(k:Int)])=rowB k F0 (gk.take (j+1)):=by
      rw [List.take_add_one,hgu,Option.toList_some,← rowB_snoc,← hFj]
     replace hF2:=Hd hF2
     replace hFj:=Hd hFj
     have hfl:=hBlen.out j u F hB hun
     have hOV:=(hr3.ownV h3.outer).at
     have iO:=fun w'=>hOV.idx oneLists u (by rw [h3.len]; exact hun) w'
     have cO:=hOV.cellV u (by rw [h3.len]; exact hun)
     have hT:=hr3.ownI (h3.rows u hun)
     have happ:=fun (w1:World) (v':Value)=>h3.app hr3 hun (w1:=w1) (v':=v') (k:Int)
     have hput:=fun (w1:World) (v':Value) (xs:List Int)=>h3.put (B:=w.heap.size) (w1:=w1) hun (v':=v') (xs:=xs)
     have hB3:w.heap.size≤wo.heap.size:=b3.size
     generalize valAt mv j=ja at *
     generalize vAt vals u=tv at *
     generalize valAt (.slice oa on oc) u=ua at *
     replace hadd:=Hd hadd
     replace happ:=Hd happ
     replace hput:=Hd hput
     replace hB:=Hd hB
     replace hr3:=Hd hr3
     replace hOV:=Hd hOV
     replace hgu:=Hd hgu
     replace hgd:=Hd hgd
     replace hu:=Hd hu
     replace hgj:=Hd hgj
     go_wp2_with (at_builtin; refine wpl_app1 rfl _ _ rfl w.heap.size tv (F u) k hT rfl rfl (by omega) hB3 ?_)
     intro v' w7 ho7 b7 hal7
     have hR7:=happ.out w7 v' ho7 hal7
     obtain ⟨y1,y2,y3,f8,hr8,h8,_⟩:=hput.out w7 v' _ hR7
     obtain ⟨va,vn,vc,rfl⟩:=ho7.at.shape
     replace hr8:=Hd hr8
     replace ho7:=Hd ho7
     replace hR7:=Hd hR7
     clear hal7 hT iJ cJ cO
     go_wp2
     go_roundw
     case measure=>simp [intOf]; omega
     case rel=>exact ⟨j+1,_,f8,_,by omega,by go_num,hr8.out,(b3.trans b7).setCell y3 _,h8,hadd.out,hF2.out⟩
    ·obtain rfl:j=gk.length:=by omega
     have hnext:=hBnext.out F hB
     have hF2:F=runB G (k+1):=by rw [hrun.out,hFj,List.take_length]
     replace hF2:=Hd hF2
     replace hFj:=Hd hFj
     replace hnext:=Hd hnext
     replace hB:=Hd hB
     replace hr3:=Hd hr3
     go_wp2
     go_roundw
     case measure=>simp [intOf]; omega
     case rel=>exact ⟨k+1,F,f3,vals,by omega,by go_num,hr3.out,b3,h3,hnext.out,hF2.out⟩
  ·obtain rfl:k=G.length:=by omega
   have hT:=hB.turned
   have hL:=h2.lists hr2
   have heq:rowsOf G.length F=turnG G:=by rw [hFk]; rfl
   rw [heq] at hT hL
   replace heq:=Hd heq
   replace hFk:=Hd hFk
   replace hB:=Hd hB
   replace hT:=Hd hT
   replace hL:=Hd hL
   replace hr2:=Hd hr2
   go_wp2
   go_ret
   exact ⟨_,rfl,b2,hT.out,hL.out⟩
end Go.Proofs.YtncpnaoabkjegaaGreatDoor
