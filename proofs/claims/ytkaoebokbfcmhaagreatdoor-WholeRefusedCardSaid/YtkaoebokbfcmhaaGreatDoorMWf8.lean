/-
  Texts that the proof leans on.
-/
import Derived.Test.YtkaoebokbfcmhaaGreatDoorMWf7
import Derived.ArgAppend
namespace Go.Proofs.YtkaoebokbfcmhaaGreatDoor
open Go.RowKit
set_option maxRecDepth 100000
set_option maxHeartbeats 8000000
theorem indexFunc2_any (v b c:Value) (F:Nat) (xs:List Int) (p:Int→Bool) (w:World) (h:IntsAt w v xs)
 (eg:∀ args w,(callFunc F args).run Tryz.prog w=.ok (.enter F args) w)
 (hF:∀ x:Int,x∈xs→∀ n,Calls Tryz.prog F #[.int .i64 x,b,c] (w.drewN n) (RetB (p x) (w.drewN n))) :
 Calls Tryz.prog 91 #[v,.func (.func F) #[] #[b,c]] w fun e w'=>∃ n,e=.returned (.int .i64 (idxOf p xs))∧w'=w.drewN n:=by
 have hlen:=h.len
 have hm:=h.len_le
 replace hF:=Hd hF
 go_enter Tryz.func91,Tryz.ntmps91
 go_wp2
 go_loopw [8] (fun i wr=>(∃ k:Nat,k≤xs.length∧i=.int .i64 k∧∀ j (hj:j<xs.length),j<k→p xs[j]=false)∧∃ n,wr=w.drewN n) (fun i _=>xs.length-(intOf i).toNat)
 case atStart=>exact ⟨⟨0,by omega,rfl,by intro t _ h; omega⟩,0,rfl⟩
 case round =>
  obtain ⟨⟨k,hk,rfl,hp⟩,n,rfl⟩:=hrel
  replace hp:=Hd hp
  by_cases hlt:k<xs.length
  ·have hi:=h.idx k hlt
   have hc:(w.drewN n).cell? (valAt v k)=some (.int .i64 xs[k]):=h.cell k hlt
   have hf:=Hd (hF.out xs[k] (by simp) n)
   go_wp2_with fail
   refine hf.out.mono ?_
   rintro e w' ⟨n2,rfl,rfl⟩
   cases hpk:p xs[k]
   ·have HP:=Hd hpk
    go_wp2
    go_roundw
    case rel =>
     refine ⟨⟨k+1,by omega,by go_num,?_⟩,_,rfl⟩
     intro j hj hjk
     by_cases e:j=k
     ·subst e; exact HP.out
     ·exact hp.out j hj (by omega)
    case measure=>simp [intOf]; omega
   ·have HP:=Hd hpk
    go_wp2
    go_ret
    exact ⟨_,ret_int (idxOf_at k hlt HP.out fun j hj h=>hp.out j hj h).symm,rfl⟩
  ·go_wp2
   go_ret
   refine ⟨n,ret_int (idxOf_neg fun x hx=>?_).symm,rfl⟩
   obtain ⟨j,hj,rfl⟩:=List.mem_iff_getElem.1 hx
   exact hp.out j hj (by omega)
theorem idxOf_any (p:Int→Bool) (xs:List Int):(0≤idxOf p xs)↔∃ x∈xs,p x=true:=by
 rcases idxOf_cases p xs with ⟨h1,h2⟩ | ⟨k,h1,h2,h3,_⟩
 ·rw [h1]
  exact ⟨fun h=>by omega,fun ⟨x,hx,hp⟩=>by rw [h2 x hx] at hp; cases hp⟩
 ·rw [h1]
  exact ⟨fun _=>⟨_,List.getElem_mem h2,h3⟩,fun _=>by omega⟩
theorem containsFunc2_any (v b c:Value) (F:Nat) (xs:List Int) (p:Int→Bool) (w:World) (h:IntsAt w v xs)
 (eg:∀ args w,(callFunc F args).run Tryz.prog w=.ok (.enter F args) w)
 (hF:∀ x:Int,x∈xs→∀ n,Calls Tryz.prog F #[.int .i64 x,b,c] (w.drewN n) (RetB (p x) (w.drewN n))) :
 Calls Tryz.prog 135 #[v,.func (.func F) #[] #[b,c]] w (RetB (decide (0≤idxOf p xs)) w):=by
 have hI:=indexFunc2_any v b c F xs p w h eg hF
 clear hF eg
 go_enter Tryz.func135,Tryz.ntmps135
 go_wp2_with fail
 refine hI.mono ?_
 rintro e w' ⟨n,rfl,rfl⟩
 go_wp2
 go_ret
 exact ⟨n,ret_bool (by simp),rfl⟩
theorem loops1_any (t v bp bv:Nat) (pv:Value) (ps:List Int) (w:World) (hp:IntsAt w pv ps) (c1:w.cell? ⟨bp,0,none⟩=some pv) (c2:w.cell? ⟨bv,0,none⟩=some (.int .i64 v)) (ht:t<ps.length) (hv:v<ps.length) :
 Calls Tryz.prog 136 #[.int .i64 t,.pointer (some ⟨bp,0,none⟩),.pointer (some ⟨bv,0,none⟩)] w (RetB (decide (ps.getD t 0=ps.getD v 0)) w):=by
 have iT:=fun w'=>hp.idx t ht w'
 have cT:=hp.cellD t ht
 have iV:=fun w'=>hp.idx v hv w'
 have cV:=hp.cellD v hv
 generalize ps.getD t 0=a at *
 generalize ps.getD v 0=b at *
 have heq:(a==b)=decide (a=b):=by by_cases e:a=b<;>simp [e]
 generalize valAt pv t=ta at *
 generalize valAt pv v=va at *
 replace hp:=Hd hp
 replace heq:=Hd heq
 generalize hd:decide (a=b)=d at *
 go_enter Tryz.func136,Tryz.ntmps136
 go_upto_region 1 with fail
 refine wp_region_plan (fun w'=>w'.cell? ⟨bp,0,none⟩=some pv∧w'.cell? ⟨bv,0,none⟩=some (.int .i64 v)∧w'.cell? ta=some (.int .i64 a)∧w'.cell? va=some (.int .i64 b)) 9 [(0,true),(1,true),(2,true),(3,true),(4,true),(5,true),(6,true),(7,true),(8,true)] (by kernel_rfl) (by kernel_rfl) ?_
 have hS:w.drew.cell? ⟨bp,0,none⟩=some pv∧w.drew.cell? ⟨bv,0,none⟩=some (.int .i64 v)∧w.drew.cell? ta=some (.int .i64 a)∧w.drew.cell? va=some (.int .i64 b):=⟨c1,c2,cT,cV⟩
 refine pqY 5 hS ?_
 refine pqY 6 hS ?_
 refine pqY 7 hS ?_
 refine pqY 8 hS ?_
 refine pqY 9 hS ?_
 refine pqY 10 hS ?_
 refine pqY 11 hS ?_
 refine pqY 12 hS ?_
 refine pqY 13 hS ?_
 refine head0 ?_
 simp only [List.drop_succ_cons,List.drop_zero]
 clear hS
 go_wp2
 refine NoPanic.normal ?_
 go_wp2
 go_ret
 exact ⟨1,ret_bool heq.out,rfl⟩
theorem eg_loops1 (args:Array Value) (w:World):(callFunc 136 args).run Tryz.prog w=.ok (.enter 136 args) w:=by kernel_rfl
theorem loops14_any (r:Nat→Addr) (na:Option Addr) (nc:Nat) (G:List (List Int)) (w:World) (hg:Glob r w) (h:ListsAt w (.slice na G.length nc) G) (hsz:∀ k,k<G.length→(G.getD k []).length≤17592186044416) (hck:checkG G=none) (hok:GraphOk G) (hn:G.length≤8200) :
 Calls Tryz.prog 103 #[.slice na G.length nc] w (Ret2 (fun x y w'=>y=.nilIface∧∃ on:Nat→Bool,OwnV 4 w.heap.size w' x (tabB G.length on)∧∀ v,v<G.length→(on v=true↔OnLoop (adjOf G) v)) w):=by
 have hP:=parts_any r na nc G w hg h hsz
 have hlg:=h.len 3 w
 replace h:=Hd h
 replace hok:=Hd hok
 replace hck:=Hd hck
 go_enter Tryz.func103,Tryz.ntmps103
 go_wp2_with fail
 refine hP.mono ?_
 rintro e w1 ⟨pv,y,rfl,b1,hE,hps,-⟩
 rw [hck.out] at hE
 obtain rfl:=hE.none_eq
 obtain ⟨ps,hpo,ho⟩:=hps hck.out
 have hpl:=hpo.len
 obtain ⟨pa,pn,pc,rfl⟩:=ho.at.shape
 have b1a:=belowAlloc w1 (.cells #[.slice pa pn pc] 22)
 obtain ⟨W1,hW1⟩:∃ W1:World,W1=w1.alloc (.cells #[.slice pa pn pc] 22):=⟨_,rfl⟩
 have R1:=(Rows.void w.heap.size w).add (i:=(2,0)) (r':=rowI (.slice pa pn pc) ps) b1 ho (fun k hk=>(ho.lt k hk).1)
 have hbx:OwnV 22 w1.heap.size (w1.alloc (.cells #[.slice pa pn pc] 22)) (.slice (some ⟨w1.heap.size,0,none⟩) 1 1) [.slice pa pn pc] :=
  World.ownsRow_lit (base:=w1.heap.size) (e:=22) (size:=1) w1 #[.slice pa pn pc] 1 (Nat.le_refl _) (by decide) rfl
 have R2:=R1.add (i:=(3,0)) (r':=rowV 22 (.slice (some ⟨w1.heap.size,0,none⟩) 1 1) [.slice pa pn pc]) b1a (hbx.mono b1.size) (fun k hk=>by cases hk; exact Nat.le_refl _)
 rw [← hW1] at R2 b1a
 have bW1:=Below.step b1 b1a
 obtain ⟨ov,w2,mk,hin,hb2⟩:=run_makeW oneBoolG (G.length:Int) G.length W1 rfl (by omega)
 obtain ⟨oa,on',oc,rfl⟩:=hin.shape
 rw [← tabB_none] at hin
 have R3:=R2.add (i:=(1,0)) (r':=rowV 4 (.slice oa on' oc) (tabB G.length fun _=>false)) hb2 (hin.mono bW1.size) (fun k hk=>(hin.lt k hk).1)
 have bW2:=Below.step bW1 hb2
 have hf1:upd (upd (upd (fun _=>Option.none) (2,0) (some (rowI (.slice pa pn pc) ps))) (3,0) (some (rowV 22 (.slice (some ⟨w1.heap.size,0,none⟩) 1 1) [.slice pa pn pc]))) (1,0) (some (rowV 4 (.slice oa on' oc) (tabB G.length fun _=>false))) (2,0)=some (rowI (.slice pa pn pc) ps):=by rw [upd_ne _ _ (by simp),upd_ne _ _ (by simp),upd_same]
 have hf2:upd (upd (upd (fun _=>Option.none) (2,0) (some (rowI (.slice pa pn pc) ps))) (3,0) (some (rowV 22 (.slice (some ⟨w1.heap.size,0,none⟩) 1 1) [.slice pa pn pc]))) (1,0) (some (rowV 4 (.slice oa on' oc) (tabB G.length fun _=>false))) (3,0)=some (rowV 22 (.slice (some ⟨w1.heap.size,0,none⟩) 1 1) [.slice pa pn pc]):=by rw [upd_ne _ _ (by simp),upd_same]
 have hf3:upd (upd (upd (fun _=>Option.none) (2,0) (some (rowI (.slice pa pn pc) ps))) (3,0) (some (rowV 22 (.slice (some ⟨w1.heap.size,0,none⟩) 1 1) [.slice pa pn pc]))) (1,0) (some (rowV 4 (.slice oa on' oc) (tabB G.length fun _=>false))) (1,0)=some (rowV 4 (.slice oa on' oc) (tabB G.length fun _=>false)):=by rw [upd_same]
 generalize upd (upd (upd (fun _=>Option.none) (2,0) (some (rowI (.slice pa pn pc) ps))) (3,0) (some (rowV 22 (.slice (some ⟨w1.heap.size,0,none⟩) 1 1) [.slice pa pn pc]))) (1,0) (some (rowV 4 (.slice oa on' oc) (tabB G.length fun _=>false)))=f1 at *
 replace hf1:=Hd hf1
 replace hf2:=Hd hf2
 replace hf3:=Hd hf3
 replace R3:=Hd R3
 replace hpo:=Hd hpo
 replace hpl:=Hd hpl
 clear hE hps ho R1 R2 hbx hin hP
 go_upto_region 4 with fail
 rw [← hW1]
 replace hW1:=Hd hW1
 go_wp2_with fail
 clear mk
 go_loopw [22] (fun kv wr=>∃ (k:Nat) (F:Nat→Bool) (f:Names),k≤G.length∧kv=.int .i64 k∧Rows w.heap.size wr f∧Below w.heap.size w wr∧f (2,0)=some (rowI (.slice pa pn pc) ps)∧f (3,0)=some (rowV 22 (.slice (some ⟨w1.heap.size,0,none⟩) 1 1) [.slice pa pn pc])∧f (1,0)=some (rowV 4 (.slice oa on' oc) (tabB G.length F))∧∀ x,x<k→(F x=true↔OnLoop (adjOf G) x)) (fun kv _=>G.length-(intOf kv).toNat)
 case atStart=>exact ⟨0,_,f1,Nat.zero_le _,rfl,R3.out,bW2,hf1.out,hf2.out,hf3.out,fun x hx=>by omega⟩
 case round =>
  clear R3 hf1 hf2 hf3
  obtain ⟨k,F,f2,hk,rfl,hR,hB,g2,g3,g1,hF⟩:=hrel
  obtain ⟨wo,rfl⟩:∃ wo:World,wo=wr:=⟨_,rfl⟩
  by_cases hlt:k<G.length
  ·obtain ⟨mv,iR,cR0,hM0⟩:=h.out.row k hlt
   have cR:=(hB.cell (World.block_lt_of_cell? _ _ cR0)).trans cR0
   have hM:=hM0.below hB
   have hgp:=hok.out k hlt
   have hon:=onLoop_parts hok.out hpo.out hlt
   have hadj:adjOf G k=(G.getD k []).map Int.toNat:=rfl
   rw [hadj] at hon
   generalize G.getD k []=gx at *
   generalize valAt (.slice na G.length nc) k=ra at *
   obtain ⟨ma,mn,mc,rfl⟩:=hM.shape
   have ba:=belowAlloc wo (.cells #[.int .i64 (k:Int)] 3)
   have cV:(wo.alloc (.cells #[.int .i64 (k:Int)] 3)).cell? ⟨wo.heap.size,0,none⟩=some (.int .i64 k):=by simp [go_sem]
   obtain ⟨W,hW⟩:∃ W:World,W=(wo.alloc (.cells #[.int .i64 (k:Int)] 3)).drew:=⟨_,rfl⟩
   have bW:Below wo.heap.size wo W:=by rw [hW]; exact ba.drew
   have cVW:W.cell? ⟨wo.heap.size,0,none⟩=some (.int .i64 k):=by rw [hW]; exact cV
   have hRW:=hR.below bW
   have hpW:=(hRW.ownI g2).at
   have hMW:=hM.below bW
   have cP:W.cell? ⟨w1.heap.size,0,none⟩=some (.slice pa pn pc):=by
    have:=hRW.cell g3 (g:=w1.heap.size) (cap:=1) rfl 0 (by simp)
    simpa using this
   have hcl:∀ x:Int,x∈gx→∀ n,Calls Tryz.prog 136 #[.int .i64 x,.pointer (some ⟨w1.heap.size,0,none⟩),.pointer (some ⟨wo.heap.size,0,none⟩)] (W.drewN n) (RetB (decide (ps.getD x.toNat 0=ps.getD k 0)) (W.drewN n)):=fun x hx n=>by
    obtain ⟨p1,p2⟩:=hgp x hx
    obtain ⟨t,rfl⟩:∃ t:Nat,x=t:=Int.eq_ofNat_of_zero_le p1
    rw [Int.toNat_natCast]
    exact loops1_any t k w1.heap.size wo.heap.size (.slice pa pn pc) ps (W.drewN n) (hpW.drewN n) cP cVW (by rw [hpl.out]; omega) (by rw [hpl.out]; exact hlt)
   have hcf:=containsFunc2_any (.slice ma mn mc) (.pointer (some ⟨w1.heap.size,0,none⟩)) (.pointer (some ⟨wo.heap.size,0,none⟩)) 136 gx (fun x=>decide (ps.getD x.toNat 0=ps.getD k 0)) W hMW eg_loops1 hcl
   obtain ⟨bb,hbb⟩:∃ bb,decide (0≤idxOf (fun x=>decide (ps.getD x.toNat 0=ps.getD k 0)) gx)=bb:=⟨_,rfl⟩
   rw [hbb] at hcf
   have hF2:∀ x,x<k+1→(updN F k bb x=true↔OnLoop (adjOf G) x):=fun x hx=>by
    by_cases e:x=k
    ·subst e
     rw [updN_same,hon,← hbb,decide_eq_true_iff,idxOf_any]
     constructor
     ·rintro ⟨z,hz,hzp⟩
      exact ⟨z.toNat,List.mem_map.2 ⟨z,hz,rfl⟩,of_decide_eq_true hzp⟩
     ·rintro ⟨t,ht,htp⟩
      obtain ⟨z,hz,rfl⟩:=List.mem_map.1 ht
      exact ⟨z,hz,decide_eq_true htp⟩
    ·rw [updN_other _ _ _ e]; exact hF x (by omega)
   have hOV0:=hRW.ownV g1
   have iO:=fun w'=>hOV0.at.idx oneBoolG k (by rw [tabB_len]; exact hlt) w'
   replace hbb:=Hd hbb
   replace hF2:=Hd hF2
   replace hF:=Hd hF
   replace hcf:=Hd hcf
   replace hcl:=Hd hcl
   replace hon:=Hd hon
   replace hgp:=Hd hgp
   replace hadj:=Hd hadj
   replace hR:=Hd hR
   replace hRW:=Hd hRW
   replace hOV0:=Hd hOV0
   replace hM:=Hd hM
   replace hM0:=Hd hM0
   replace hMW:=Hd hMW
   replace hpW:=Hd hpW
   replace g1:=Hd g1
   replace g2:=Hd g2
   replace g3:=Hd g3
   clear cR0 cP
   go_upto_region 8 with fail
   refine wp_region_plan (fun w'=>w'.cell? ⟨wo.heap.size,0,none⟩=some (.int .i64 k)) 6 [(0,true),(1,true),(2,true),(3,true),(4,false),(5,true)] (by kernel_rfl) (by kernel_rfl) ?_
   rw [← hW]
   replace hW:=Hd hW
   have hS:W.cell? ⟨wo.heap.size,0,none⟩=some (.int .i64 k):=cVW
   refine pqY 27 hS ?_
   refine pqY 28 hS ?_
   refine pqY 29 hS ?_
   refine pqY 30 hS ?_
   refine headC rfl (fun KK hK=>?_)
   go_simp
   refine hcf.out.mono ?_
   rintro e w5 h5
   obtain ⟨n5,rfl,rfl⟩:=h5
   have hS5:(W.drewN n5).cell? ⟨wo.heap.size,0,none⟩=some (.int .i64 k):=cVW
   refine hK _ _ hS5 ?_
   clear hK KK
   refine pqY 32 hS5 ?_
   refine head0 ?_
   simp only [List.drop_succ_cons,List.drop_zero]
   clear hS hS5
   have b5:Below wo.heap.size wo (W.drewN n5):=below_drewN bW n5
   have hR5:=hRW.out.drewN n5
   have hOV:=hR5.ownV g1.out
   have cT:=hOV.at.cellV k (by rw [tabB_len]; exact hlt)
   rw [tabB_get _ _ _ hlt] at cT
   have fT:=hOV.frz k (by rw [tabB_len]; exact hlt)
   have kT:=(hOV.blkB k (by rw [tabB_len]; exact hlt)).2
   have hR6:=hR5.setV g1.out k (by rw [tabB_len]; exact hlt) (.bool bb)
   rw [tabB_upd] at hR6
   have b6:Below w.heap.size w ((W.drewN n5).setCell (valAt (.slice oa on' oc) k) (.bool bb)):=(hB.trans (b5.mono hB.size)).setCell kT _
   generalize valAt (.slice oa on' oc) k=ta at *
   replace hR5:=Hd hR5
   replace hR6:=Hd hR6
   replace hOV:=Hd hOV
   clear iO
   go_wp2
   refine NoPanic.normal ?_
   go_wp2
   go_roundw
   case measure=>simp [intOf]; omega
   case rel=>exact ⟨k+1,_,_,by omega,by go_num,hR6.out,b6,by rw [upd_ne _ _ (by simp)]; exact g2.out,by rw [upd_ne _ _ (by simp)]; exact g3.out,by rw [upd_same],hF2.out⟩
  ·obtain rfl:k=G.length:=by omega
   have hres:=hR.ownV g1
   replace hres:=Hd hres
   replace hF:=Hd hF
   replace hR:=Hd hR
   replace g1:=Hd g1
   replace g2:=Hd g2
   replace g3:=Hd g3
   go_wp2
   go_ret2
   exact ⟨_,_,rfl,hB,rfl,F,hres.out,hF.out⟩
end Go.Proofs.YtkaoebokbfcmhaaGreatDoor
namespace Go.Proofs.YtkaoebokbfcmhaaGreatDoor
def extQ (q:List Nat) (l:List Nat):List Nat:=l.foldl (fun q t=>if t∈q then q else q++[t]) q
theorem extQ_nil (q:List Nat):extQ q []=q:=rfl
theorem extQ_snoc (q l:List Nat) (t:Nat):extQ q (l++[t])=if t∈extQ q l then extQ q l else extQ q l++[t]:=by
 unfold extQ; rw [List.foldl_append]; rfl
def runQ (adj:Nat→List Nat) (v:Nat):Nat→List Nat
 | 0=>[v]
 | i+1=>match (runQ adj v i)[i]? with
  | some u=>extQ (runQ adj v i) (adj u)
  | none=>runQ adj v i
theorem runQ_succ {adj:Nat→List Nat} {v i u:Nat} (h:(runQ adj v i)[i]?=some u):runQ adj v (i+1)=extQ (runQ adj v i) (adj u):=by
 rw [runQ,h]
def NearIs (adj:Nat→List Nat) (P:Nat→Prop) (v u:Nat):Prop:=∃ i,(runQ adj v i)[i]?=some u∧P u∧∀ j,j<i→∀ x,(runQ adj v j)[j]?=some x→¬ P x
def NRun (adj:Nat→List Nat) (P:Nat→Prop) (v:Nat) (q:List Nat) (i:Nat):Prop:=q=runQ adj v i∧∀ j,j<i→∀ x,(runQ adj v j)[j]?=some x→¬ P x
def NRunIn (adj:Nat→List Nat) (P:Nat→Prop) (v:Nat) (q:List Nat) (i u j:Nat):Prop:=q=extQ (runQ adj v i) ((adj u).take j)∧(runQ adj v i)[i]?=some u∧¬ P u∧∀ j,j<i→∀ x,(runQ adj v j)[j]?=some x→¬ P x
theorem NRun.start (adj:Nat→List Nat) (P:Nat→Prop) (v:Nat):NRun adj P v [v] 0:=⟨rfl,fun _ h=>absurd h (Nat.not_lt_zero _)⟩
theorem NRun.hit {adj:Nat→List Nat} {P:Nat→Prop} {v:Nat} {q:List Nat} {i u:Nat} (h:NRun adj P v q i) (hu:q[i]?=some u) (hp:P u):NearIs adj P v u:=⟨i,by rw [← h.1]; exact hu,hp,h.2⟩
theorem NRun.enter {adj:Nat→List Nat} {P:Nat→Prop} {v:Nat} {q:List Nat} {i u:Nat} (h:NRun adj P v q i) (hu:q[i]?=some u) (hp:¬ P u):NRunIn adj P v q i u 0:=⟨by rw [List.take_zero,extQ_nil]; exact h.1,by rw [← h.1]; exact hu,hp,h.2⟩
theorem NRunIn.push {adj:Nat→List Nat} {P:Nat→Prop} {v:Nat} {q:List Nat} {i u j t:Nat} (h:NRunIn adj P v q i u j) (ht:(adj u)[j]?=some t) (hq:t∉q):NRunIn adj P v (q++[t]) i u (j+1):=by
 refine ⟨?_,h.2⟩
 rw [List.take_add_one,ht,Option.toList_some,extQ_snoc,← h.1,if_neg hq]
theorem NRunIn.old {adj:Nat→List Nat} {P:Nat→Prop} {v:Nat} {q:List Nat} {i u j t:Nat} (h:NRunIn adj P v q i u j) (ht:(adj u)[j]?=some t) (hq:t∈q):NRunIn adj P v q i u (j+1):=by
 refine ⟨?_,h.2⟩
 rw [List.take_add_one,ht,Option.toList_some,extQ_snoc,← h.1,if_pos hq]
theorem NRunIn.leave {adj:Nat→List Nat} {P:Nat→Prop} {v:Nat} {q:List Nat} {i u:Nat} (h:NRunIn adj P v q i u (adj u).length):NRun adj P v q (i+1):=by
 refine ⟨?_,fun j hj x hx=>?_⟩
 ·rw [runQ_succ h.2.1,h.1,List.take_length]
 ·by_cases e:j=i
  ·subst e
   rw [h.2.1] at hx
   obtain rfl:=Option.some.inj hx
   exact h.2.2.1
  ·exact h.2.2.2 j (by omega) x hx
open Go.RowKit
set_option maxRecDepth 100000
set_option maxHeartbeats 8000000
structure NInv (n:Nat) (adj:Nat→List Nat) (v:Nat) (on m:Nat→Bool) (q:List Nat) (i:Nat):Prop where
 nd:q.Nodup
 low:∀ x∈q,x<n∧Goes adj v x
 seen:∀ x,x<n→(m x=true↔x∈q)
 st:v∈q
 dn:∀ j x,j<i→q[j]?=some x→on x=false∧∀ t∈adj x,t∈q
theorem NInv.start {n:Nat} {adj:Nat→List Nat} {v:Nat} {on:Nat→Bool} (hv:v<n):NInv n adj v on (updN (fun _=>false) v true) [v] 0 :=
 ⟨by simp,fun x hx=>by rw [List.mem_singleton] at hx; subst hx; exact ⟨hv,.refl _⟩,fun x _=>by
   by_cases e:x=v
   ·subst e; simp [updN_same]
   ·rw [updN_other _ _ _ e]; simp [e],by simp,fun j x h=>absurd h (Nat.not_lt_zero _)⟩
theorem NInv.len {n:Nat} {adj:Nat→List Nat} {v:Nat} {on m:Nat→Bool} {q:List Nat} {i:Nat} (h:NInv n adj v on m q i):q.length≤n:=nodup_len n q h.nd fun x hx=>(h.low x hx).1
theorem NInv.push {n:Nat} {adj:Nat→List Nat} {v:Nat} {on m:Nat→Bool} {q:List Nat} {i u t:Nat} (h:NInv n adj v on m q i) (hu:u∈q) (ht:t∈adj u) (htn:t<n) (hm:m t=false) (hi:i≤q.length):NInv n adj v on (updN m t true) (q++[t]) i:=by
 have hnt:t∉q:=fun e=>by have:=(h.seen t htn).2 e; rw [hm] at this; cases this
 refine ⟨List.nodup_append.2 ⟨h.nd,by simp,fun a ha b hb e=>by rw [List.mem_singleton] at hb; subst hb; subst e; exact hnt ha⟩,fun x hx=>?_,fun x hx=>?_,List.mem_append_left _ h.st,fun j x hj hx=>?_⟩
 ·rcases List.mem_append.1 hx with hx | hx
  ·exact h.low x hx
  ·rw [List.mem_singleton] at hx; subst hx; exact ⟨htn,(h.low u hu).2.step ht⟩
 ·rw [List.mem_append,List.mem_singleton]
  by_cases e:x=t
  ·subst e; simp [updN_same]
  ·rw [updN_other _ _ _ e,h.seen x hx]; simp [e]
 ·rw [List.getElem?_append_left (by omega)] at hx
  obtain ⟨h1,h2⟩:=h.dn j x hj hx
  exact ⟨h1,fun s hs=>List.mem_append_left _ (h2 s hs)⟩
theorem NInv.next {n:Nat} {adj:Nat→List Nat} {v:Nat} {on m:Nat→Bool} {q:List Nat} {i u:Nat} (h:NInv n adj v on m q i) (hu:q[i]?=some u) (ho:on u=false) (ha:∀ t∈adj u,t∈q):NInv n adj v on m q (i+1) :=
 ⟨h.nd,h.low,h.seen,h.st,fun j x hj hx=>by
   by_cases e:j=i
   ·subst e; rw [hu] at hx; cases hx; exact ⟨ho,ha⟩
   ·exact h.dn j x (by omega) hx⟩
theorem NInv.stop {n:Nat} {adj:Nat→List Nat} {v:Nat} {on m:Nat→Bool} {q:List Nat} (h:NInv n adj v on m q q.length) {u:Nat} (ho:on u=true) (hg:Goes adj v u):False:=by
 have hc:u∈q:=Goes.closed (P:=fun x=>x∈q) (fun x hx t ht=>by
  obtain ⟨j,hj,e⟩:=List.mem_iff_getElem.1 hx
  exact (h.dn j x hj (by rw [List.getElem?_eq_getElem hj,e])).2 t ht) hg h.st
 obtain ⟨j,hj,e⟩:=List.mem_iff_getElem.1 hc
 have:=(h.dn j u hj (by rw [List.getElem?_eq_getElem hj,e])).1
 rw [ho] at this; cases this
structure NB (f:Names) (sv qv:Value) (n:Nat) (m:Nat→Bool) (q:List Nat):Prop where
 outs:f (1,0)=some (rowV 4 sv (tabB n m))
 queue:f (2,0)=some (rowI qv (castI q))
section
variable {B:Nat} {w:World} {f:Names} {ov qv:Value} {n:Nat} {m:Nat→Bool} {q:List Nat}
theorem NB.mark (h:NB f ov qv n m q) (hr:Rows B w f) (t:Nat) (ht:t<n):∃ f',Rows B (w.setCell (valAt ov t) (.bool true)) f'∧NB f' ov qv n (updN m t true) q:=by
 have hs:=hr.setV h.outs t (by rw [tabB_len]; exact ht) (.bool true)
 rw [tabB_upd] at hs
 exact ⟨_,hs,⟨upd_same _ _ _,by rw [upd_ne _ _ (by simp)]; exact h.queue⟩⟩
theorem NB.push (h:NB f ov qv n m q) (hr:Rows B w f) {w1:World} {qv':Value} (t:Nat) (ho:OwnI B w1 qv' (castI q++[(t:Int)]))
 (hal:(roomOf qv'=roomOf qv∧w.grownBy w1 qv.ownBlock)∨(∃ k,qv'.ownBlock=some k∧w.heap.size≤k∧w.grownBy w1 none)):∃ f',Rows B w1 f'∧NB f' ov qv' n m (q++[t]):=by
 have hO:=hr.ownI h.queue
 have hg:w.grownBy w1 qv.ownBlock:=grown_via (hal.imp (·.2) (fun ⟨_,_,_,q⟩=>q))
 have hob:qv'.ownBlock=qv.ownBlock∨∃ k,qv'.ownBlock=some k∧w.heap.size≤k:=by
  rcases hal with ⟨q,_⟩ | ⟨k,h1,h2,_⟩
  ·obtain ⟨a1,n1,c1,e1⟩:=hO.at.shape
   obtain ⟨a2,n2,c2,e2⟩:=ho.at.shape
   exact .inl (ownBlock_of_room e1 e2 q)
  ·exact .inr ⟨k,h1,h2⟩
 exact ⟨_,hr.grown (r':=rowI qv' (castI q++[(t:Int)])) h.queue hg ho hob,⟨by rw [upd_ne _ _ (by simp)]; exact h.outs,by rw [upd_same,castI_snoc]⟩⟩
end
theorem near_any (na:Option Addr) (nc:Nat) (G:List (List Int)) (bv:Value) (on:Nat→Bool) (v:Nat) (w:World) (h:ListsAt w (.slice na G.length nc) G) (hok:GraphOk G) (hn:G.length≤8200) (hb:ValsAt w bv (tabB G.length on)) (hv:v<G.length)
 (hex:∃ u,on u=true∧Goes (adjOf G) v u) (P:Nat→Prop) (hP:∀ x,x<G.length→(on x=true↔P x)) :
 Calls Tryz.prog 104 #[.slice na G.length nc,bv,.int .i64 v] w (Ret1 (fun x _=>∃ u,x=.int .i64 ((u:Nat):Int)∧u<G.length∧on u=true∧Goes (adjOf G) v u∧NearIs (adjOf G) P v u) w):=by
 obtain ⟨sv,w1,mk,hin,hb1⟩:=run_makeW oneBoolG (G.length:Int) G.length w rfl (by omega)
 obtain ⟨sa,sn,sc,rfl⟩:=hin.shape
 rw [← tabB_none] at hin
 have R1:=(Rows.void w.heap.size w).add (i:=(1,0)) (r':=rowV 4 (.slice sa sn sc) (tabB G.length fun _=>false)) hb1 hin (fun k hk=>(hin.lt k hk).1)
 have hOV:=R1.ownV (upd_same _ _ _)
 have iV:=fun w'=>hOV.at.idx oneBoolG v (by rw [tabB_len]; exact hv) w'
 have cV:=hOV.at.cellV v (by rw [tabB_len]; exact hv)
 have fV:=hOV.frz v (by rw [tabB_len]; exact hv)
 have kV:=(hOV.blkB v (by rw [tabB_len]; exact hv)).2
 rw [tabB_get _ _ _ hv] at cV
 have R2:=R1.setV (upd_same _ _ _) v (by rw [tabB_len]; exact hv) (.bool true)
 rw [tabB_upd] at R2
 have b2:Below w.heap.size w (w1.setCell (valAt (.slice sa sn sc) v) (.bool true)):=hb1.setCell kV _
 generalize valAt (.slice sa sn sc) v=va at *
 obtain ⟨W2,hW2⟩:∃ W2:World,W2=w1.setCell va (.bool true):=⟨_,rfl⟩
 rw [← hW2] at R2 b2
 have hB2:=b2.size
 have bL:=belowAlloc W2 (.cells #[.int .i64 (v:Int)] 3)
 have R3:=R2.add (i:=(2,0)) (r':=rowI (.slice (some ⟨W2.heap.size,0,none⟩) 1 1) (castI [v])) bL (OwnI.lit w.heap.size W2 hB2 (castI [v]) (by simp [maxLen,castI]) #[.int .i64 (v:Int)] rfl 1 rfl) (fun k hk=>by cases hk; exact Nat.le_refl _)
 have h3:NB (upd (upd (upd (fun _=>Option.none) (1,0) (some (rowV 4 (.slice sa sn sc) (tabB G.length fun _=>false)))) (1,0) (some (rowV 4 (.slice sa sn sc) (tabB G.length (updN (fun _=>false) v true))))) (2,0) (some (rowI (.slice (some ⟨W2.heap.size,0,none⟩) 1 1) (castI [v])))) (.slice sa sn sc) (.slice (some ⟨W2.heap.size,0,none⟩) 1 1) G.length (updN (fun _=>false) v true) [v]:=⟨by rw [upd_ne _ _ (by simp),upd_same],by rw [upd_same]⟩
 generalize upd (upd (upd (fun _=>Option.none) (1,0) (some (rowV 4 (.slice sa sn sc) (tabB G.length fun _=>false)))) (1,0) (some (rowV 4 (.slice sa sn sc) (tabB G.length (updN (fun _=>false) v true))))) (2,0) (some (rowI (.slice (some ⟨W2.heap.size,0,none⟩) 1 1) (castI [v])))=f3 at *
 have b3:=b2.trans (bL.mono hB2)
 replace hex:=Hd hex
 replace hP:=Hd hP
 replace h:=Hd h
 replace hok:=Hd hok
 replace hb:=Hd hb
 replace R3:=Hd R3
 replace h3:=Hd h3
 replace hW2:=Hd hW2
 have hlg:=h.out.len 3 w
 clear R1 R2 hOV hin
 go_enter Tryz.func104,Tryz.ntmps104
 go_upto_region 3 with fail
 rw [← hW2.out]
 clear mk iV cV fV
 go_wp2_with fail
 go_loopw [8,9] (fun qv iv wr=>∃ (i:Nat) (m:Nat→Bool) (q:List Nat) (f:Names) (qw:Value),qw=qv∧iv=.int .i64 i∧i≤q.length∧Rows w.heap.size wr f∧Below w.heap.size w wr∧NB f (.slice sa sn sc) qw G.length m q∧NInv G.length (adjOf G) v on m q i∧NRun (adjOf G) P v q i) (fun _ iv _=>G.length-(intOf iv).toNat)
 case atStart=>exact ⟨0,_,_,f3,_,rfl,rfl,Nat.zero_le _,R3.out,b3,h3.out,NInv.start hv,NRun.start _ _ _⟩
 case round =>
  clear h3 R3 b3
  obtain ⟨i,m,q,f4,qv,rfl,rfl,hi,hr4,b4,h4,hI,hN⟩:=hrel
  obtain ⟨wo,rfl⟩:∃ wo:World,wo=wr:=⟨_,rfl⟩
  have hql:=hI.len
  have hOQ:=hr4.ownI h4.queue
  have lQ:=hOQ.at.len
  rw [castI_len] at lQ
  by_cases hil:i<q.length
  ·obtain ⟨u,hu⟩:∃ u,q[i]?=some u:=⟨_,List.getElem?_eq_getElem hil⟩
   have hum:=List.mem_of_getElem? hu
   obtain ⟨hun,hug⟩:=hI.low u hum
   have iQ:=fun w'=>hOQ.at.idx i (by rw [castI_len]; exact hil) w'
   have cQ:=hOQ.at.cellD i (by rw [castI_len]; exact hil)
   rw [castI_get hu] at cQ
   have hbo:=hb.out.below b4
   have iB:=fun w'=>hbo.idx oneBoolG u (by rw [tabB_len]; exact hun) w'
   have cB:=hbo.cellV u (by rw [tabB_len]; exact hun)
   rw [tabB_get _ _ _ hun] at cB
   generalize valAt qv i=qa at *
   generalize valAt bv u=ba at *
   obtain ⟨bo,hbo2⟩:∃ bo,on u=bo:=⟨_,rfl⟩
   rw [hbo2] at cB
   replace hOQ:=Hd hOQ
   replace hbo:=Hd hbo
   cases bo with
   | true =>
    have hnr:=hN.hit hu ((hP.out u hun).1 hbo2)
    replace hnr:=Hd hnr
    replace hN:=Hd hN
    replace hI:=Hd hI
    replace hr4:=Hd hr4
    replace hu:=Hd hu
    replace hum:=Hd hum
    replace hbo2:=Hd hbo2
    replace hug:=Hd hug
    go_wp2
    go_ret
    exact ⟨_,rfl,b4,u,rfl,hun,hbo2.out,hug.out,hnr.out⟩
   | false =>
    have hent:=hN.enter hu (fun e=>by have:=(hP.out u hun).2 e; rw [hbo2] at this; cases this)
    replace hent:=Hd hent
    replace hN:=Hd hN
    obtain ⟨xv,iR,cR0,hM0⟩:=h.out.row u hun
    have cR:=(b4.cell (World.block_lt_of_cell? _ _ cR0)).trans cR0
    have hM:=hM0.below b4
    have hgp:=hok.out u hun
    have hadj:adjOf G u=(G.getD u []).map Int.toNat:=rfl
    generalize G.getD u []=gx at *
    have lM:=hM.len
    have hglen:=hM.len_le
    generalize valAt (.slice na G.length nc) u=ra at *
    replace hM:=Hd hM
    replace hM0:=Hd hM0
    replace hgp:=Hd hgp
    replace hadj:=Hd hadj
    replace hI:=Hd hI
    replace hr4:=Hd hr4
    replace hu:=Hd hu
    replace hum:=Hd hum
    replace hbo2:=Hd hbo2
    replace hug:=Hd hug
    have hil2:=Hd hil
    go_wp2_with fail
    clear iQ cQ iB cB iR cR lM lQ
    go_loopw [8,41] (fun qv jv wr=>∃ (j:Nat) (m:Nat→Bool) (q:List Nat) (f:Names) (qw:Value),qw=qv∧jv=.int .i64 j∧j≤gx.length∧Rows w.heap.size wr f∧Below w.heap.size w wr∧NB f (.slice sa sn sc) qw G.length m q∧NInv G.length (adjOf G) v on m q i∧q[i]?=some u∧(∀ s,s<j→(gx.getD s 0).toNat∈q)∧NRunIn (adjOf G) P v q i u j) (fun _ jv _=>gx.length-(intOf jv).toNat)
    case atStart=>exact ⟨0,m,q,f4,_,rfl,rfl,by omega,hr4.out,b4,h4,hI.out,hu.out,(fun s hs=>by omega),hent.out⟩
    case round =>
     clear hr4 h4 b4 hI hu hum hi hil hil2 hql hOQ hbo hM hN hent
     obtain ⟨j,m,q,f5,qv,rfl,rfl,hj,hr5,b5,h5,hI,hu,hdone,hNI⟩:=hrel
     obtain ⟨wo,rfl⟩:∃ wo:World,wo=wr:=⟨_,rfl⟩
     have hum:=List.mem_of_getElem? hu
     have hil:i<q.length:=(List.getElem?_eq_some_iff.1 hu).1
     have hql:=hI.len
     by_cases hjl:j<gx.length
     ·have hMj:=hM0.out.below b5
      have hgj:=hgp.out gx[j] (List.getElem_mem hjl)
      obtain ⟨t,hu2⟩:∃ t:Nat,gx[j]=t:=Int.eq_ofNat_of_zero_le hgj.1
      have htn:t<G.length:=by rw [hu2] at hgj; omega
      have hgd:gx.getD j 0=(t:Int):=by rw [List.getD_eq_getElem?_getD,List.getElem?_eq_getElem hjl,hu2]; rfl
      have hta:t∈adjOf G u:=by
       rw [hadj.out]
       exact List.mem_map.2 ⟨gx[j],List.getElem_mem hjl,by rw [hu2]; rfl⟩
      have htj:(adjOf G u)[j]?=some t:=by
       rw [hadj.out,List.getElem?_map,List.getElem?_eq_getElem hjl,hu2]; rfl
      have iJ:=fun w'=>hMj.idx j hjl w'
      have cJ:=hMj.cellD j hjl
      rw [hgd] at cJ
      have hOV:=(hr5.ownV h5.outs)
      have iT:=fun w'=>hOV.at.idx oneBoolG t (by rw [tabB_len]; exact htn) w'
      have cT:=hOV.at.cellV t (by rw [tabB_len]; exact htn)
      rw [tabB_get _ _ _ htn] at cT
      have fT:=hOV.frz t (by rw [tabB_len]; exact htn)
      have kT:=(hOV.blkB t (by rw [tabB_len]; exact htn)).2
      obtain ⟨f6,hr6,h6⟩:=h5.mark hr5 t htn
      have b6:Below w.heap.size w (wo.setCell (valAt (.slice sa sn sc) t) (.bool true)):=b5.setCell kT _
      generalize valAt xv j=ja at *
      generalize valAt (.slice sa sn sc) t=ta at *
      obtain ⟨bt,hbt⟩:∃ bt,m t=bt:=⟨_,rfl⟩
      rw [hbt] at cT
      cases bt with
      | false =>
       have hpush:=hI.push hum hta htn hbt (by omega)
       have hnp:=hNI.push htj (fun e=>by have:=(hI.seen t htn).2 e; rw [hbt] at this; cases this)
       replace hnp:=Hd hnp
       replace hNI:=Hd hNI
       replace htj:=Hd htj
       have hu3:(q++[t])[i]?=some u:=by rw [List.getElem?_append_left hil]; exact hu
       have hdone2:∀ s,s<j+1→(gx.getD s 0).toNat∈q++[t]:=fun s hs=>by
        by_cases e:s=j
        ·subst e; rw [hgd]; simp
        ·exact List.mem_append_left _ (hdone s (by omega))
       replace hpush:=Hd hpush
       replace hu3:=Hd hu3
       replace hdone2:=Hd hdone2
       replace hdone:=Hd hdone
       replace hI:=Hd hI
       replace hbt:=Hd hbt
       replace hr5:=Hd hr5
       replace hr6:=Hd hr6
       replace hOV:=Hd hOV
       replace hMj:=Hd hMj
       replace hgd:=Hd hgd
       replace hgj:=Hd hgj
       replace hu2:=Hd hu2
       replace hu:=Hd hu
       replace hum:=Hd hum
       replace hta:=Hd hta
       go_upto_region 15 with fail
       obtain ⟨W6,hW6⟩:∃ W6:World,W6=wo.setCell ta (.bool true):=⟨_,rfl⟩
       rw [← hW6]
       rw [← hW6] at hr6 b6
       clear hW6 iJ cJ iT cT fT
       have hOQ:=hr6.out.ownI h6.queue
       have hB6:w.heap.size≤W6.heap.size:=b6.size
       go_wp2_with (at_builtin; refine wpl_app1 rfl _ _ rfl w.heap.size qv (castI q) t hOQ rfl rfl (by rw [castI_len]; omega) hB6 ?_)
       intro qv' w7 ho7 b7 hal7
       obtain ⟨f7,hr7,h7⟩:=h6.push hr6.out t ho7 hal7
       replace hr7:=Hd hr7
       replace ho7:=Hd ho7
       clear hal7
       go_wp2
       go_roundw
       case measure=>simp [intOf]; omega
       case rel=>exact ⟨j+1,updN m t true,q++[t],f7,qv',rfl,by go_num,by omega,hr7.out,b6.trans b7,h7,hpush.out,hu3.out,hdone2.out,hnp.out⟩
      | true =>
       have hnp:=hNI.old htj ((hI.seen t htn).1 hbt)
       replace hnp:=Hd hnp
       replace hNI:=Hd hNI
       replace htj:=Hd htj
       have hdone2:∀ s,s<j+1→(gx.getD s 0).toNat∈q:=fun s hs=>by
        by_cases e:s=j
        ·subst e; rw [hgd]; exact (hI.seen t htn).1 hbt
        ·exact hdone s (by omega)
       replace hdone2:=Hd hdone2
       replace hdone:=Hd hdone
       replace hI:=Hd hI
       replace hbt:=Hd hbt
       replace hr5:=Hd hr5
       replace hr6:=Hd hr6
       replace hOV:=Hd hOV
       replace hMj:=Hd hMj
       replace hgd:=Hd hgd
       replace hgj:=Hd hgj
       replace hu2:=Hd hu2
       replace hu:=Hd hu
       replace hum:=Hd hum
       replace hta:=Hd hta
       go_wp2
       go_roundw
       case measure=>simp [intOf]; omega
       case rel=>exact ⟨j+1,m,q,f5,qv,rfl,by go_num,by omega,hr5.out,b5,h5,hI.out,hu.out,hdone2.out,hnp.out⟩
     ·obtain rfl:j=gx.length:=by omega
      have hfin:=hI.next hu hbo2.out (fun t ht=>by
       rw [hadj.out] at ht
       obtain ⟨x,hx,rfl⟩:=List.mem_map.1 ht
       obtain ⟨s,hs,rfl⟩:=List.mem_iff_getElem.1 hx
       have:=hdone s hs
       rw [List.getD_eq_getElem?_getD,List.getElem?_eq_getElem hs] at this
       exact this)
      have hnl:NRun (adjOf G) P v q (i+1):=by
       have hl:gx.length=(adjOf G u).length:=by rw [hadj.out,List.length_map]
       rw [hl] at hNI
       exact hNI.leave
      replace hnl:=Hd hnl
      replace hNI:=Hd hNI
      replace hfin:=Hd hfin
      replace hdone:=Hd hdone
      replace hI:=Hd hI
      replace hr5:=Hd hr5
      replace hu:=Hd hu
      replace hum:=Hd hum
      go_wp2
      go_roundw
      case measure=>simp [intOf]; omega
      case rel=>exact ⟨i+1,m,q,f5,qv,rfl,by go_num,by omega,hr5.out,b5,h5,hfin.out,hnl.out⟩
  ·obtain rfl:i=q.length:=by omega
   obtain ⟨u,ho,hg⟩:=hex.out
   exact absurd hg (fun hg=>hI.stop ho hg)
def rowB (k:Nat) (F:Nat→List Int) (l:List Int):Nat→List Int:=l.foldl (fun F x=>updN F x.toNat (F x.toNat++[(k:Int)])) F
theorem rowB_snoc (k:Nat) (F:Nat→List Int) (l:List Int) (u:Nat):updN (rowB k F l) u (rowB k F l u++[(k:Int)])=rowB k F (l++[(u:Int)]):=by
 unfold rowB; rw [List.foldl_append]; rfl
def runB (G:List (List Int)):Nat→Nat→List Int
 | 0=>fun _=>[]
 | k+1=>rowB k (runB G k) (G.getD k [])
def turnG (G:List (List Int)):List (List Int):=rowsOf G.length (runB G G.length)
theorem turned14_any (na:Option Addr) (nc:Nat) (G:List (List Int)) (w:World) (h:ListsAt w (.slice na G.length nc) G) (hok:GraphOk G) (hn:G.length≤8200) (harr:arrowsTo G G.length≤262144) :
 Calls Tryz.prog 105 #[.slice na G.length nc] w (Ret1 (fun x w'=>TurnedOf G (turnG G)∧ListsAt w' x (turnG G)) w):=by
 obtain ⟨ov,w1,mk,ho,hb1⟩:=run_makeW oneLists (G.length:Int) G.length w rfl (by omega)
 obtain ⟨f1,hr1,h1⟩:=WN.made G.length hb1 (Nat.le_refl _) ho
 obtain ⟨oa,on,oc,rfl⟩:=ho.shape
 have hlen:∀ k,k<G.length→(G.getD k []).length≤262144:=fun k hk=>by
  have:=arrowsTo_mono G (show k+1≤G.length by omega)
  simp only [arrowsTo] at this; omega
 replace h:=Hd h
 replace hok:=Hd hok
 replace hr1:=Hd hr1
 replace ho:=Hd ho
 replace hlen:=Hd hlen
 go_enter Tryz.func105,Tryz.ntmps105
 go_wp2_with fail
 clear mk
 go_loopw [13] (fun kv wr=>∃ (k:Nat) (F:Nat→List Int) (f:Names) (vals:List Value),k≤G.length∧kv=.int .i64 k∧Rows w.heap.size wr f∧Below w.heap.size w wr∧WN f (.slice oa on oc) vals G.length F∧BackTo G k 0 F∧F=runB G k) (fun kv _=>G.length-(intOf kv).toNat)
 case atStart=>exact ⟨0,_,f1,_,by omega,rfl,hr1.out,hb1,h1,BackTo.zero G,rfl⟩
 case round =>
  clear h1 ho hr1
  obtain ⟨k,F,f2,vals,hk,rfl,hr2,b2,h2,hB,hFk⟩:=hrel
  obtain ⟨wo,rfl⟩:∃ wo:World,wo=wr:=⟨_,rfl⟩
  by_cases hlt:k<G.length
  ·obtain ⟨mv,iR,cR0,hM0⟩:=h.out.row k hlt
   have cR:=(b2.cell (World.block_lt_of_cell? _ _ cR0)).trans cR0
   clear cR0
   have hM:=hM0.below b2
   have hgl:=hlen.out k hlt
   have hgp:=hok.out k hlt
   have hBadd:=fun (j u:Nat) (F:Nat→List Int) (h:BackTo G k j F)=>h.add (u:=u)
   have hBnext:=fun (F:Nat→List Int) (h:BackTo G k (G.getD k []).length F)=>h.next
   have hBlen:=fun (j t:Nat) (F:Nat→List Int) (h:BackTo G k j F) (ht:t<G.length)=>(h t ht).1
   have harrk:=arrowsTo_mono G hk
   have hrun:runB G (k+1)=rowB k (runB G k) (G.getD k []):=rfl
   rw [← hFk] at hrun
   generalize hF0:F=F0 at hrun
   replace hF0:=Hd hF0
   replace hFk:=Hd hFk
   generalize G.getD k []=gk at *
   have lM:=hM.len
   generalize valAt (.slice na G.length nc) k=ra at *
   replace hrun:=Hd hrun
   replace hB:=Hd hB
   replace hBadd:=Hd hBadd
   replace hBnext:=Hd hBnext
   replace hBlen:=Hd hBlen
   replace hgp:=Hd hgp
   replace hr2:=Hd hr2
   replace hM:=Hd hM
   replace hM0:=Hd hM0
   go_wp2_with fail
   clear iR cR lM
   go_loopw [20] (fun jv wr=>∃ (j:Nat) (F:Nat→List Int) (f:Names) (vals:List Value),j≤gk.length∧jv=.int .i64 j∧Rows w.heap.size wr f∧Below w.heap.size w wr∧WN f (.slice oa on oc) vals G.length F∧BackTo G k j F∧F=rowB k F0 (gk.take j)) (fun jv _=>gk.length-(intOf jv).toNat)
   case atStart=>exact ⟨0,F,f2,vals,by omega,rfl,hr2.out,b2,h2,hB.out,by rw [List.take_zero]; exact hF0.out⟩
   case round =>
    clear hB hr2 h2 b2 hM hF0 hFk
    obtain ⟨j,F,f3,vals,hj,rfl,hr3,b3,h3,hB,hFj⟩:=hrel
    obtain ⟨wo,rfl⟩:∃ wo:World,wo=wr:=⟨_,rfl⟩
    by_cases hjl:j<gk.length
    ·have hMj:=hM0.out.below b3
     have hgj:=hgp.out gk[j] (List.getElem_mem hjl)
     obtain ⟨u,hu⟩:∃ u:Nat,gk[j]=u:=Int.eq_ofNat_of_zero_le hgj.1
     have hun:u<G.length:=by rw [hu] at hgj; omega
     have hgu:gk[j]?=some (u:Int):=by rw [List.getElem?_eq_getElem hjl,hu]
     have hgd:gk.getD j 0=(u:Int):=by rw [List.getD_eq_getElem?_getD,hgu]; rfl
     have iJ:=fun w'=>hMj.idx j hjl w'
     have cJ:=hMj.cellD j hjl
     rw [hgd] at cJ
     have hadd:=hBadd.out j u F hB hgu
     have hF2:updN F u (F u++[(k:Int)])=rowB k F0 (gk.take (j+1)):=by
      rw [List.take_add_one,hgu,Option.toList_some,← rowB_snoc,← hFj]
     replace hF2:=Hd hF2
     replace hFj:=Hd hFj
     have hfl:=hBlen.out j u F hB hun
     have hOV:=(hr3.ownV h3.outer).at
     have iO:=fun w'=>hOV.idx oneLists u (by rw [h3.len]; exact hun) w'
     have cO:=hOV.cellV u (by rw [h3.len]; exact hun)
     have hT:=hr3.ownI (h3.rows u hun)
     have happ:=fun (w1:World) (v':Value)=>h3.app hr3 hun (w1:=w1) (v':=v') (k:Int)
     have hput:=fun (w1:World) (v':Value) (xs:List Int)=>h3.put (B:=w.heap.size) (w1:=w1) hun (v':=v') (xs:=xs)
     have hB3:w.heap.size≤wo.heap.size:=b3.size
     generalize valAt mv j=ja at *
     generalize vAt vals u=tv at *
     generalize valAt (.slice oa on oc) u=ua at *
     replace hadd:=Hd hadd
     replace happ:=Hd happ
     replace hput:=Hd hput
     replace hB:=Hd hB
     replace hr3:=Hd hr3
     replace hOV:=Hd hOV
     replace hgu:=Hd hgu
     replace hgd:=Hd hgd
     replace hu:=Hd hu
     replace hgj:=Hd hgj
     go_wp2_with (at_builtin; refine wpl_app1 rfl _ _ rfl w.heap.size tv (F u) k hT rfl rfl (by omega) hB3 ?_)
     intro v' w7 ho7 b7 hal7
     have hR7:=happ.out w7 v' ho7 hal7
     obtain ⟨y1,y2,y3,f8,hr8,h8,_⟩:=hput.out w7 v' _ hR7
     obtain ⟨va,vn,vc,rfl⟩:=ho7.at.shape
     replace hr8:=Hd hr8
     replace ho7:=Hd ho7
     replace hR7:=Hd hR7
     clear hal7 hT iJ cJ cO
     go_wp2
     go_roundw
     case measure=>simp [intOf]; omega
     case rel=>exact ⟨j+1,_,f8,_,by omega,by go_num,hr8.out,(b3.trans b7).setCell y3 _,h8,hadd.out,hF2.out⟩
    ·obtain rfl:j=gk.length:=by omega
     have hnext:=hBnext.out F hB
     have hF2:F=runB G (k+1):=by rw [hrun.out,hFj,List.take_length]
     replace hF2:=Hd hF2
     replace hFj:=Hd hFj
     replace hnext:=Hd hnext
     replace hB:=Hd hB
     replace hr3:=Hd hr3
     go_wp2
     go_roundw
     case measure=>simp [intOf]; omega
     case rel=>exact ⟨k+1,F,f3,vals,by omega,by go_num,hr3.out,b3,h3,hnext.out,hF2.out⟩
  ·obtain rfl:k=G.length:=by omega
   have hT:=hB.turned
   have hL:=h2.lists hr2
   have heq:rowsOf G.length F=turnG G:=by rw [hFk]; rfl
   rw [heq] at hT hL
   replace heq:=Hd heq
   replace hFk:=Hd hFk
   replace hB:=Hd hB
   replace hT:=Hd hT
   replace hL:=Hd hL
   replace hr2:=Hd hr2
   go_wp2
   go_ret
   exact ⟨_,rfl,b2,hT.out,hL.out⟩
def WordsPost (r:Nat→Addr) (w:World) (K R:Nat) (T:List Int) (ns:List Nat) (x y z:Value) (w':World):Prop :=
 (AllFit K (pw K (2*R)) T ns∧z=.nilIface∧OwnI w.heap.size w' x (alongW K (2*R) (·/pw K (2*R)) ns)∧OwnI w.heap.size w' y (alongW K (2*R) (·%pw K (2*R)) ns)∧(x.ownBlock=none∨x.ownBlock≠y.ownBlock)) ∨
 (¬ AllFit K (pw K (2*R)) T ns∧x=.slice none 0 0∧y=.slice none 0 0∧ErrIs r w' (fresh sPairs 1 3) z)
theorem pwords_way (r:Nat→Addr) (K R:Nat) (va:Option Addr) (vn vc:Nat) (T:List Int) (u:Value) (ns:List Nat) (w:World) (hg:Glob r w) (h:IntsAt w (.slice va vn vc) T) (hr:RuleOk K R T) (hl:T.length≤256) (hu:IntsAt w u (castI ns)) (hne:ns≠[]) (hlow:∀ p∈ns,p<pw K (2*wkR R)*pw K (2*wkR R)) (hnl:ns.length≤17592186044000) :
 Calls Tryz.prog 119 #[.agg #[.int .i64 K,.int .i64 R,.slice va vn vc],u] w (Ret3 (WordsPost r w K (wkR R) (wkT K R T) ns) w):=by
 have b0:=belowAlloc w (.cells #[.int .i64 K,.int .i64 R,.slice va vn vc] 24)
 have hk1:=hr.k1
 have hk4:=hr.k4
 have hokW:=wk_ok hr
 have hlW:=wk_small hr hl
 have hRW:=wk_pos R
 have hN81:=nodes_le hokW hRW hlW
 obtain ⟨hdiv,hlen⟩:=hokW.half
 have hR3:=hokW.r3
 have hN1:=pw_pos (K:=K) (2*wkR R) hk1
 have hwork:=fun (w':World) (hgl:Glob r w') (hT:IntsAt w' (.slice va vn vc) T)=>working_ok r K R va vn vc T w' hgl hT hr hl
 have hNodes:=fun (a:Option Addr) (n c:Nat) (w':World) (hgl:Glob r w') (hT:IntsAt w' (.slice a n c) (wkT K R T))=>over_Nodes r K (wkR R) a n c (wkT K R T) w' hgl hT hokW hlW
 have hEdge:=fun (a:Option Addr) (n c u s:Nat) (w':World) (hgl:Glob r w') (hT:IntsAt w' (.slice a n c) (wkT K R T)) (hu:u<pw K (2*wkR R)) (hs:s<K)=>over_Edge r K (wkR R) a n c (wkT K R T) u s w' hgl hT hokW hlW (by rw [hdiv]; exact hu) hs
 rw [hdiv] at hNodes hEdge
 have hpost:=fun (x y z:Value) (w':World)=>@WordsPost r w K (wkR R) (wkT K R T) ns x y z w'
 obtain ⟨m,hm⟩:∃ m,2*wkR R=m:=⟨_,rfl⟩
 unfold WordsPost
 rw [hm] at hNodes hEdge hlow hN81 hN1 hdiv hlen ⊢
 obtain ⟨N,hN⟩:∃ N,pw K m=N:=⟨_,rfl⟩
 rw [hN] at hNodes hEdge hlow hN81 hN1 hdiv hlen ⊢
 generalize wkT K R T=T' at *
 generalize wkR R=R' at *
 clear hpost
 have lu:=hu.len
 obtain ⟨up,hup,hupI⟩:=hu.post 1 (by rw [castI_len]; exact List.length_pos_iff.2 hne)
 have lup:=hupI.len
 have hcl:(castI ns).length=ns.length:=castI_len ns
 have hdl:((castI ns).drop 1).length=ns.length-1:=by rw [List.length_drop,castI_len]
 rw [hdl] at lup
 rw [hcl] at lu
 have hnp:0<ns.length:=List.length_pos_iff.2 hne
 have iU:=fun (i:Nat) (hi:i<ns.length) w'=>hu.idx i (by rw [castI_len]; exact hi) w'
 have cU:=fun (i:Nat) (hi:i<ns.length)=>hu.cellD i (by rw [castI_len]; exact hi)
 have iP:=fun (i:Nat) (hi:i+1<ns.length) w'=>hupI.idx i (by rw [hdl]; omega) w'
 have cP:=fun (i:Nat) (hi:i+1<ns.length)=>hupI.cellD i (by rw [hdl]; omega)
 have gU:∀ i,i<ns.length→(castI ns).getD i 0=((ns.getD i 0:Nat):Int):=fun i hi=>by simp [castI,List.getD,hi]
 have gP:∀ i,i+1<ns.length→((castI ns).drop 1).getD i 0=((ns.getD (i+1) 0:Nat):Int):=fun i hi=>by
  rw [List.getD_eq_getElem?_getD,List.getElem?_drop,Nat.add_comm 1 i,← List.getD_eq_getElem?_getD]; exact gU _ hi
 have cU2:=fun (i:Nat) (hi:i<ns.length)=>(cU i hi).trans (by rw [gU i hi])
 have cP2:=fun (i:Nat) (hi:i+1<ns.length)=>(cP i hi).trans (by rw [gP i hi])
 have hlow2:∀ i,i<ns.length→ns.getD i 0<N*N:=fun i hi=>by
  simp only [List.getD_eq_getElem?_getD,List.getElem?_eq_getElem hi,Option.getD_some]
  exact hlow _ (List.getElem_mem hi)
 have hM6:N*N≤6561:=Nat.mul_le_mul hN81 hN81
 have hokway:decide (0≤idxOf (odd1 ((N*N:Nat):Int)) (castI ns))=false:=by
  rw [decide_eq_false_iff_not,idxOf_neg]
  ·omega
  ·intro x hx
   obtain ⟨p,hp,rfl⟩:=List.mem_map.1 hx
   have:=hlow p hp
   rw [odd1_false]; omega
 have hl0:¬ ns.length=0:=by omega
 have hl1:((ns.length:Int)==0)=false:=by rw [beq_eq_false_iff_ne]; omega
 obtain ⟨ua,un,uc,rfl⟩:=hu.shape
 obtain ⟨pa,pn,pc,rfl⟩:=hupI.shape
 replace hwork:=Hd hwork
 replace hNodes:=Hd hNodes
 replace hEdge:=Hd hEdge
 replace hg:=Hd (hg.below b0)
 replace h:=Hd (h.below b0)
 replace hu:=Hd (hu.below b0)
 replace hokW:=Hd hokW
 replace hr:=Hd hr
 replace hdiv:=Hd hdiv
 replace hlen:=Hd hlen
 replace hm:=Hd hm
 replace hN:=Hd hN
 replace iU:=Hd iU
 replace iP:=Hd iP
 replace cU2:=Hd cU2
 replace cP2:=Hd cP2
 replace hlow2:=Hd hlow2
 replace hlow:=Hd hlow
 replace hokway:=Hd hokway
 replace hne:=Hd hne
 replace hupI:=Hd hupI
 clear cU cP gU gP hdl hcl
 go_enter Tryz.func119,Tryz.ntmps119
 go_wp2_with fail
 refine (hwork.out _ hg.out h.out).mono ?_
 rintro e w1 ⟨x,y,rfl,b1,rfl,a,n,c,rfl,hT1⟩
 have ba:=belowAlloc w1 (.cells #[.int .i64 K,.int .i64 R',.slice a n c] 24)
 have qw:Box3 (w1.alloc (.cells #[.int .i64 K,.int .i64 R',.slice a n c] 24)) w1.heap.size (.int .i64 K) (.int .i64 R') (.slice a n c):=by simp [Box3,go_sem]
 have b12:=Below.step b1 ba
 have hT2:=hT1.below ba
 replace hT1:=Hd hT1
 replace hT2:=Hd hT2
 replace qw:=Hd qw
 go_wp2_with fail
 refine (hNodes.out a n c _ (hg.out.below b12) hT2.out).mono ?_
 rintro e w3 ⟨x,y,rfl,b3,rfl,rfl⟩
 have bb:=belowAlloc w3 (.cells #[.int .i64 N] 3)
 have b34:=Below.step b3 bb
 have b14:=Below.step b12 b34
 have cN:(w3.alloc (.cells #[.int .i64 N] 3)).cell? ⟨w3.heap.size,0,none⟩=some (.int .i64 N):=by simp [go_sem]
 have hcf:=containsFunc_any (.slice ua un uc) (.pointer (some ⟨w3.heap.size,0,none⟩)) 151 (castI ns) (odd1 ((N*N:Nat):Int)) _ (hu.out.below b14) eg_words1 (fun x _=>words1_any x w3.heap.size N _ (by omega) cN)
 replace hcf:=Hd hcf
 replace cN:=Hd cN
 go_wp2_with fail
 refine hcf.out.mono ?_
 rintro e w5 ⟨rfl,hw5⟩
 rw [hokway.out]
 have cN5:=cN.out
 have qw5:=qw.out.below b34
 have hT5:=hT2.out.below b34
 rw [hw5] at b14 cN5 qw5 hT5
 clear hcf cN hw5 bb b34 b3 b12
 have b05:=Below.step b0 b14
 have hg5:=hg.out.below b14
 clear b14
 -- region 8
 obtain ⟨L1,hL1⟩:∃ L1,ns.length=L1+1:=⟨ns.length-1,by omega⟩
 rw [hL1,Nat.add_sub_cancel] at lup
 have hLbig:L1≤17592186044000:=by omega
 have hup1:∀ w',(Instr.slice 22 (.slice ua un uc) (some (.int .i64 1)) none none).run Tryz.prog w'=.ok (.slice pa pn pc) w':=hup
 obtain ⟨p0,hp0⟩:∃ p,ns.getD 0 0=p:=⟨_,rfl⟩
 have hp0l:p0<N*N:=by rw [← hp0]; exact hlow2.out 0 hnp
 have i0:∀ w',(Instr.indexAt 22 (.slice ua un uc) (.int .i64 0)).run Tryz.prog w'=.ok (.pointer (some (valAt (.slice ua un uc) 0))) w':=fun w'=>iU.out 0 hnp w'
 have c0:=cU2.out 0 hnp
 rw [hp0] at c0
 have c05:=(b05.cell (World.block_lt_of_cell? _ _ c0)).trans c0
 have hN0:((N:Int)==0)=false:=by rw [beq_eq_false_iff_ne]; omega
 have hN2:¬ (N:Int)=0:=by omega
 have hN3:¬ N=0:=by omega
 have hK0:((K:Int)==0)=false:=by rw [beq_eq_false_iff_ne]; omega
 have hK1:¬ (K:Int)=0:=by omega
 have hK3:¬ K=0:=by omega
 obtain ⟨d1,d2,d3,d4,d5,d6⟩:=dm p0 N (by omega)
 obtain ⟨u0,hu0⟩:∃ z,p0/N=z:=⟨_,rfl⟩
 obtain ⟨v0,hv0⟩:∃ z,p0%N=z:=⟨_,rfl⟩
 rw [hu0] at d1 d3 d5
 rw [hv0] at d2 d4 d6
 have hu0l:u0<N:=by rw [← hu0]; exact div_lt_of hp0l
 have hv0l:v0<N:=by rw [← hv0]; exact Nat.mod_lt _ (by omega)
 clear c0
 generalize valAt (.slice ua un uc) 0=t0 at *
 replace hL1:=Hd hL1
 replace hp0:=Hd hp0
 replace hu0:=Hd hu0
 replace hv0:=Hd hv0
 replace hT5:=Hd hT5
 replace hg5:=Hd hg5
 go_upto_region 8 with fail
 refine wp_region_plan (fun w'=>w'.cell? t0=some (.int .i64 p0)∧w'.cell? ⟨w3.heap.size,0,none⟩=some (.int .i64 N)) 15 [(0,true),(1,true),(2,true),(3,true),(4,true),(5,true),(7,true),(8,true),(9,true),(10,true),(11,true),(12,true),(6,false),(13,false),(14,true)] (by kernel_rfl) (by kernel_rfl) ?_
 have hS:w5.drew.cell? t0=some (.int .i64 p0)∧w5.drew.cell? ⟨w3.heap.size,0,none⟩=some (.int .i64 N):=⟨c05,cN5⟩
 refine pqY 47 hS ?_
 refine pqY 48 hS ?_
 refine pqY 49 hS ?_
 refine pqY 50 hS ?_
 refine pqY 51 hS ?_
 refine pqY 52 hS ?_
 refine pqY 54 hS ?_
 refine pqY 55 hS ?_
 refine pqY 56 hS ?_
 refine pqY 57 hS ?_
 refine pqY 58 hS ?_
 refine pqY 59 hS ?_
 refine headC rfl (fun KK hK=>?_)
 go_simp
 refine (words2_any K R' u0 w1.heap.size w5.drew hk1 hk4 hR3 (by omega) qw5.1.1 qw5.1.2.1).mono ?_
 rintro e w6 ⟨av,rfl,b6,ho6⟩
 have hS6:w6.cell? t0=some (.int .i64 p0)∧w6.cell? ⟨w3.heap.size,0,none⟩=some (.int .i64 N):=⟨(b6.cell (World.block_lt_of_cell? _ _ hS.1)).trans hS.1,cell_keep b6 hS.2⟩
 have qw6:=qw5.below (w':=w6) (Below.trans ((Below.refl _ _).drew) b6)
 refine hK _ _ hS6 ?_
 clear hK KK
 refine headC rfl (fun KK hK=>?_)
 go_simp
 refine (words2_any K R' v0 w1.heap.size w6 hk1 hk4 hR3 (by omega) qw6.1.1 qw6.1.2.1).mono ?_
 rintro e w7 ⟨bv,rfl,b7,ho7⟩
 have hS7:w7.cell? t0=some (.int .i64 p0)∧w7.cell? ⟨w3.heap.size,0,none⟩=some (.int .i64 N):=⟨(b7.cell (World.block_lt_of_cell? _ _ hS6.1)).trans hS6.1,cell_keep b7 hS6.2⟩
 refine hK _ _ hS7 ?_
 clear hK KK
 refine pqY 12 hS7 ?_
 refine head0 ?_
 simp only [List.drop_succ_cons,List.drop_zero]
 have b56:Below w5.heap.size w5 w6:=Below.trans ((Below.refl _ _).drew) b6
 have b57:=Below.step b56 b7
 rw [hm.out] at ho6 ho7
 have r1:=(Rows.void w5.heap.size w5).add (i:=(1,0)) (r':=rowI av (digs K m u0)) b56 ho6 (fun k hk=>(ho6.lt k hk).1)
 have r2:=r1.add (i:=(2,0)) (r':=rowI bv (digs K m v0)) b7 (ho7.mono b56.size) (fun k hk=>(ho7.lt k hk).1)
 obtain ⟨f,hf⟩:∃ f,f=upd (upd (fun _=>none) (1,0) (some (rowI av (digs K m u0)))) (2,0) (some (rowI bv (digs K m v0))):=⟨_,rfl⟩
 have hfa:f (1,0)=some (rowI av (digs K m u0)):=by rw [hf,upd_ne _ _ (by simp),upd_same]
 have hfb:f (2,0)=some (rowI bv (digs K m v0)):=by rw [hf,upd_same]
 rw [← hf] at r2
 have htk:ns.take 1=[p0]:=by
  cases hns:ns with
  | nil=>exact absurd hns hne.out
  | cons a l=>have:=hp0.out; rw [hns] at this; simp at this; simp [this]
 have ha1:alongW K m (·/N) (ns.take 1)=digs K m u0:=by rw [htk,alongW_one,hu0.out]
 have hb1:alongW K m (·%N) (ns.take 1)=digs K m v0:=by rw [htk,alongW_one,hv0.out]
 rw [← ha1] at hfa
 rw [← hb1] at hfb
 clear hS hS6 hS7 ho6 ho7 r1 hf htk ha1 hb1 qw6 i0 c05 d1 d2 d3 d4 d5 d6
 obtain ⟨aa,an,ac,rfl⟩:=(r2.ownI hfa).at.shape
 obtain ⟨ba',bn,bc,rfl⟩:=(r2.ownI hfb).at.shape
 replace r2:=Hd r2
 replace hfa:=Hd hfa
 replace hfb:=Hd hfb
 replace qw5:=Hd qw5
 replace cN5:=Hd cN5
 go_wp2
 refine NoPanic.normal ?_
 go_wp2_with fail
 clear hup hup1
 go_loopw [12,13,64] (fun xa xb jv wr=>∃ (j:Nat) (f:Names) (va' vb':Value),j≤L1∧jv=.int .i64 j∧va'=xa∧vb'=xb∧Rows w5.heap.size wr f∧Below w5.heap.size w5 wr∧f (1,0)=some (rowI va' (alongW K m (·/N) (ns.take (j+1))))∧f (2,0)=some (rowI vb' (alongW K m (·%N) (ns.take (j+1))))∧(∀ i,i<j→StepFits K N T' (ns.getD i 0) (ns.getD (i+1) 0))) (fun _ _ jv _=>L1-(intOf jv).toNat)
 case atStart=>exact ⟨0,f,_,_,by omega,rfl,rfl,rfl,r2.out,b57,hfa.out,hfb.out,fun i hi=>by omega⟩
 case round =>
  clear hfa hfb r2 b57 b56 b6 b7
  obtain ⟨j,f2,av,bv,hj,rfl,rfl,rfl,hr,bI,hfa,hfb,hfit⟩:=hrel
  obtain ⟨wo,rfl⟩:∃ wo:World,wo=wr:=⟨_,rfl⟩
  have b0o:=b05.trans (bI.mono b05.size)
  by_cases hjl:j<L1
  ·obtain ⟨p,hp⟩:∃ p,ns.getD (j+1) 0=p:=⟨_,rfl⟩
   obtain ⟨pj,hpj⟩:∃ p,ns.getD j 0=p:=⟨_,rfl⟩
   have hll:=hL1.out
   have hjl2:=Hd hjl
   have hpl:p<N*N:=by rw [← hp]; exact hlow2.out (j+1) (by omega)
   have hpjl:pj<N*N:=by rw [← hpj]; exact hlow2.out j (by omega)
   have iJ:=fun w'=>iP.out j (by omega) w'
   have cJ:=cP2.out j (by omega)
   have iI:=fun w'=>iU.out j (by omega) w'
   have cI:=cU2.out j (by omega)
   rw [hp] at cJ
   rw [hpj] at cI
   have cJo:=(b0o.cell (World.block_lt_of_cell? _ _ cJ)).trans cJ
   have cIo:=(b0o.cell (World.block_lt_of_cell? _ _ cI)).trans cI
   have htk:ns.take (j+1+1)=ns.take (j+1)++[p]:=by
    rw [List.take_add_one,List.getElem?_eq_getElem (show j+1<ns.length by omega)]
    have:ns[j+1]'(by omega)=p:=by rw [← hp]; simp [List.getD,show j+1<ns.length by omega]
    rw [this]; rfl
   have htn:ns.take (j+1)≠[]:=by
    intro e
    have:=congrArg List.length e
    rw [List.length_take,List.length_nil] at this; omega
   have haS:=alongW_snoc K m (·/N) (ns.take (j+1)) p htn
   have hbS:=alongW_snoc K m (·%N) (ns.take (j+1)) p htn
   rw [← htk] at haS hbS
   obtain ⟨d1,d2,d3,d4,d5,d6⟩:=dm p N (by omega)
   obtain ⟨u1,hu1⟩:∃ z,p/N=z:=⟨_,rfl⟩
   obtain ⟨v1,hv1⟩:∃ z,p%N=z:=⟨_,rfl⟩
   rw [hu1] at d1 d3 d5 haS
   rw [hv1] at d2 d4 d6 hbS
   have hu1l:u1<N:=by rw [← hu1]; exact div_lt_of hpl
   have hv1l:v1<N:=by rw [← hv1]; exact Nat.mod_lt _ (by omega)
   obtain ⟨g1,g2,g3,g4,g5,g6⟩:=dm pj N (by omega)
   obtain ⟨uj,huj⟩:∃ z,pj/N=z:=⟨_,rfl⟩
   obtain ⟨vj,hvj⟩:∃ z,pj%N=z:=⟨_,rfl⟩
   rw [huj] at g1 g3 g5
   rw [hvj] at g2 g4 g6
   have hujl:uj<N:=by rw [← huj]; exact div_lt_of hpjl
   have hvjl:vj<N:=by rw [← hvj]; exact Nat.mod_lt _ (by omega)
   obtain ⟨_,x2,_,x4,_,x6⟩:=dm u1 K (by omega)
   obtain ⟨_,z2,_,z4,_,z6⟩:=dm v1 K (by omega)
   obtain ⟨s,hs⟩:∃ z,u1%K=z:=⟨_,rfl⟩
   obtain ⟨t,ht⟩:∃ z,v1%K=z:=⟨_,rfl⟩
   rw [hs] at x2 x4 x6 haS
   rw [ht] at z2 z4 z6 hbS
   have hsl:s<K:=by rw [← hs]; exact Nat.mod_lt _ (by omega)
   have htl:t<K:=by rw [← ht]; exact Nat.mod_lt _ (by omega)
   have hstep:StepFits K N T' pj p↔toN K N uj s=u1∧toN K N vj t=v1∧labN K T' uj s=labN K T' vj t:=by
    unfold StepFits; rw [hu1,hv1,huj,hvj,hs,ht]
   have qwo:=qw5.out.below bI
   have cNo:=cell_keep bI cN5.out
   clear cJ cI
   generalize valAt (.slice pa pn pc) j=tj at *
   generalize valAt (.slice ua un uc) j=ti at *
   have hoa:=hr.ownI hfa
   have hob:=hr.ownI hfb
   have hm6:m≤6:=by have:=hm.out; omega
   have hLa:(alongW K m (·/N) (ns.take (j+1))).length≤17592186044100:=by rw [alongW_len,List.length_take]; omega
   have hLb:(alongW K m (·%N) (ns.take (j+1))).length≤17592186044100:=by rw [alongW_len,List.length_take]; omega
   replace hp:=Hd hp
   replace hpj:=Hd hpj
   replace hll:=Hd hll
   replace htk:=Hd htk
   replace htn:=Hd htn
   replace haS:=Hd haS
   replace hbS:=Hd hbS
   replace hu1:=Hd hu1
   replace hv1:=Hd hv1
   replace huj:=Hd huj
   replace hvj:=Hd hvj
   replace hs:=Hd hs
   replace ht:=Hd ht
   replace hstep:=Hd hstep
   replace hfit:=Hd hfit
   replace hr:=Hd hr
   replace hfa:=Hd hfa
   replace hfb:=Hd hfb
   replace hoa:=Hd hoa
   replace hob:=Hd hob
   go_upto_region 12 with fail
   refine wp_region_plan (fun w'=>w'.cell? ⟨w1.heap.size,0,none⟩=some (.int .i64 K)∧w'.cell? ⟨w3.heap.size,0,none⟩=some (.int .i64 N)) 13 [(0,true),(1,true),(2,true),(3,true),(4,true),(5,true),(6,true),(7,true),(8,true),(9,true),(10,true),(11,true),(12,true)] (by kernel_rfl) (by kernel_rfl) ?_
   have hS:wo.drew.cell? ⟨w1.heap.size,0,none⟩=some (.int .i64 K)∧wo.drew.cell? ⟨w3.heap.size,0,none⟩=some (.int .i64 N):=⟨qwo.1.1,cNo⟩
   refine pqY 69 hS ?_
   refine pqY 70 hS ?_
   refine pqY 71 hS ?_
   refine pqY 72 hS ?_
   refine pqY 73 hS ?_
   refine pqY 74 hS ?_
   refine pqY 75 hS ?_
   refine pqY 76 hS ?_
   refine pqY 77 hS ?_
   refine pqY 78 hS ?_
   refine pqY 79 hS ?_
   refine pqY 80 hS ?_
   refine pqY 16 hS ?_
   refine head0 ?_
   simp only [List.drop_succ_cons,List.drop_zero]
   clear hS
   go_wp2
   refine NoPanic.normal ?_
   go_upto_region 13 with fail
   refine wp_region_plan (fun w'=>w'.cell? ⟨w1.heap.size,0,none⟩=some (.int .i64 K)∧w'.cell? ⟨w1.heap.size,1,none⟩=some (.int .i64 R')∧w'.cell? ⟨w1.heap.size,2,none⟩=some (.slice a n c)∧w'.cell? ⟨w3.heap.size,0,none⟩=some (.int .i64 N)∧w'.cell? ti=some (.int .i64 pj)) 15 [(0,true),(1,true),(2,true),(3,true),(4,true),(5,true),(6,true),(7,true),(8,false),(9,true),(10,true),(11,true),(12,true),(13,true),(14,true)] (by kernel_rfl) (by kernel_rfl) ?_
   have hS:wo.drew.drew.cell? ⟨w1.heap.size,0,none⟩=some (.int .i64 K)∧wo.drew.drew.cell? ⟨w1.heap.size,1,none⟩=some (.int .i64 R')∧wo.drew.drew.cell? ⟨w1.heap.size,2,none⟩=some (.slice a n c)∧wo.drew.drew.cell? ⟨w3.heap.size,0,none⟩=some (.int .i64 N)∧wo.drew.drew.cell? ti=some (.int .i64 pj):=⟨qwo.1.1,qwo.1.2.1,qwo.1.2.2,cNo,cIo⟩
   refine pqY 82 hS ?_
   refine pqY 83 hS ?_
   refine pqY 84 hS ?_
   refine pqY 85 hS ?_
   refine pqY 86 hS ?_
   refine pqY 87 hS ?_
   refine pqY 88 hS ?_
   refine pqY 89 hS ?_
   refine headC rfl (fun KK hK=>?_)
   go_simp
   refine (hEdge.out a n c uj s wo.drew.drew (hg5.out.below bI.drew.drew) (hT5.out.below bI.drew.drew) hujl hsl).mono ?_
   rintro e w6 ⟨x,y,z,rfl,b6,rfl,rfl,rfl⟩
   obtain ⟨X1,hX1⟩:∃ X,toN K N uj s=X:=⟨_,rfl⟩
   obtain ⟨O1,hO1⟩:∃ X,labN K T' uj s=X:=⟨_,rfl⟩
   rw [hX1,hO1]
   have bo6:Below wo.heap.size wo w6:=Below.trans ((Below.refl _ _).drew.drew) b6
   have hS6:w6.cell? ⟨w1.heap.size,0,none⟩=some (.int .i64 K)∧w6.cell? ⟨w1.heap.size,1,none⟩=some (.int .i64 R')∧w6.cell? ⟨w1.heap.size,2,none⟩=some (.slice a n c)∧w6.cell? ⟨w3.heap.size,0,none⟩=some (.int .i64 N)∧w6.cell? ti=some (.int .i64 pj):=⟨cell_keep b6 hS.1,cell_keep b6 hS.2.1,cell_keep b6 hS.2.2.1,cell_keep b6 hS.2.2.2.1,(b6.cell (World.block_lt_of_cell? _ _ hS.2.2.2.2)).trans hS.2.2.2.2⟩
   refine hK _ _ hS6 ?_
   clear hK KK
   refine pqY 81 hS6 ?_
   refine pqY 91 hS6 ?_
   refine pqY 92 hS6 ?_
   refine pqY 93 hS6 ?_
   refine pqY 18 hS6 ?_
   refine pqY 19 hS6 ?_
   refine head0 ?_
   simp only [List.drop_succ_cons,List.drop_zero]
   have bI6:=bI.trans (bo6.mono bI.size)
   have hS6':=Hd hS6
   clear hS hS6
   go_wp2
   refine NoPanic.normal ?_
   go_upto_region 14 with fail
   refine wp_region_plan (fun w'=>w'.cell? ⟨w1.heap.size,0,none⟩=some (.int .i64 K)∧w'.cell? ⟨w1.heap.size,1,none⟩=some (.int .i64 R')∧w'.cell? ⟨w1.heap.size,2,none⟩=some (.slice a n c)∧w'.cell? ⟨w3.heap.size,0,none⟩=some (.int .i64 N)∧w'.cell? ti=some (.int .i64 pj)) 15 [(0,true),(1,true),(2,true),(3,true),(4,true),(5,true),(6,true),(7,true),(8,false),(9,true),(10,true),(11,true),(12,true),(13,true),(14,true)] (by kernel_rfl) (by kernel_rfl) ?_
   have hS:w6.drew.cell? ⟨w1.heap.size,0,none⟩=some (.int .i64 K)∧w6.drew.cell? ⟨w1.heap.size,1,none⟩=some (.int .i64 R')∧w6.drew.cell? ⟨w1.heap.size,2,none⟩=some (.slice a n c)∧w6.drew.cell? ⟨w3.heap.size,0,none⟩=some (.int .i64 N)∧w6.drew.cell? ti=some (.int .i64 pj):=hS6'.out
   refine pqY 95 hS ?_
   refine pqY 96 hS ?_
   refine pqY 97 hS ?_
   refine pqY 98 hS ?_
   refine pqY 99 hS ?_
   refine pqY 100 hS ?_
   refine pqY 101 hS ?_
   refine pqY 102 hS ?_
   refine headC rfl (fun KK hK=>?_)
   go_simp
   refine (hEdge.out a n c vj t w6.drew (hg5.out.below bI6.drew) (hT5.out.below bI6.drew) hvjl htl).mono ?_
   rintro e w7 ⟨x,y,z,rfl,b7,rfl,rfl,rfl⟩
   obtain ⟨X2,hX2⟩:∃ X,toN K N vj t=X:=⟨_,rfl⟩
   obtain ⟨O2,hO2⟩:∃ X,labN K T' vj t=X:=⟨_,rfl⟩
   rw [hX2,hO2]
   have b67:Below w6.heap.size w6 w7:=Below.trans ((Below.refl _ _).drew) b7
   have bo7:=Below.step bo6 b67
   have bI7:=bI.trans (bo7.mono bI.size)
   have hS7:w7.cell? ⟨w1.heap.size,0,none⟩=some (.int .i64 K)∧w7.cell? ⟨w1.heap.size,1,none⟩=some (.int .i64 R')∧w7.cell? ⟨w1.heap.size,2,none⟩=some (.slice a n c)∧w7.cell? ⟨w3.heap.size,0,none⟩=some (.int .i64 N)∧w7.cell? ti=some (.int .i64 pj):=⟨cell_keep b7 hS.1,cell_keep b7 hS.2.1,cell_keep b7 hS.2.2.1,cell_keep b7 hS.2.2.2.1,(b7.cell (World.block_lt_of_cell? _ _ hS.2.2.2.2)).trans hS.2.2.2.2⟩
   refine hK _ _ hS7 ?_
   clear hK KK
   refine pqY 94 hS7 ?_
   refine pqY 104 hS7 ?_
   refine pqY 105 hS7 ?_
   refine pqY 106 hS7 ?_
   refine pqY 21 hS7 ?_
   refine pqY 22 hS7 ?_
   refine head0 ?_
   simp only [List.drop_succ_cons,List.drop_zero]
   obtain ⟨k0,k1,k2,k3,k4⟩:=hS7
   clear hS hS6' cIo cJo k0 k1 k2 k4 cNo
   rw [hX1,hO1,hX2,hO2] at hstep
   replace hX1:=Hd hX1
   replace hX2:=Hd hX2
   replace hO1:=Hd hO1
   replace hO2:=Hd hO2
   go_wp2
   refine NoPanic.normal ?_
   by_cases e1:X1=u1
   ·have q1:((X1:Int) != (u1:Int))=false:=by rw [bne_eq_false_iff_eq]; omega
    by_cases e2:X2=v1
    ·have q2:((X2:Int) != (v1:Int))=false:=by rw [bne_eq_false_iff_eq]; omega
     by_cases e3:O1=O2
     ·have q3:(O1 != O2)=false:=by rw [bne_eq_false_iff_eq]; exact e3
      have hnow:=hstep.out.2 ⟨e1,e2,e3⟩
      have hr7:=hr.out.below bo7
      have hoa7:=hoa.out.below bo7
      have hB7:=bI7.size
      replace e1:=Hd e1
      replace e2:=Hd e2
      replace e3:=Hd e3
      replace hr7:=Hd hr7
      go_wp2_with (at_builtin; go_loud (refine wpl_append1 rfl _ _ rfl w5.heap.size av _ s hoa7 rfl rfl (by omega) hB7 ?_))
      intro av2 w8 ho8 b8 hgr8 hal8
      have hr8:=hr7.out.push hfa.out (s:Int) ho8 hgr8 hal8
      have hfb8:upd f2 (1,0) (some (rowI av2 (alongW K m (·/N) (ns.take (j+1))++[(s:Int)]))) (2,0)=some (rowI bv (alongW K m (·%N) (ns.take (j+1)))):=by rw [upd_ne _ _ (by simp)]; exact hfb.out
      have hob8:=hr8.ownI hfb8
      have hB8:w5.heap.size≤w8.heap.size:=Nat.le_trans hB7 b8.size
      obtain ⟨a2a,a2n,a2c,rfl⟩:=ho8.at.shape
      replace hr8:=Hd hr8
      replace ho8:=Hd ho8
      clear hgr8 hal8 hoa7
      go_wp2_with (at_builtin; go_loud (refine wpl_append1 rfl _ _ rfl w5.heap.size bv _ t hob8 rfl rfl (by omega) hB8 ?_))
      intro bv2 w9 ho9 b9 hgr9 hal9
      have hr9:=hr8.out.push hfb8 (t:Int) ho9 hgr9 hal9
      obtain ⟨b2a,b2n,b2c,rfl⟩:=ho9.at.shape
      replace hr9:=Hd hr9
      replace ho9:=Hd ho9
      replace hfb8:=Hd hfb8
      clear hgr9 hal9 hob8
      go_wp2
      go_roundw
      case measure=>have:=hjl2.out; simp [intOf]; omega
      case rel =>
       refine ⟨j+1,_,_,_,by have:=hjl2.out; omega,by go_num,rfl,rfl,hr9.out,bI7.trans (b8.trans b9),?_,?_,fun i hi=>?_⟩
       ·rw [upd_ne _ _ (by simp),upd_same,haS.out]
       ·rw [upd_same,hbS.out]
       ·by_cases e:i=j
        ·subst e; rw [hpj.out,hp.out]; exact hnow
        ·exact hfit.out i (by omega)
     ·have q3:(O1 != O2)=true:=by rw [bne_iff_ne]; exact e3
      have hnow:¬ AllFit K N T' ns:=fun hA=>by
       have:=hA j (by have:=hll.out; have:=hjl2.out; omega)
       rw [hpj.out,hp.out,hstep.out] at this
       exact e3 this.2.2
      replace hnow:=Hd hnow
      go_wp2_with fail
      refine (pairs_wrong r _ _ w7 (hg5.out.below bI7) (by decide) (by decide)).mono ?_
      rintro e w8 ⟨x,rfl,b8,he⟩
      replace he:=Hd he
      have bE:=Below.step (b05.trans (bI7.mono b05.size)) b8
      go_wp2
      go_ret3
      exact ⟨_,_,_,rfl,bE,.inr ⟨hnow.out,rfl,rfl,he.out⟩⟩
    ·have q2:((X2:Int) != (v1:Int))=true:=by rw [bne_iff_ne]; omega
     have hnow:¬ AllFit K N T' ns:=fun hA=>by
      have:=hA j (by have:=hll.out; have:=hjl2.out; omega)
      rw [hpj.out,hp.out,hstep.out] at this
      exact e2 this.2.1
     replace hnow:=Hd hnow
     go_wp2_with fail
     refine (pairs_wrong r _ _ w7 (hg5.out.below bI7) (by decide) (by decide)).mono ?_
     rintro e w8 ⟨x,rfl,b8,he⟩
     replace he:=Hd he
     have bE:=Below.step (b05.trans (bI7.mono b05.size)) b8
     go_wp2
     go_ret3
     exact ⟨_,_,_,rfl,bE,.inr ⟨hnow.out,rfl,rfl,he.out⟩⟩
   ·have q1:((X1:Int) != (u1:Int))=true:=by rw [bne_iff_ne]; omega
    have hnow:¬ AllFit K N T' ns:=fun hA=>by
     have:=hA j (by have:=hll.out; have:=hjl2.out; omega)
     rw [hpj.out,hp.out,hstep.out] at this
     exact e1 this.1
    replace hnow:=Hd hnow
    go_wp2_with fail
    refine (pairs_wrong r _ _ w7 (hg5.out.below bI7) (by decide) (by decide)).mono ?_
    rintro e w8 ⟨x,rfl,b8,he⟩
    replace he:=Hd he
    have bE:=Below.step (b05.trans (bI7.mono b05.size)) b8
    go_wp2
    go_ret3
    exact ⟨_,_,_,rfl,bE,.inr ⟨hnow.out,rfl,rfl,he.out⟩⟩
  ·obtain rfl:j=L1:=by omega
   have hall:ns.take (j+1)=ns:=List.take_of_length_le (by have:=hL1.out; omega)
   rw [hall] at hfa hfb
   have hoa:=hr.ownI hfa
   have hob:=hr.ownI hfb
   have hdis:=hr.2 (1,0) (2,0) _ _ hfa hfb (by simp)
   have hAll:AllFit K N T' ns:=fun i hi=>hfit i (by have:=hL1.out; omega)
   have hoa':=hoa.mono (B':=w.heap.size) b05.size
   have hob':=hob.mono (B':=w.heap.size) b05.size
   obtain ⟨a2a,a2n,a2c,rfl⟩:=hoa.at.shape
   obtain ⟨b2a,b2n,b2c,rfl⟩:=hob.at.shape
   replace hr:=Hd hr
   replace hfa:=Hd hfa
   replace hfb:=Hd hfb
   replace hoa:=Hd hoa
   replace hob:=Hd hob
   replace hoa':=Hd hoa'
   replace hob':=Hd hob'
   replace hdis:=Hd hdis
   replace hAll:=Hd hAll
   replace hfit:=Hd hfit
   go_wp2
   go_ret3
   exact ⟨_,_,_,rfl,b0o,.inl ⟨hAll.out,rfl,hoa'.out,hob'.out,hdis.out⟩⟩
theorem step_appR {ops:Array Oper} {o:Oper} {a:Act} {w:World} {K:Act→World→Prop} {Q:Exit→Act→World→Prop} {Ep:Prop} (hgd:o.guard=none) (s x:Operand)
 (ho:o.op=.call { callee:=.builtin .append,args:=#[s,x],argTypes:=#[22,22] })
 (B:Nat) (v u:Value) (xs ys:List Int) (hs:a.eval s=v) (hx:a.eval x=u) (hown:OwnI B w v xs) (hu:IntsAt w u ys)
 (hlen:xs.length+ys.length≤17592186044416) (hB:B≤w.heap.size)
 (h:∀ v' w',OwnI B w' v' (xs++ys)→Below B w w'→w.grownBy w' v.ownBlock→(v'.ownBlock=v.ownBlock∨v'.ownBlock=some w.heap.size)→K (a.put o.dst v') w') :
 if Region.wanted o (yielded ops a.tmps)=true then Oper.wp Tryz.prog o a w K Q else Ep:=by
 have hw:Region.wanted o (yielded ops a.tmps)=true:=by simp [Region.wanted,hgd]
 rw [if_pos hw]
 obtain ⟨v',w',hr,h2,h3,h4,h5⟩:=run_appI B o.type v u xs ys hown hu hlen hB
 unfold Oper.wp
 simp [execOp,ho,resolve,invoke,builtin,hs,hx,hr,Result.andThen]
 exact h v' w' h2 h3 h4 h5
def SD (B:Nat) (W:World) (va:Value) (xs:List Int) (vb:Value) (ys:List Int) (L M:Option (Nat×Int)):Prop :=
 ∃ f,Rows B W f∧f (1,0)=some (rowI va xs)∧f (2,0)=some (rowI vb ys)∧(∀ b s,L=some (b,s)→f (3,0)=some (rowI (.slice (some ⟨b,0,none⟩) 1 1) [s]))∧(∀ b s,M=some (b,s)→f (4,0)=some (rowI (.slice (some ⟨b,0,none⟩) 1 1) [s]))
section
variable {B:Nat} {W:World} {va vb:Value} {xs ys:List Int} {L M:Option (Nat×Int)}
theorem SD.ownA (h:SD B W va xs vb ys L M):OwnI B W va xs:=by obtain ⟨f,hr,h1,_⟩:=h; exact hr.ownI h1
theorem SD.ownB (h:SD B W va xs vb ys L M):OwnI B W vb ys:=by obtain ⟨f,hr,_,h2,_⟩:=h; exact hr.ownI h2
theorem SD.litL {b:Nat} {s:Int} (h:SD B W va xs vb ys (some (b,s)) M):IntsAt W (.slice (some ⟨b,0,none⟩) 1 1) [s]:=by obtain ⟨f,hr,_,_,h3,_⟩:=h; exact (hr.ownI (h3 b s rfl)).at
theorem SD.litM {b:Nat} {s:Int} (h:SD B W va xs vb ys L (some (b,s))):IntsAt W (.slice (some ⟨b,0,none⟩) 1 1) [s]:=by obtain ⟨f,hr,_,_,_,h4⟩:=h; exact (hr.ownI (h4 b s rfl)).at
theorem SD.two (h:SD B W va xs vb ys L M):va.ownBlock=Option.none∨va.ownBlock≠vb.ownBlock:=by obtain ⟨f,hr,h1,h2,_⟩:=h; exact hr.2 (1,0) (2,0) _ _ h1 h2 (by simp)
theorem SD.forget (h:SD B W va xs vb ys L M):SD B W va xs vb ys Option.none Option.none:=by obtain ⟨f,hr,h1,h2,_⟩:=h; exact ⟨f,hr,h1,h2,(fun _ _ e=>by cases e),(fun _ _ e=>by cases e)⟩
theorem SD.below {w':World} (h:SD B W va xs vb ys L M) (hb:Below W.heap.size W w'):SD B w' va xs vb ys L M:=by obtain ⟨f,hr,h1⟩:=h; exact ⟨f,hr.below hb,h1⟩
theorem lit_own {B:Nat} {W:World} (hB:B≤W.heap.size) (s:Int):OwnI B (W.alloc (.cells #[.int .i64 s] 3)) (.slice (some ⟨W.heap.size,0,none⟩) 1 1) [s] :=
 OwnI.lit B W hB [s] (by simp [maxLen]) #[.int .i64 s] rfl 1 rfl
theorem SD.addL (h:SD B W va xs vb ys Option.none M) (hB:B≤W.heap.size) (s:Int) {b:Nat} (hb:b=W.heap.size):SD B (W.alloc (.cells #[.int .i64 s] 3)) va xs vb ys (some (b,s)) M:=by
 subst hb
 obtain ⟨f,hr,h1,h2,h3,h4⟩:=h
 refine ⟨_,hr.add (i:=(3,0)) (r':=rowI (.slice (some ⟨W.heap.size,0,none⟩) 1 1) [s]) (belowAlloc W _) (lit_own hB s) (fun k hk=>by cases hk; exact Nat.le_refl _),by rw [upd_ne _ _ (by simp)]; exact h1,by rw [upd_ne _ _ (by simp)]; exact h2,fun b t e=>?_,fun b t e=>by rw [upd_ne _ _ (by simp)]; exact h4 b t e⟩
 cases e; rw [upd_same]
theorem SD.addM (h:SD B W va xs vb ys L Option.none) (hB:B≤W.heap.size) (s:Int) {b:Nat} (hb:b=W.heap.size):SD B (W.alloc (.cells #[.int .i64 s] 3)) va xs vb ys L (some (b,s)):=by
 subst hb
 obtain ⟨f,hr,h1,h2,h3,h4⟩:=h
 refine ⟨_,hr.add (i:=(4,0)) (r':=rowI (.slice (some ⟨W.heap.size,0,none⟩) 1 1) [s]) (belowAlloc W _) (lit_own hB s) (fun k hk=>by cases hk; exact Nat.le_refl _),by rw [upd_ne _ _ (by simp)]; exact h1,by rw [upd_ne _ _ (by simp)]; exact h2,fun b t e=>by rw [upd_ne _ _ (by simp)]; exact h3 b t e,fun b t e=>?_⟩
 cases e; rw [upd_same]
theorem SD.appA {w':World} {v':Value} {s:Int} (h:SD B W va xs vb ys L M) (ho:OwnI B w' v' (xs++[s])) (hg:W.grownBy w' va.ownBlock) (hal:v'.ownBlock=va.ownBlock∨v'.ownBlock=some W.heap.size):SD B w' v' (xs++[s]) vb ys Option.none M:=by
 obtain ⟨f,hr,h1,h2,h3,h4⟩:=h
 refine ⟨_,hr.push h1 s ho hg (hal.imp id fun e=>⟨_,e,Nat.le_refl _⟩),upd_same _ _ _,by rw [upd_ne _ _ (by simp)]; exact h2,(fun _ _ e=>by cases e),fun b t e=>by rw [upd_ne _ _ (by simp)]; exact h4 b t e⟩
theorem SD.appB {w':World} {v':Value} {s:Int} (h:SD B W va xs vb ys L M) (ho:OwnI B w' v' (ys++[s])) (hg:W.grownBy w' vb.ownBlock) (hal:v'.ownBlock=vb.ownBlock∨v'.ownBlock=some W.heap.size):SD B w' va xs v' (ys++[s]) L Option.none:=by
 obtain ⟨f,hr,h1,h2,h3,h4⟩:=h
 refine ⟨_,hr.push h2 s ho hg (hal.imp id fun e=>⟨_,e,Nat.le_refl _⟩),by rw [upd_ne _ _ (by simp)]; exact h1,upd_same _ _ _,fun b t e=>by rw [upd_ne _ _ (by simp)]; exact h3 b t e,(fun _ _ e=>by cases e)⟩
end
def sideA (k n:Nat) (way:List Nat):List Int:=castI (way.map fun p=>p/n%k)
def sideB (k n:Nat) (way:List Nat):List Int:=castI (way.map fun p=>p%n%k)
theorem sideA_take {k n:Nat} {way:List Nat} {i p:Nat} (h:way[i]?=some p):sideA k n (way.take (i+1))=sideA k n (way.take i)++[((p/n%k:Nat):Int)]:=by
 rw [List.take_add_one,h]; simp [sideA,castI]
theorem sideB_take {k n:Nat} {way:List Nat} {i p:Nat} (h:way[i]?=some p):sideB k n (way.take (i+1))=sideB k n (way.take i)++[((p%n%k:Nat):Int)]:=by
 rw [List.take_add_one,h]; simp [sideB,castI]
theorem sideA_len (k n:Nat) (way:List Nat):(sideA k n way).length=way.length:=by simp [sideA,castI_len]
theorem sideB_len (k n:Nat) (way:List Nat):(sideB k n way).length=way.length:=by simp [sideB,castI_len]
theorem sides14_any (k n:Nat) (u:Value) (way:List Nat) (w:World) (hu:IntsAt w u (castI way)) (hk:1≤k) (hn:1≤n) (hlow:∀ p∈way,p≤1000000) (hlen:way.length≤1000000) :
 Calls Tryz.prog 108 #[.int .i64 k,.int .i64 n,u] w (Ret2 (fun x y w'=>OwnI w.heap.size w' x (sideA k n way)∧OwnI w.heap.size w' y (sideB k n way)∧(x.ownBlock=none∨x.ownBlock≠y.ownBlock)) w):=by
 have lu:=hu.len
 rw [castI_len] at lu
 obtain ⟨ua,un,uc,rfl⟩:=hu.shape
 have hk1:¬ (k:Int)=0:=by omega
 have hk2:((k:Int)==0)=false:=by rw [beq_eq_false_iff_ne]; omega
 have hk3:¬ k=0:=by omega
 have hn1:¬ (n:Int)=0:=by omega
 have hn2:((n:Int)==0)=false:=by rw [beq_eq_false_iff_ne]; omega
 have hn3:¬ n=0:=by omega
 have hS0:SD w.heap.size w (.slice none 0 0) (sideA k n (way.take 0)) (.slice none 0 0) (sideB k n (way.take 0)) Option.none Option.none:=by
  refine ⟨fun i=>if i=(1,0)∨i=(2,0) then some (rowI (.slice none 0 0) []) else Option.none,⟨fun i r hi=>?_,fun i j r s hi hj hne=>?_⟩,by simp [sideA,castI],by simp [sideB,castI],(fun _ _ e=>by cases e),(fun _ _ e=>by cases e)⟩
  ·dsimp only at hi
   split at hi
   ·cases hi; exact OwnI.nil _ _
   ·cases hi
  ·dsimp only at hi
   split at hi
   ·cases hi; exact .inl rfl
   ·cases hi
 replace hu:=Hd hu
 replace hlow:=Hd hlow
 replace hS0:=Hd hS0
 go_enter Tryz.func108,Tryz.ntmps108
 go_wp2_with fail
 go_loopw [8,9,14] (fun av bv iv wr=>∃ (i:Nat) (va vb:Value),i≤way.length∧iv=.int .i64 i∧va=av∧vb=bv∧SD w.heap.size wr va (sideA k n (way.take i)) vb (sideB k n (way.take i)) Option.none Option.none∧Below w.heap.size w wr) (fun _ _ iv _=>way.length-(intOf iv).toNat)
 case atStart=>exact ⟨0,_,_,by omega,rfl,rfl,rfl,hS0.out,Below.refl _ _⟩
 case round =>
  clear hS0
  obtain ⟨i,va,vb,hi,rfl,rfl,rfl,hS,hB⟩:=hrel
  obtain ⟨wo,rfl⟩:∃ wo:World,wo=wr:=⟨_,rfl⟩
  by_cases hil:i<way.length
  ·obtain ⟨p,hp⟩:∃ p,way[i]?=some p:=⟨_,List.getElem?_eq_getElem hil⟩
   have hpl:=hlow.out p (List.mem_of_getElem? hp)
   have huo:=hu.out.below hB
   have iU:=fun w'=>huo.idx i (by rw [castI_len]; exact hil) w'
   have cU:=huo.cellD i (by rw [castI_len]; exact hil)
   rw [castI_get hp] at cU
   have tA:=sideA_take (k:=k) (n:=n) hp
   have tB:=sideB_take (k:=k) (n:=n) hp
   have lA:=sideA_len k n (way.take i)
   have lB:=sideB_len k n (way.take i)
   rw [List.length_take] at lA lB
   have lA2:(sideA k n (way.take i)).length≤1000000:=by omega
   have lB2:(sideB k n (way.take i)).length≤1000000:=by omega
   clear lA lB
   obtain ⟨a1,a2,a3,a4,a5,a6⟩:=dm p n (by omega)
   have hal:p/n≤p:=Nat.div_le_self _ _
   have hbl:p%n≤p:=Nat.mod_le _ _
   obtain ⟨a,ha⟩:∃ a,p/n=a:=⟨_,rfl⟩
   obtain ⟨b,hb⟩:∃ b,p%n=b:=⟨_,rfl⟩
   rw [ha] at a1 a3 a5 hal tA
   rw [hb] at a2 a4 a6 hbl tB
   obtain ⟨-,b2,-,b4,-,b6⟩:=dm a k (by omega)
   obtain ⟨-,c2,-,c4,-,c6⟩:=dm b k (by omega)
   obtain ⟨s,hs⟩:∃ s,a%k=s:=⟨_,rfl⟩
   obtain ⟨t,ht⟩:∃ t,b%k=t:=⟨_,rfl⟩
   rw [hs] at b2 b4 b6 tA
   rw [ht] at c2 c4 c6 tB
   generalize valAt (.slice ua un uc) i=ui at *
   have hil2:=Hd hil
   replace hp:=Hd hp
   replace ha:=Hd ha
   replace hb:=Hd hb
   replace hs:=Hd hs
   replace ht:=Hd ht
   replace tA:=Hd tA
   replace tB:=Hd tB
   replace huo:=Hd huo
   obtain ⟨W,hW⟩:∃ W:World,W=wo.drew:=⟨_,rfl⟩
   have hSW:SD w.heap.size W va (sideA k n (way.take i)) vb (sideB k n (way.take i)) Option.none Option.none:=by rw [hW]; exact hS.below ((Below.refl _ _).drew)
   have hBW:Below w.heap.size w W:=by rw [hW]; exact hB.drew
   have hsz:=hBW.size
   have hva:=hS.ownA.at.shape
   have hvb:=hS.ownB.at.shape
   obtain ⟨aa,an,ac,rfl⟩:=hva
   obtain ⟨ba,bn,bc,rfl⟩:=hvb
   generalize sideA k n (way.take i)=As at *
   generalize sideB k n (way.take i)=Bs at *
   go_upto_region 5 with fail
   refine wp_region_noPanic ?_
   refine wp_region_any (by kernel_rfl) ?_
   change wpAny _ _ _ _ _ _ _ (World.drew _)
   rw [← hW]
   clear hS hB cU iU hW
   refine pqA 0 18 ?_
   refine pqA 1 19 ?_
   refine pqA 2 20 ?_
   refine pqA 3 21 ?_
   refine pqA 4 22 ?_
   refine pqA 5 23 ?_
   refine pqA 8 26 ?_
   refine pqA 9 27 ?_
   refine pqA 10 28 ?_
   refine pqA 11 29 ?_
   refine pqA 12 30 ?_
   refine pqA 13 31 ?_
   refine wpAny_ready (rs:=[6,14]) (by kernel_rfl) (by simp) (AllReady.cons rfl (fun KK hK=>?_) (AllReady.cons rfl (fun KK hK=>?_) AllReady.nil))
   ·go_simp
    refine hK _ _ ?_
    clear hK KK
    obtain ⟨X1,hY1⟩:∃ Y:World,Y=W.alloc (.cells #[.int .i64 (s:Int)] 3):=⟨_,rfl⟩
    have S1:=hSW.addL hsz (s:Int) rfl
    have B1:=hBW.trans ((belowAlloc W (.cells #[.int .i64 (s:Int)] 3)).mono hsz)
    rw [← hY1] at S1 B1 ⊢
    have hX1:w.heap.size≤X1.heap.size:=B1.size
    clear hSW hY1
    refine wpAny_ready (rs:=[7,14]) (by kernel_rfl) (by simp) (AllReady.cons rfl (fun KK hK=>?_) (AllReady.cons rfl (fun KK hK=>?_) AllReady.nil))
    ·refine step_appR rfl _ _ rfl w.heap.size (.slice aa an ac) _ As [(s:Int)] rfl rfl S1.ownA S1.litL (by simp; omega) hX1 ?_
     intro v' X2 ho' hb' hg' hal'
     refine hK _ _ ?_
     clear hK KK
     have S2:=S1.appA ho' hg' hal'
     have B2:=B1.trans hb'
     have hX2:w.heap.size≤X2.heap.size:=B2.size
     obtain ⟨ea,en,ec,rfl⟩:=ho'.at.shape
     clear S1 ho' hb' hg' hal'
     refine wpAny_ready (rs:=[14]) (by kernel_rfl) (by simp) (AllReady.cons rfl (fun KK hK=>?_) AllReady.nil)
     ·go_simp
      refine hK _ _ ?_
      clear hK KK
      obtain ⟨X3,hY3⟩:∃ Y:World,Y=X2.alloc (.cells #[.int .i64 (t:Int)] 3):=⟨_,rfl⟩
      have S3:=S2.addM hX2 (t:Int) rfl
      have B3:=B2.trans ((belowAlloc X2 (.cells #[.int .i64 (t:Int)] 3)).mono hX2)
      rw [← hY3] at S3 B3 ⊢
      have hX3:w.heap.size≤X3.heap.size:=B3.size
      clear S2 hY3
      refine wpAny_ready (rs:=[15]) (by kernel_rfl) (by simp) (AllReady.cons rfl (fun KK hK=>?_) AllReady.nil)
      ·refine step_appR rfl _ _ rfl w.heap.size (.slice ba bn bc) _ Bs [(t:Int)] rfl rfl S3.ownB S3.litM (by simp; omega) hX3 ?_
       intro v' X4 ho' hb' hg' hal'
       refine hK _ _ ?_
       clear hK KK
       have S4:=S3.appB ho' hg' hal'
       have B4:=B3.trans hb'
       have hX4:w.heap.size≤X4.heap.size:=B4.size
       obtain ⟨fa,fn,fc,rfl⟩:=ho'.at.shape
       clear S3 ho' hb' hg' hal'
       refine takeA (i:=16) (v:=?_) (some 8) rfl rfl (by kernel_rfl) (by kernel_rfl) (by kernel_rfl) (fun _ _ _ h=>h) (Or.inl ⟨by rfl,?_⟩) ?_
       rotate_left
       ·intro _; go_simp; try with_reducible rfl
       simp only [Act.put,List.setIfInBounds_toArray]
       refine takeA (i:=17) (v:=?_) (some 9) rfl rfl (by kernel_rfl) (by kernel_rfl) (by kernel_rfl) (fun _ _ _ h=>h) (Or.inl ⟨by rfl,?_⟩) ?_
       rotate_left
       ·intro _; go_simp; try with_reducible rfl
       simp only [Act.put]
       refine wpAny_done (by kernel_rfl) ?_ _
       refine NoPanic.normal ?_
       have hF:=S4.forget
       rw [← tA.out,← tB.out] at hF
       replace hF:=Hd hF
       clear S4
       go_wp2
       go_roundw
       case rel=>exact ⟨i+1,_,_,by have:=hil2.out; omega,by go_num,rfl,rfl,hF.out,B4⟩
       case measure=>have:=hil2.out; simp [intOf]; omega
    ·go_simp
     refine hK _ _ ?_
     clear hK KK
     obtain ⟨X2,hY2⟩:∃ Y:World,Y=X1.alloc (.cells #[.int .i64 (t:Int)] 3):=⟨_,rfl⟩
     have S2:=S1.addM hX1 (t:Int) rfl
     have B2:=B1.trans ((belowAlloc X1 (.cells #[.int .i64 (t:Int)] 3)).mono hX1)
     rw [← hY2] at S2 B2 ⊢
     have hX2:w.heap.size≤X2.heap.size:=B2.size
     clear S1 hY2
     refine wpAny_ready (rs:=[7]) (by kernel_rfl) (by simp) (AllReady.cons rfl (fun KK hK=>?_) AllReady.nil)
     ·refine step_appR rfl _ _ rfl w.heap.size (.slice aa an ac) _ As [(s:Int)] rfl rfl S2.ownA S2.litL (by simp; omega) hX2 ?_
      intro v' X3 ho' hb' hg' hal'
      refine hK _ _ ?_
      clear hK KK
      have S3:=S2.appA ho' hg' hal'
      have B3:=B2.trans hb'
      have hX3:w.heap.size≤X3.heap.size:=B3.size
      obtain ⟨ea,en,ec,rfl⟩:=ho'.at.shape
      clear S2 ho' hb' hg' hal'
      refine wpAny_ready (rs:=[15]) (by kernel_rfl) (by simp) (AllReady.cons rfl (fun KK hK=>?_) AllReady.nil)
      ·refine step_appR rfl _ _ rfl w.heap.size (.slice ba bn bc) _ Bs [(t:Int)] rfl rfl S3.ownB S3.litM (by simp; omega) hX3 ?_
       intro v' X4 ho' hb' hg' hal'
       refine hK _ _ ?_
       clear hK KK
       have S4:=S3.appB ho' hg' hal'
       have B4:=B3.trans hb'
       have hX4:w.heap.size≤X4.heap.size:=B4.size
       obtain ⟨fa,fn,fc,rfl⟩:=ho'.at.shape
       clear S3 ho' hb' hg' hal'
       refine takeA (i:=16) (v:=?_) (some 8) rfl rfl (by kernel_rfl) (by kernel_rfl) (by kernel_rfl) (fun _ _ _ h=>h) (Or.inl ⟨by rfl,?_⟩) ?_
       rotate_left
       ·intro _; go_simp; try with_reducible rfl
       simp only [Act.put,List.setIfInBounds_toArray]
       refine takeA (i:=17) (v:=?_) (some 9) rfl rfl (by kernel_rfl) (by kernel_rfl) (by kernel_rfl) (fun _ _ _ h=>h) (Or.inl ⟨by rfl,?_⟩) ?_
       rotate_left
       ·intro _; go_simp; try with_reducible rfl
       simp only [Act.put]
       refine wpAny_done (by kernel_rfl) ?_ _
       refine NoPanic.normal ?_
       have hF:=S4.forget
       rw [← tA.out,← tB.out] at hF
       replace hF:=Hd hF
       clear S4
       go_wp2
       go_roundw
       case rel=>exact ⟨i+1,_,_,by have:=hil2.out; omega,by go_num,rfl,rfl,hF.out,B4⟩
       case measure=>have:=hil2.out; simp [intOf]; omega
   ·go_simp
    refine hK _ _ ?_
    clear hK KK
    obtain ⟨X1,hY1⟩:∃ Y:World,Y=W.alloc (.cells #[.int .i64 (t:Int)] 3):=⟨_,rfl⟩
    have S1:=hSW.addM hsz (t:Int) rfl
    have B1:=hBW.trans ((belowAlloc W (.cells #[.int .i64 (t:Int)] 3)).mono hsz)
    rw [← hY1] at S1 B1 ⊢
    have hX1:w.heap.size≤X1.heap.size:=B1.size
    clear hSW hY1
    refine wpAny_ready (rs:=[6]) (by kernel_rfl) (by simp) (AllReady.cons rfl (fun KK hK=>?_) AllReady.nil)
    ·go_simp
     refine hK _ _ ?_
     clear hK KK
     obtain ⟨X2,hY2⟩:∃ Y:World,Y=X1.alloc (.cells #[.int .i64 (s:Int)] 3):=⟨_,rfl⟩
     have S2:=S1.addL hX1 (s:Int) rfl
     have B2:=B1.trans ((belowAlloc X1 (.cells #[.int .i64 (s:Int)] 3)).mono hX1)
     rw [← hY2] at S2 B2 ⊢
     have hX2:w.heap.size≤X2.heap.size:=B2.size
     clear S1 hY2
     refine wpAny_ready (rs:=[7]) (by kernel_rfl) (by simp) (AllReady.cons rfl (fun KK hK=>?_) AllReady.nil)
     ·refine step_appR rfl _ _ rfl w.heap.size (.slice aa an ac) _ As [(s:Int)] rfl rfl S2.ownA S2.litL (by simp; omega) hX2 ?_
      intro v' X3 ho' hb' hg' hal'
      refine hK _ _ ?_
      clear hK KK
      have S3:=S2.appA ho' hg' hal'
      have B3:=B2.trans hb'
      have hX3:w.heap.size≤X3.heap.size:=B3.size
      obtain ⟨ea,en,ec,rfl⟩:=ho'.at.shape
      clear S2 ho' hb' hg' hal'
      refine wpAny_ready (rs:=[15]) (by kernel_rfl) (by simp) (AllReady.cons rfl (fun KK hK=>?_) AllReady.nil)
      ·refine step_appR rfl _ _ rfl w.heap.size (.slice ba bn bc) _ Bs [(t:Int)] rfl rfl S3.ownB S3.litM (by simp; omega) hX3 ?_
       intro v' X4 ho' hb' hg' hal'
       refine hK _ _ ?_
       clear hK KK
       have S4:=S3.appB ho' hg' hal'
       have B4:=B3.trans hb'
       have hX4:w.heap.size≤X4.heap.size:=B4.size
       obtain ⟨fa,fn,fc,rfl⟩:=ho'.at.shape
       clear S3 ho' hb' hg' hal'
       refine takeA (i:=16) (v:=?_) (some 8) rfl rfl (by kernel_rfl) (by kernel_rfl) (by kernel_rfl) (fun _ _ _ h=>h) (Or.inl ⟨by rfl,?_⟩) ?_
       rotate_left
       ·intro _; go_simp; try with_reducible rfl
       simp only [Act.put,List.setIfInBounds_toArray]
       refine takeA (i:=17) (v:=?_) (some 9) rfl rfl (by kernel_rfl) (by kernel_rfl) (by kernel_rfl) (fun _ _ _ h=>h) (Or.inl ⟨by rfl,?_⟩) ?_
       rotate_left
       ·intro _; go_simp; try with_reducible rfl
       simp only [Act.put]
       refine wpAny_done (by kernel_rfl) ?_ _
       refine NoPanic.normal ?_
       have hF:=S4.forget
       rw [← tA.out,← tB.out] at hF
       replace hF:=Hd hF
       clear S4
       go_wp2
       go_roundw
       case rel=>exact ⟨i+1,_,_,by have:=hil2.out; omega,by go_num,rfl,rfl,hF.out,B4⟩
       case measure=>have:=hil2.out; simp [intOf]; omega
  ·obtain rfl:i=way.length:=by omega
   rw [List.take_length] at hS
   have h1:=hS.ownA
   have h2:=hS.ownB
   have h3:=hS.two
   replace hS:=Hd hS
   replace h1:=Hd h1
   replace h2:=Hd h2
   replace h3:=Hd h3
   go_wp2
   go_ret2
   exact ⟨_,_,rfl,hB,h1.out,h2.out,h3.out⟩
end Go.Proofs.YtkaoebokbfcmhaaGreatDoor
namespace Go.Proofs.YtkaoebokbfcmhaaGreatDoor
open Go.RowKit
set_option maxRecDepth 100000
structure Kin (w:World) (lo:Nat) (vs:List Value) (xs:List (List Int)):Prop where
 len:vs.length=xs.length
 own:∀ t,t<vs.length→OwnI lo w (vAt vs t) (xs.getD t [])
 two:∀ s t,s<vs.length→t<vs.length→s≠t→(vAt vs s).ownBlock=none∨(vAt vs s).ownBlock≠(vAt vs t).ownBlock
theorem wpl_app_run {w:World} {ops:Array Oper} {rest:List Oper} {o:Oper} {a:Act} {Q:Exit→Act→World→Prop} (hgd:o.guard=none) (s x:Operand) (T:TypeId)
 (ho:o.op=.call { callee:=.builtin .append,args:=#[s,x],argTypes:=#[T,T] })
 (v u:Value) (hs:a.eval s=v) (hx:a.eval x=u) {v':Value} {w':World} (hr:(Builtin.append_ #[T,T] o.type #[v,u]).run Tryz.prog w=.ok v' w')
 (h:wpList Tryz.prog ops Q rest (a.put o.dst v') w') :
 wpList Tryz.prog ops Q (o::rest) a w:=by
 refine wpList_plain hgd fun K hK=>?_
 unfold Oper.wp execOp
 simp only [ho,resolve,invoke,builtin,Sem.run_bind,Sem.run_pure,Result.andThen_ok,List.map_toArray,List.map_cons,List.map_nil,hs,hx]
 rw [hr]
 exact hK _ _ h
theorem add_lit0 (b j:Nat):(⟨b,0,none⟩:Addr).add j=⟨b,j,none⟩:=by simp [Addr.add_lit]
theorem run_appTail (B:Nat) (ty:TypeId) (w:World) (g C b:Nat) (xs:List Int) (y:Int) (hown:OwnI B w (.slice (some ⟨g,0,none⟩) xs.length C) xs) (hL:1≤xs.length) (hb:w.cell? ⟨b,0,none⟩=some (.int .i64 y)) (hB:B≤w.heap.size) (hlen:xs.length≤1000000) :
 ∃ v' w',(Builtin.append_ #[22,22] ty #[sliced (some ⟨g,0,none⟩) 1 xs.length C 1,.slice (some ⟨b,0,none⟩) 1 1]).run Tryz.prog w=.ok v' w'∧IntsAt w' v' (xs.drop 1++[y])∧Below B w w'∧w.grownBy w' (some g):=by
 obtain ⟨i,hi,hz0,hz1,hz2⟩:=info_parts iInt
 have hat:=hown.at
 have hcells:∀ j (hj:j<xs.length),w.cell? ⟨g,j,none⟩=some (.int .i64 xs[j]):=fun j hj=>by
  have:=hat.cell j hj
  rwa [valAt_row] at this
 have hnews:∀ (j:Nat) (u:Value),([.int .i64 y]:List Value)[j]?=some u→w.cell? ((⟨b,0,none⟩:Addr).add j)=some u:=by
  intro j u hj
  cases j with
  | zero=>simp at hj; subst hj; rw [add_lit0]; exact hb
  | succ j=>simp at hj
 have hone:∀ u∈([.int .i64 y]:List Value),u.oneCell'=true:=by intro u hu; rw [List.mem_singleton] at hu; subst hu; rfl
 rcases hown.2 with ⟨e,_⟩ | ⟨g',cap,cur,e,hBg,hg,hn,hm,hs,ht⟩
 ·cases e
 injection e with e1 _ e3
 obtain rfl:g=g':=by injection e1 with e1; injection e1
 subst e3
 have finish:∀ v' w',w'.ownsRow w.heap.size 3 1 v' (xs.length-1+1) ((xs.drop 1).map (Value.int .i64)++[.int .i64 y])→IntsAt w' v' (xs.drop 1++[y]):=fun v' w' h=>by
  have:OwnI w.heap.size w' v' (xs.drop 1++[y]):=by
   unfold OwnI
   rw [List.map_append,List.length_append,List.length_drop]
   exact h
  exact this.at
 by_cases hC:C=1
 ·have h1:xs.length=1:=by omega
  have hsl:sliced (some ⟨g,0,none⟩) 1 xs.length C 1=.slice (some ⟨g,0,none⟩) 0 0:=by unfold sliced; rw [if_pos hC,h1,hC]
  obtain ⟨v',w',hr,r1,r2⟩:=run_append_arg_grows (P:=Tryz.prog) w 22 ty 3 i (.int .i64 0) 1 8 uInts hi hz0 hz1 hz2 rfl (by decide) ⟨g,0,none⟩ 0 0 [] rfl (by simp) ⟨b,0,none⟩ 1 1 [.int .i64 y] rfl hnews (by omega) (by unfold maxLen; omega) (by omega)
  have hd:xs.drop 1=[]:=List.drop_eq_nil_of_le (by omega)
  refine ⟨v',w',by rw [hsl]; exact hr,finish v' w' (by rw [hd,h1]; exact r1),(Below.refl _ _).grown r2 hB (by intro k hk; cases hk),⟨r2.os,r2.tape,r2.output,r2.size,fun k hk _=>r2.block k hk (by simp)⟩⟩
 ·have hsl:sliced (some ⟨g,0,none⟩) 1 xs.length C 1=.slice (some ⟨g,1,none⟩) (xs.length-1) (C-1):=by unfold sliced; rw [if_neg hC]; rfl
  by_cases hroom:xs.length<C
  ·have hcs:cur.size=C:=by rw [hs,Nat.mul_one]
   have hl:w.cell? ⟨g,xs.length,none⟩=cur[xs.length]?:=cell_of_row w g _ cur _ _ hg
   have hsome:(w.cell? ⟨g,xs.length,none⟩).isSome=true:=by rw [hl]; simp [hcs,hroom]
   have hfz:w.frozen? ⟨g,xs.length,none⟩=false:=frozen_of_row w g _ cur _ hg
   have e1:1+(xs.length-1)*i.size+0=xs.length:=by rw [hz1]; omega
   have hr:=run_append_room_cells (P:=Tryz.prog) w 22 ty 3 i uInts hi g 1 (xs.length-1) (C-1) ⟨b,0,none⟩ 1 1 [.int .i64 y] (by rw [hz1]; rfl) hnews hone (by omega) (fun j hj=>by
    obtain rfl:j=0:=by simpa using hj
    rw [e1]; exact hsome) (fun j hj=>by
    obtain rfl:j=0:=by simpa using hj
    rw [e1]; exact hfz)
   have e2:1+(xs.length-1)*i.size=xs.length:=by rw [hz1]; omega
   have e3:xs.length-1+1=xs.length:=by omega
   rw [e2,e3] at hr
   have e4:w.setCells g xs.length [.int .i64 y]=w.setCell ⟨g,xs.length,none⟩ (.int .i64 y):=rfl
   rw [e4] at hr
   refine ⟨_,_,by rw [hsl]; exact hr,?_,(Below.refl _ _).setCell hBg _,⟨rfl,rfl,rfl,by simp [World.setCell],fun k _ hk=>Below.heap_setCell _ _ _ _ (by intro e; exact hk (by rw [e]))⟩⟩
   refine ⟨some ⟨g,1,none⟩,C-1,by simp; omega,by simp; omega,by omega,(by intro e; cases e),fun j hj=>?_⟩
   have hj2:j<xs.length:=by simp at hj; omega
   have ev:valAt (.slice (some ⟨g,1,none⟩) xs.length (C-1)) j=⟨g,1+j,none⟩:=by simp [valAt,Addr.add_lit]
   rw [ev]
   by_cases hjl:j+1<xs.length
   ·rw [World.cell?_setCell_other _ _ _ _ (by intro e; have:=congrArg Addr.off e; dsimp only at this; omega),Nat.add_comm 1 j,hcells (j+1) hjl]
    rw [List.getElem_append_left (by simp; omega),List.getElem_drop]
    simp only [Nat.add_comm 1 j]
   ·obtain rfl:j=xs.length-1:=by omega
    rw [show 1+(xs.length-1)=xs.length by omega,World.cell?_setCell_same' _ _ _ hsome,List.getElem_append_right (by simp)]
    simp
  ·obtain ⟨v',w',hr,r1,r2⟩:=run_append_arg_grows (P:=Tryz.prog) w 22 ty 3 i (.int .i64 0) 1 8 uInts hi hz0 hz1 hz2 rfl (by decide) ⟨g,1,none⟩ (xs.length-1) (C-1) ((xs.drop 1).map (Value.int .i64)) (by simp) (fun j u hj=>by
    have hjl:j<(xs.drop 1).length:=by have:=(List.getElem?_eq_some_iff.1 hj).1; simpa using this
    have hjl2:j+1<xs.length:=by simp at hjl; omega
    rw [Addr.add_lit,Nat.add_comm 1 j,hcells (j+1) hjl2,← hj]
    simp [hjl2]) ⟨b,0,none⟩ 1 1 [.int .i64 y] rfl hnews (by omega) (by unfold maxLen; omega) (by omega)
   exact ⟨v',w',by rw [hsl]; exact hr,finish v' w' r1,(Below.refl _ _).grown r2 hB (by intro k hk; cases hk),⟨r2.os,r2.tape,r2.output,r2.size,fun k hk _=>r2.block k hk (by simp)⟩⟩
theorem run_sliceTail (g L C:Nat) (hL:1≤L) (w:World):(Instr.slice 22 (.slice (some ⟨g,0,none⟩) L C) (some (.int .i64 1)) none none).run Tryz.prog w=.ok (sliced (some ⟨g,0,none⟩) 1 L C 1) w:=by
 have:=run_slice_l (P:=Tryz.prog) w 22 (some ⟨g,0,none⟩) L C uIntsE .i64 1 (by omega) (by omega)
 rw [eInts,sInt] at this
 exact this
set_option maxHeartbeats 8000000
def outG (G:List (List Int)) (a:Int):Prop:=a<0∨(G.length:Int)≤a
instance (G:List (List Int)) (a:Int):Decidable (outG G a):=by unfold outG; infer_instance
def pathE (G:List (List Int)) (a b:Int):PErr :=
 match checkG G with
 | some t=>some t
 | none=>if outG G a then fresh sGraph 1 3 else if outG G b then fresh sGraph 2 3 else none
theorem pathE_ok {G:List (List Int)} {x y:Nat} (hc:checkG G=none) (hx:x<G.length) (hy:y<G.length):pathE G x y=none:=by
 unfold pathE
 rw [hc]
 dsimp only
 rw [if_neg (by unfold outG; omega),if_neg (by unfold outG; omega)]
def PathPost (r:Nat→Addr) (w:World) (G:List (List Int)) (a b:Int) (x y:Value) (w':World):Prop :=
 ErrIs r w' (pathE G a b) y∧(pathE G a b=none→FirstPost w (adjOf G) a.toNat b.toNat x w')∧(pathE G a b≠none→x=.slice none 0 0)
theorem FirstPost.step {w1 w2 w3:World} {adj:Nat→List Nat} {a b:Nat} {x:Value} (h:FirstPost w2 adj a b x w3) (hs:w1.heap.size≤w2.heap.size):FirstPost w1 adj a b x w3:=by
 rcases h with ⟨u,h1,h2⟩ | h
 ·exact .inl ⟨u,h1,h2.mono hs⟩
 ·exact .inr h
theorem FirstPost.shape {w w':World} {adj:Nat→List Nat} {a b:Nat} {x:Value} (h:FirstPost w adj a b x w'):∃ p n c,x=.slice p n c:=by
 rcases h with ⟨u,_,h2⟩ | ⟨_,h⟩
 ·exact h2.at.shape
 ·exact ⟨_,_,_,h⟩
theorem path_any (r:Nat→Addr) (na:Option Addr) (nc:Nat) (G:List (List Int)) (a b:Int) (w:World) (hg:Glob r w) (h:ListsAt w (.slice na G.length nc) G) (hsz:∀ k,k<G.length→(G.getD k []).length≤17592186044416) :
 Calls Tryz.prog 107 #[.slice na G.length nc,.int .i64 a,.int .i64 b] w (Ret2 (PathPost r w G a b) w):=by
 have hC:=graph_check r na nc G w hg h hsz
 cases hck:checkG G with
 | some t =>
  rw [hck] at hC
  have hp:pathE G a b=some t:=by unfold pathE; rw [hck]
  replace hp:=Hd hp
  replace hck:=Hd hck
  replace h:=Hd h
  replace hg:=Hd hg
  replace hsz:=Hd hsz
  go_enter Tryz.func107,Tryz.ntmps107
  go_wp2_with fail
  refine hC.mono ?_
  rintro e w1 ⟨y,rfl,b1,he⟩
  obtain ⟨T,p,rfl⟩:=he.some_shape
  replace he:=Hd he
  go_wp2
  go_ret2
  exact ⟨_,_,rfl,b1,⟨by rw [hp.out]; exact he.out,⟨fun q=>(by rw [hp.out] at q; cases q),fun _=>rfl⟩⟩⟩
 | none =>
  rw [hck] at hC
  obtain ⟨hn,harr,hok⟩:=checkG_none hck
  by_cases ha:outG G a
  ·have hp:pathE G a b=fresh sGraph 1 3:=by unfold pathE; rw [hck]; dsimp only; rw [if_pos ha]
   replace hp:=Hd hp
   replace hck:=Hd hck
   replace h:=Hd h
   replace hg:=Hd hg
   replace hsz:=Hd hsz
   replace hok:=Hd hok
   rcases ha with ha | ha
   ·go_enter Tryz.func107,Tryz.ntmps107
    go_wp2_with fail
    refine hC.mono ?_
    rintro e w1 ⟨y,rfl,b1,he⟩
    obtain rfl:=he.none_eq
    clear he hC
    go_wp2_with fail
    refine (graph_wrong r _ _ _ (hg.out.below b1) (by decide) (by decide)).mono ?_
    rintro e w2 ⟨y,rfl,b2,he⟩
    replace he:=Hd he
    go_wp2
    go_ret2
    exact ⟨_,_,rfl,Below.step b1 b2,⟨by rw [hp.out]; exact he.out,⟨fun q=>(by rw [hp.out] at q; cases q),fun _=>rfl⟩⟩⟩
   ·have ha0:¬ a<0:=by omega
    go_enter Tryz.func107,Tryz.ntmps107
    go_wp2_with fail
    refine hC.mono ?_
    rintro e w1 ⟨y,rfl,b1,he⟩
    obtain rfl:=he.none_eq
    clear he hC
    go_wp2_with fail
    refine (graph_wrong r _ _ _ (hg.out.below b1) (by decide) (by decide)).mono ?_
    rintro e w2 ⟨y,rfl,b2,he⟩
    replace he:=Hd he
    go_wp2
    go_ret2
    exact ⟨_,_,rfl,Below.step b1 b2,⟨by rw [hp.out]; exact he.out,⟨fun q=>(by rw [hp.out] at q; cases q),fun _=>rfl⟩⟩⟩
  ·have ha1:0≤a∧a<G.length:=by unfold outG at ha; omega
   obtain ⟨ha1,ha2⟩:=ha1
   by_cases hb:outG G b
   ·have hp:pathE G a b=fresh sGraph 2 3:=by unfold pathE; rw [hck]; dsimp only; rw [if_neg ha,if_pos hb]
    replace hp:=Hd hp
    replace hck:=Hd hck
    replace h:=Hd h
    replace hg:=Hd hg
    replace hsz:=Hd hsz
    replace hok:=Hd hok
    clear ha
    rcases hb with hb | hb
    ·go_enter Tryz.func107,Tryz.ntmps107
     go_wp2_with fail
     refine hC.mono ?_
     rintro e w1 ⟨y,rfl,b1,he⟩
     obtain rfl:=he.none_eq
     clear he hC
     go_wp2_with fail
     refine (graph_wrong r _ _ _ (hg.out.below b1) (by decide) (by decide)).mono ?_
     rintro e w2 ⟨y,rfl,b2,he⟩
     replace he:=Hd he
     go_wp2
     go_ret2
     exact ⟨_,_,rfl,Below.step b1 b2,⟨by rw [hp.out]; exact he.out,⟨fun q=>(by rw [hp.out] at q; cases q),fun _=>rfl⟩⟩⟩
    ·have hb0:¬ b<0:=by omega
     go_enter Tryz.func107,Tryz.ntmps107
     go_wp2_with fail
     refine hC.mono ?_
     rintro e w1 ⟨y,rfl,b1,he⟩
     obtain rfl:=he.none_eq
     clear he hC
     go_wp2_with fail
     refine (graph_wrong r _ _ _ (hg.out.below b1) (by decide) (by decide)).mono ?_
     rintro e w2 ⟨y,rfl,b2,he⟩
     replace he:=Hd he
     go_wp2
     go_ret2
     exact ⟨_,_,rfl,Below.step b1 b2,⟨by rw [hp.out]; exact he.out,⟨fun q=>(by rw [hp.out] at q; cases q),fun _=>rfl⟩⟩⟩
   ·have hb1:0≤b∧b<G.length:=by unfold outG at hb; omega
    obtain ⟨hb1,hb2⟩:=hb1
    have hp:pathE G a b=none:=by unfold pathE; rw [hck]; dsimp only; rw [if_neg ha,if_neg hb]
    obtain ⟨x,rfl⟩:=Int.eq_ofNat_of_zero_le ha1
    obtain ⟨y,rfl⟩:=Int.eq_ofNat_of_zero_le hb1
    have hx:x<G.length:=by omega
    have hy:y<G.length:=by omega
    clear ha hb ha1 hb1 ha2 hb2
    replace hp:=Hd hp
    replace hck:=Hd hck
    replace h:=Hd h
    replace hg:=Hd hg
    replace hsz:=Hd hsz
    replace hok:=Hd hok
    go_enter Tryz.func107,Tryz.ntmps107
    go_wp2_with fail
    refine hC.mono ?_
    rintro e w1 ⟨y',rfl,b1,he⟩
    obtain rfl:=he.none_eq
    clear he hC
    go_wp2_with fail
    refine (first_any na nc G x y _ (h.out.below b1) hok.out (by omega) hx hy hsz.out).mono ?_
    rintro e w2 ⟨z,rfl,b2,hz⟩
    obtain ⟨zp,zn,zc,rfl⟩:=hz.shape
    replace hz:=Hd hz
    go_wp2
    go_ret2
    exact ⟨_,_,rfl,Below.step b1 b2,⟨by rw [hp.out]; rfl,⟨fun _=>by rw [Int.toNat_natCast,Int.toNat_natCast]; exact hz.out.step b1.size,fun q=>absurd hp.out q⟩⟩⟩
def mapW (v n:Nat) (l:List Int):List Int:=l.map fun t=>if t=(v:Int) then (n:Int) else t
theorem mapW_len (v n:Nat) (l:List Int):(mapW v n l).length=l.length:=by simp [mapW]
def wideTo (G:List (List Int)) (v k:Nat):Nat→List Int:=fun u=>if u<k then mapW v G.length (G.getD u []) else []
def wideG (G:List (List Int)) (v:Nat):List (List Int):=rowsOf (G.length+1) (wideTo G v G.length)
def midW (v n:Nat) (l:List Int) (j:Nat):List Int:=mapW v n (l.take j)++l.drop j
theorem midW_zero (v n:Nat) (l:List Int):midW v n l 0=l:=by simp [midW,mapW]
theorem midW_full (v n:Nat) (l:List Int):midW v n l l.length=mapW v n l:=by simp [midW]
theorem midW_len (v n:Nat) (l:List Int) (j:Nat) (hj:j≤l.length):(midW v n l j).length=l.length:=by simp [midW,mapW_len]; omega
theorem mapW_append (v n:Nat) (a b:List Int):mapW v n (a++b)=mapW v n a++mapW v n b:=by unfold mapW; exact List.map_append
theorem midW_next (v n:Nat) (l:List Int) (j:Nat) (hj:j<l.length):midW v n l (j+1)=mapW v n (l.take j)++(if l[j]=(v:Int) then (n:Int) else l[j])::l.drop (j+1):=by
 unfold midW
 rw [take_snoc l j hj,mapW_append,List.append_assoc]
 rfl
theorem midW_now (v n:Nat) (l:List Int) (j:Nat) (hj:j<l.length):midW v n l j=mapW v n (l.take j)++l[j]::l.drop (j+1):=by
 unfold midW
 rw [← List.drop_eq_getElem_cons hj]
theorem midW_step (v n:Nat) (l:List Int) (j:Nat) (hj:j<l.length):midW v n l (j+1)=(midW v n l j).set j (if l[j]=(v:Int) then (n:Int) else l[j]):=by
 have hl:(mapW v n (l.take j)).length=j:=by rw [mapW_len,List.length_take]; omega
 rw [midW_next v n l j hj,midW_now v n l j hj,List.set_append_right _ _ (by omega),hl,Nat.sub_self,List.set_cons_zero]
theorem midW_same (v n:Nat) (l:List Int) (j:Nat) (hj:j<l.length) (he:l[j]≠(v:Int)):midW v n l (j+1)=midW v n l j:=by
 rw [midW_next v n l j hj,midW_now v n l j hj,if_neg he]
theorem updN_updN {α:Type} (f:Nat→α) (k:Nat) (a b:α):updN (updN f k a) k b=updN f k b:=by
 funext x
 by_cases e:x=k
 ·subst e; rw [updN_same,updN_same]
 ·rw [updN_other _ _ _ e,updN_other _ _ _ e,updN_other _ _ _ e]
theorem wideTo_succ (G:List (List Int)) (v k:Nat):updN (wideTo G v k) k (mapW v G.length (G.getD k []))=wideTo G v (k+1):=by
 funext u
 unfold wideTo
 by_cases e:u=k
 ·subst e; rw [updN_same,if_pos (by omega)]
 ·rw [updN_other _ _ _ e]
  by_cases q:u<k
  ·rw [if_pos q,if_pos (by omega)]
  ·rw [if_neg q,if_neg (by omega)]
theorem wideG_len (G:List (List Int)) (v:Nat):(wideG G v).length=G.length+1:=rowsOf_len _ _
theorem wideG_row (G:List (List Int)) (v u:Nat) (hu:u<G.length):(wideG G v).getD u []=mapW v G.length (G.getD u []):=by
 unfold wideG
 rw [rowsOf_get _ _ _ (by omega)]
 exact if_pos hu
theorem wideG_last (G:List (List Int)) (v:Nat):(wideG G v).getD G.length []=[]:=by
 unfold wideG
 rw [rowsOf_get _ _ _ (by omega)]
 exact if_neg (by omega)
theorem wideG_ok {G:List (List Int)} (hok:GraphOk G) (v:Nat):GraphOk (wideG G v):=by
 intro u hu t ht
 rw [wideG_len] at hu ⊢
 by_cases e:u<G.length
 ·rw [wideG_row G v u e] at ht
  obtain ⟨x,hx,rfl⟩:=List.mem_map.1 ht
  have:=hok u e x hx
  split<;>omega
 ·obtain rfl:u=G.length:=by omega
  rw [wideG_last] at ht; cases ht
theorem wide_adj {G:List (List Int)} (hok:GraphOk G) (v:Nat) {u:Nat} (hu:u<G.length) (t:Nat):t∈adjOf (wideG G v) u↔(t≠v∧t∈adjOf G u∧t<G.length)∨(t=G.length∧v∈adjOf G u):=by
 unfold adjOf
 rw [wideG_row G v u hu]
 simp only [List.mem_map,mapW]
 constructor
 ·rintro ⟨y,⟨x,hx,rfl⟩,rfl⟩
  have:=hok u hu x hx
  by_cases e:x=(v:Int)
  ·rw [if_pos e]; exact .inr ⟨by simp,x,hx,by rw [e]; simp⟩
  ·rw [if_neg e]; exact .inl ⟨by omega,⟨x,hx,rfl⟩,by omega⟩
 ·rintro (⟨h1,⟨x,hx,rfl⟩,_⟩ | ⟨rfl,x,hx,he⟩)
  ·have:=hok u hu x hx
   exact ⟨x,⟨x,hx,if_neg (by omega)⟩,rfl⟩
  ·have:=hok u hu x hx
   exact ⟨(G.length:Int),⟨x,hx,if_pos (by omega)⟩,by simp⟩
def loopE (G:List (List Int)) (a:Int):PErr :=
 match checkG G with
 | some t=>some t
 | none=>if outG G a then fresh sGraph 1 3 else none
theorem loopE_ok {G:List (List Int)} {x:Nat} (hc:checkG G=none) (hx:x<G.length):loopE G x=none:=by
 unfold loopE
 rw [hc]
 dsimp only
 rw [if_neg (by unfold outG; omega)]
def LoopWay (w:World) (G:List (List Int)) (v:Nat) (x:Value) (w':World):Prop :=
 (∃ u,IsFirst (adjOf (wideG G v)) v G.length u∧OwnI w.heap.size w' x (castI u.dropLast))∨(¬ Goes (adjOf (wideG G v)) v G.length∧x=.slice none 0 0)
def LoopPost (r:Nat→Addr) (w:World) (G:List (List Int)) (a:Int) (x y:Value) (w':World):Prop :=
 ErrIs r w' (loopE G a) y∧(loopE G a=none→LoopWay w G a.toNat x w')∧(loopE G a≠none→x=.slice none 0 0)
theorem OwnI.cut {B:Nat} {w:World} {g m c:Nat} {xs:List Int} (h:OwnI B w (.slice (some ⟨g,0,none⟩) (m+1) c) xs) (hl:xs.length=m+1):OwnI B w (.slice (some ⟨g,0,none⟩) m c) (xs.take m):=by
 rcases h.2 with ⟨e,_⟩ | ⟨g',cap',cur,e,hB,hg,hn,hm,hs,ht⟩
 ·cases e
 ·injection e with e1 e2 e3
  injection e1 with e1
  injection e1 with e1
  subst e1; subst e3
  have hml:(xs.take m).length=m:=by simp; omega
  refine ⟨by simp,.inr ⟨g,c,cur,by rw [hml],hB,hg,by rw [hml]; omega,hm,hs,?_⟩⟩
  rw [hml]
  rw [hl] at ht
  have:=congrArg (List.take m) ht
  rw [List.take_take] at this
  simp only [Nat.mul_one] at this ⊢
  rw [Nat.min_eq_left (by omega)] at this
  rw [this,List.map_take]
theorem loopG_any (r:Nat→Addr) (na:Option Addr) (nc:Nat) (G:List (List Int)) (a:Int) (w:World) (hg:Glob r w) (h:ListsAt w (.slice na G.length nc) G) (hsz:∀ k,k<G.length→(G.getD k []).length≤17592186044416) :
 Calls Tryz.prog 106 #[.slice na G.length nc,.int .i64 a] w (Ret2 (LoopPost r w G a) w):=by
 have hC:=graph_check r na nc G w hg h hsz
 cases hck:checkG G with
 | some t =>
  rw [hck] at hC
  have hp:loopE G a=some t:=by unfold loopE; rw [hck]
  replace hp:=Hd hp
  replace hck:=Hd hck
  replace h:=Hd h
  replace hg:=Hd hg
  replace hsz:=Hd hsz
  go_enter Tryz.func106,Tryz.ntmps106
  go_wp2_with fail
  refine hC.mono ?_
  rintro e w1 ⟨y,rfl,b1,he⟩
  obtain ⟨T,p,rfl⟩:=he.some_shape
  replace he:=Hd he
  go_wp2
  go_ret2
  exact ⟨_,_,rfl,b1,⟨by rw [hp.out]; exact he.out,⟨fun q=>(by rw [hp.out] at q; cases q),fun _=>rfl⟩⟩⟩
 | none =>
  rw [hck] at hC
  obtain ⟨hn,harr,hok⟩:=checkG_none hck
  by_cases ha:outG G a
  ·have hp:loopE G a=fresh sGraph 1 3:=by unfold loopE; rw [hck]; dsimp only; rw [if_pos ha]
   replace hp:=Hd hp
   replace hck:=Hd hck
   replace h:=Hd h
   replace hg:=Hd hg
   replace hsz:=Hd hsz
   replace hok:=Hd hok
   rcases ha with ha | ha
   ·go_enter Tryz.func106,Tryz.ntmps106
    go_wp2_with fail
    refine hC.mono ?_
    rintro e w1 ⟨y,rfl,b1,he⟩
    obtain rfl:=he.none_eq
    clear he hC
    go_wp2_with fail
    refine (graph_wrong r _ _ _ (hg.out.below b1) (by decide) (by decide)).mono ?_
    rintro e w2 ⟨y,rfl,b2,he⟩
    replace he:=Hd he
    go_wp2
    go_ret2
    exact ⟨_,_,rfl,Below.step b1 b2,⟨by rw [hp.out]; exact he.out,⟨fun q=>(by rw [hp.out] at q; cases q),fun _=>rfl⟩⟩⟩
   ·have ha0:¬ a<0:=by omega
    go_enter Tryz.func106,Tryz.ntmps106
    go_wp2_with fail
    refine hC.mono ?_
    rintro e w1 ⟨y,rfl,b1,he⟩
    obtain rfl:=he.none_eq
    clear he hC
    go_wp2_with fail
    refine (graph_wrong r _ _ _ (hg.out.below b1) (by decide) (by decide)).mono ?_
    rintro e w2 ⟨y,rfl,b2,he⟩
    replace he:=Hd he
    go_wp2
    go_ret2
    exact ⟨_,_,rfl,Below.step b1 b2,⟨by rw [hp.out]; exact he.out,⟨fun q=>(by rw [hp.out] at q; cases q),fun _=>rfl⟩⟩⟩
  ·have ha1:0≤a∧a<G.length:=by unfold outG at ha; omega
   obtain ⟨ha1,ha2⟩:=ha1
   obtain ⟨v,rfl⟩:=Int.eq_ofNat_of_zero_le ha1
   have hv:v<G.length:=by omega
   have hp:loopE G (v:Int)=none:=loopE_ok hck hv
   have hd1:decide ((v:Int)<0)=false:=by simp
   have hd2:decide (G.length≤v)=false:=by simp; omega
   clear ha ha1 ha2
   replace hp:=Hd hp
   replace hck:=Hd hck
   replace h:=Hd h
   replace hg:=Hd hg
   replace hsz:=Hd hsz
   replace hok:=Hd hok
   go_enter Tryz.func106,Tryz.ntmps106
   go_wp2_with fail
   refine hC.mono ?_
   rintro e w1 ⟨y',rfl,b1,he⟩
   obtain rfl:=he.none_eq
   clear he hC
   obtain ⟨ov,w2,mk,ho,hb2⟩:=run_makeW oneLists ((G.length:Int)+1) (G.length+1) w1 (by omega) (by omega)
   obtain ⟨f1,hr1,h1⟩:=WN.made (G.length+1) hb2 (Nat.le_refl _) ho
   have h1:WN f1 ov (List.replicate (G.length+1) (.slice none 0 0)) (G.length+1) (wideTo G v 0):=by
    have:(fun _:Nat=>([]:List Int))=wideTo G v 0:=by funext u; unfold wideTo; rw [if_neg (by omega)]
    rw [← this]; exact h1
   obtain ⟨oa,on,oc,rfl⟩:=ho.shape
   replace ho:=Hd ho
   replace hr1:=Hd hr1
   go_wp2_with fail
   clear mk
   go_loopw [35] (fun kv wr=>∃ (k:Nat) (f:Names) (vals:List Value),k≤G.length∧kv=.int .i64 k∧Rows w1.heap.size wr f∧Below w1.heap.size w1 wr∧WN f (.slice oa on oc) vals (G.length+1) (wideTo G v k)) (fun kv _=>G.length-(intOf kv).toNat)
   case atStart=>exact ⟨0,f1,_,by omega,rfl,hr1.out,hb2,h1⟩
   case round =>
    clear h1 ho hr1
    obtain ⟨k,f2,vals,hk,rfl,hr2,b2,h2⟩:=hrel
    obtain ⟨wo,rfl⟩:∃ wo:World,wo=wr:=⟨_,rfl⟩
    by_cases hlt:k<G.length
    ·obtain ⟨mv,iR,cR0,hM0⟩:=h.out.row k hlt
     have hbw:Below w.heap.size w wo:=b1.trans (b2.mono b1.size)
     have cR:=(hbw.cell (World.block_lt_of_cell? _ _ cR0)).trans cR0
     have hM:=hM0.below hbw
     have hglen:=hsz.out k hlt
     have hsucc:=wideTo_succ G v k
     generalize G.getD k []=gk at *
     have hcl:=clone_any mv gk wo hM hglen
     have hOV:=(hr2.ownV h2.outer).at
     have iO:=fun w'=>hOV.idx oneLists k (by rw [h2.len]; omega) w'
     have hput:=fun (w1':World) (v':Value) (xs:List Int)=>h2.put (B:=w1.heap.size) (w1:=w1') (u:=k) (by omega) (v':=v') (xs:=xs)
     have hnew:=fun (w1':World) (v':Value) (xs:List Int)=>h2.new (B:=w1.heap.size) hr2 (w1:=w1') k (v':=v') (xs:=xs)
     have hBo:=b2.size
     generalize valAt (.slice na G.length nc) k=ra at *
     obtain ⟨ua,hua⟩:∃ ua,valAt (.slice oa on oc) k=ua:=⟨_,rfl⟩
     rw [hua] at iO
     simp only [hua] at hput
     replace hua:=Hd hua
     replace hput:=Hd hput
     replace hnew:=Hd hnew
     replace hOV:=Hd hOV
     replace hr2:=Hd hr2
     replace hM:=Hd hM
     replace hM0:=Hd hM0
     replace hcl:=Hd hcl
     replace hsucc:=Hd hsucc
     go_wp2_with fail
     clear cR cR0 iR hbw
     refine hcl.out.mono ?_
     rintro e w3 ⟨cv,rfl,b3,hcv⟩
     have hR3:=hnew.out w3 cv gk b3 hBo hcv
     obtain ⟨y1,y2,y3,f4,hr4,h4,_⟩:=hput.out w3 cv gk hR3
     obtain ⟨va,vn,vc,rfl⟩:=hcv.at.shape
     have b4:Below w1.heap.size w1 (w3.setCell ua (.slice va vn vc)):=(b2.trans (b3.mono hBo)).setCell y3 _
     have h4:WN f4 (.slice oa on oc) (vals.set k (.slice va vn vc)) (G.length+1) (updN (wideTo G v k) k (midW v G.length gk 0)):=by rw [midW_zero]; exact h4
     have lM:=(hM0.out.below (b1.trans (b4.mono b1.size))).len
     obtain ⟨W4,hW4⟩:∃ W4:World,W4=w3.setCell ua (.slice va vn vc):=⟨_,rfl⟩
     rw [← hW4] at hr4 b4
     replace hr4:=Hd hr4
     replace hR3:=Hd hR3
     replace hcv:=Hd hcv
     clear hcl
     go_upto_region 12 with fail
     rw [← hW4]
     clear hW4 y1 y2 iO
     go_wp2_with fail
     clear lM
     generalize vals.set k (.slice va vn vc)=vals at *
     go_loopw [47] (fun jv wr=>∃ (j:Nat) (f:Names) (vals:List Value),j≤gk.length∧jv=.int .i64 j∧Rows w1.heap.size wr f∧Below w1.heap.size w1 wr∧WN f (.slice oa on oc) vals (G.length+1) (updN (wideTo G v k) k (midW v G.length gk j))) (fun jv _=>gk.length-(intOf jv).toNat)
     case atStart=>exact ⟨0,f4,_,by omega,rfl,hr4.out,b4,h4⟩
     case round =>
      clear hr4 h4 b4 hR3 hcv hM hr2 hnew hput hOV y3
      obtain ⟨j,f5,vals,hj,rfl,hr5,b5,h5⟩:=hrel
      obtain ⟨wo,rfl⟩:∃ wo:World,wo=wr:=⟨_,rfl⟩
      by_cases hjl:j<gk.length
      ·have hMj:=hM0.out.below (b1.trans (b5.mono b1.size))
       have iJ:=fun w'=>hMj.idx j hjl w'
       have cJ:=hMj.cell j hjl
       generalize valAt mv j=ja at *
       have hstep:=midW_step v G.length gk j hjl
       have hsame:=midW_same v G.length gk j hjl
       obtain ⟨t,ht⟩:∃ t,gk[j]=t:=⟨_,rfl⟩
       rw [ht] at cJ hstep hsame
       replace hMj:=Hd hMj
       replace ht:=Hd ht
       by_cases htv:t=(v:Int)
       ·have hq:(t==(v:Int))=true:=by simp [htv]
        rw [if_pos htv] at hstep
        have hOV:=(hr5.ownV h5.outer).at
        have iO:=fun w'=>hOV.idx oneLists k (by rw [h5.len]; omega) w'
        have cO:=hOV.cellV k (by rw [h5.len]; omega)
        have hrow:=hr5.ownI (h5.rows k (by omega))
        rw [updN_same] at hrow
        have hml:(midW v G.length gk j).length=gk.length:=midW_len _ _ _ _ hj
        have iE:=fun w'=>hrow.at.idx j (by rw [hml]; exact hjl) w'
        have cE:=hrow.at.cellD j (by rw [hml]; exact hjl)
        have fE:=hrow.frz j (by rw [hml]; exact hjl)
        have kE:=(hrow.toV.blkB j (by rw [List.length_map,hml]; exact hjl)).2
        obtain ⟨f6,hr6,h6⟩:=h5.elem hr5 k (by omega) j (by rw [updN_same,hml]; exact hjl) (G.length:Int)
        rw [updN_same,← hstep,updN_updN] at h6
        have b6:Below w1.heap.size w1 (wo.setCell (valAt (vAt vals k) j) (.int .i64 (G.length:Int))):=b5.setCell kE _
        generalize valAt (vAt vals k) j=ea at *
        generalize vAt vals k=ev at *
        generalize valAt (.slice oa on oc) k=ua at *
        generalize (midW v G.length gk j).getD j 0=eo at *
        subst htv
        replace hr6:=Hd hr6
        replace hr5:=Hd hr5
        replace hOV:=Hd hOV
        replace hrow:=Hd hrow
        replace hstep:=Hd hstep
        replace hsame:=Hd hsame
        replace hml:=Hd hml
        go_wp2
        go_roundw
        case measure=>simp [intOf]; omega
        case rel=>exact ⟨j+1,f6,vals,by omega,by go_num,hr6.out,b6,h6⟩
       ·have hq:(t==(v:Int))=false:=by simp [htv]
        have h6:=h5
        rw [← hsame htv] at h6
        replace hr5:=Hd hr5
        replace hstep:=Hd hstep
        replace hsame:=Hd hsame
        go_wp2
        go_roundw
        case measure=>simp [intOf]; omega
        case rel=>exact ⟨j+1,f5,vals,by omega,by go_num,hr5.out,b5,h6⟩
      ·obtain rfl:j=gk.length:=by omega
       rw [midW_full,hsucc.out] at h5
       replace hr5:=Hd hr5
       go_wp2
       go_roundw
       case measure=>simp [intOf]; omega
       case rel=>exact ⟨k+1,f5,vals,by omega,by go_num,hr5.out,b5,h5⟩
    ·obtain rfl:k=G.length:=by omega
     have hWL:=h2.lists hr2
     have hWL:ListsAt wo (.slice oa on oc) (wideG G v):=hWL
     obtain ⟨oa',oc',he⟩:=hWL.shape
     injection he with he1 he2 he3
     clear he1 he3
     rw [he2] at hWL
     have hF:=first_any oa oc (wideG G v) v G.length wo hWL (wideG_ok hok.out v) (by rw [wideG_len]; omega) (by rw [wideG_len]; omega) (by rw [wideG_len]; omega) (fun u hu=>by
      rw [wideG_len] at hu
      by_cases e:u<G.length
      ·rw [wideG_row G v u e,mapW_len]; exact hsz.out u e
      ·obtain rfl:u=G.length:=by omega
       rw [wideG_last]; exact Nat.zero_le _)
     rw [← he2] at hF
     replace hF:=Hd hF
     replace he2:=Hd he2
     replace hWL:=Hd hWL
     replace hr2:=Hd hr2
     go_wp2_with fail
     refine hF.out.mono ?_
     rintro e w5 ⟨xv,rfl,b5,hx⟩
     have hbw:Below w.heap.size w wo:=b1.trans (b2.mono b1.size)
     rcases hx with ⟨u,hu,hxo⟩ | ⟨hno,rfl⟩
     ·have hul:=hu.way.pos
      obtain ⟨g,c,e1,e2⟩:=row_shape (show w5.ownsRow wo.heap.size 3 1 xv (castI u).length ((castI u).map (Value.int .i64)) from hxo) (by rw [castI_len]; exact hul)
      obtain ⟨m,hm⟩:∃ m,u.length=m+1:=⟨u.length-1,by omega⟩
      rw [castI_len,hm] at e1 e2
      subst e1
      have hcut:=hxo.cut (by rw [castI_len,hm])
      have hdl:(castI u).take m=castI u.dropLast:=by
       unfold castI
       rw [List.dropLast_eq_take,hm,← List.map_take]; rfl
      rw [hdl] at hcut
      have hmb:m≤9223372036854775806:=by
       have:=hxo.at.len_le
       rw [castI_len,hm] at this; omega
      have hwr:IntKind.i64.wrap (m:Int)=m:=wrapK (by omega) (by omega)
      have hsl:(0≤(m:Int)∧(m:Int)≤(c:Int)):=⟨by omega,by omega⟩
      have hne:(((m:Int)+1)==0)=false:=by rw [beq_eq_false_iff_ne]; omega
      replace hcut:=Hd hcut
      replace hxo:=Hd hxo
      replace hdl:=Hd hdl
      replace hm:=Hd hm
      go_wp2
      go_ret2
      exact ⟨_,_,rfl,Below.step hbw b5,⟨by rw [hp.out]; rfl,⟨fun _=>by rw [Int.toNat_natCast]; exact .inl ⟨u,hu,hcut.out.mono hbw.size⟩,fun q=>absurd hp.out q⟩⟩⟩
     ·replace hno:=Hd hno
      go_wp2
      go_ret2
      exact ⟨_,_,rfl,Below.step hbw b5,⟨by rw [hp.out]; rfl,⟨fun _=>by rw [Int.toNat_natCast]; exact .inr ⟨hno.out,rfl⟩,fun q=>absurd hp.out q⟩⟩⟩
end Go.Proofs.YtkaoebokbfcmhaaGreatDoor
namespace Go.Proofs.YtkaoebokbfcmhaaGreatDoor
open Go.RowKit
set_option maxRecDepth 100000
def sixG:List (List Int):=[[1],[2],[1,3],[4],[4],[0]]
theorem adj6 (v:Nat):adjOf sixG v=[[1],[2],[1,3],[4],[4],[0]].getD v []:=by
 match v with
 | 0=>rfl
 | 1=>rfl
 | 2=>rfl
 | 3=>rfl
 | 4=>rfl
 | 5=>rfl
 | n+6=>rfl
theorem g12:Goes (adjOf sixG) 1 2:=.one (by rw [adj6]; decide)
theorem g21:Goes (adjOf sixG) 2 1:=.one (by rw [adj6]; decide)
theorem g23:Goes (adjOf sixG) 2 3:=.one (by rw [adj6]; decide)
def ChainOk (G:List (List Int)) (u:List Nat):Prop:=∀ i x,u[i]?=some x→x<G.length∧∀ j y,i=j+1→u[j]?=some y→(x:Int)∈G.getD y []
theorem adj_mem {G:List (List Int)} (hok:GraphOk G) {y x:Nat} (hy:y<G.length) (h:x∈adjOf G y):(x:Int)∈G.getD y []:=by
 obtain ⟨z,hz,rfl⟩:=List.mem_map.1 h
 have:=hok y hy z hz
 rwa [Int.toNat_of_nonneg this.1]
theorem way_chain {G:List (List Int)} (hok:GraphOk G) {x y:Nat} {w:List Nat} (h:Way (adjOf G) x y w) (hx:x<G.length):ChainOk G w:=by
 induction h with
 | one x =>
  intro i z hz
  have hi:=get_of hz
  simp only [List.length_cons,List.length_nil] at hi
  obtain rfl:i=0:=by omega
  injection hz with hz; subst hz
  exact ⟨hx,fun j y e=>by omega⟩
 | @cons x t y w ht h ih =>
  have htn:=hok.lt x hx t ht
  have ih:=ih htn
  intro i z hz
  cases i with
  | zero=>injection hz with hz; subst hz; exact ⟨hx,fun j y e=>by omega⟩
  | succ i =>
   have hz':w[i]?=some z:=hz
   refine ⟨(ih i z hz').1,fun j y e hy=>?_⟩
   have e:j=i:=by omega
   subst e
   cases j with
   | zero =>
    injection hy with hy; subst hy
    obtain ⟨w',rfl⟩:=h.ne
    injection hz' with hz'; subst hz'
    exact adj_mem hok hx ht
   | succ j=>exact (ih (j+1) z hz').2 j y rfl hy
theorem ChainOk.dropLast {G:List (List Int)} {u:List Nat} (h:ChainOk G u):ChainOk G u.dropLast:=by
 have up:∀ i x,u.dropLast[i]?=some x→u[i]?=some x:=fun i x hx=>by
  rw [List.getElem?_dropLast] at hx
  split at hx
  ·exact hx
  ·cases hx
 intro i x hx
 exact ⟨(h i x (up i x hx)).1,fun j y e hy=>(h i x (up i x hx)).2 j y e (up j y hy)⟩
theorem ChainOk.nil (G:List (List Int)):ChainOk G []:=fun i x hx=>by simp at hx
def WayList (adj:Nat→List Nat) (a b:Nat) (u:List Nat):Prop:=(u≠[]∧IsFirst adj a b u)∨(u=[]∧¬ Goes adj a b)
theorem WayList.goes {adj:Nat→List Nat} {a b:Nat} {u:List Nat} (h:WayList adj a b u):u≠[]↔Goes adj a b:=by
 rcases h with ⟨h1,h2⟩ | ⟨h1,h2⟩
 ·exact ⟨fun _=>h2.way.goes,fun _=>h1⟩
 ·exact ⟨fun q=>absurd h1 q,fun q=>absurd q h2⟩
theorem WayList.chain {G:List (List Int)} (hok:GraphOk G) {a b:Nat} {u:List Nat} (h:WayList (adjOf G) a b u) (ha:a<G.length):ChainOk G u:=by
 rcases h with ⟨_,h2⟩ | ⟨h1,_⟩
 ·exact way_chain hok h2.way ha
 ·subst h1; exact ChainOk.nil G
theorem WayList.len {G:List (List Int)} (hok:GraphOk G) {a b:Nat} {u:List Nat} (h:WayList (adjOf G) a b u) (ha:a<G.length):u.length≤G.length:=by
 have hc:=h.chain hok ha
 rcases h with ⟨_,q⟩ | ⟨q,_⟩
 ·exact nodup_len G.length u q.nodup (fun x hx=>by
   obtain ⟨i,hi⟩:=List.mem_iff_getElem?.1 hx
   exact (hc i x hi).1)
 ·subst q; simp
def LoopList (G:List (List Int)) (a:Nat) (l:List Nat):Prop:=l=[]∨∃ y,y<G.length∧a∈adjOf G y∧Way (adjOf G) a y l
theorem LoopList.chain {G:List (List Int)} (hok:GraphOk G) {a:Nat} {l:List Nat} (h:LoopList G a l) (ha:a<G.length):ChainOk G l:=by
 rcases h with h | ⟨y,_,_,h⟩
 ·subst h; exact ChainOk.nil G
 ·exact way_chain hok h ha
end Go.Proofs.YtkaoebokbfcmhaaGreatDoor
namespace Go.Proofs.YtkaoebokbfcmhaaGreatDoor
def NearTo (l:List Nat) (D:Nat→Int) (k:Nat) (b:Int):Prop :=
 (b=-1∧∀ t∈l.take k,D t<0)∨∃ m:Nat,b=m∧m∈l.take k∧0≤D m∧∀ t∈l.take k,0≤D t→D m<D t∨(D m=D t∧m≤t)
section
variable {l:List Nat} {D:Nat→Int} {k:Nat} {b:Int}
theorem NearTo.zero (l:List Nat) (D:Nat→Int):NearTo l D 0 (-1):=.inl ⟨rfl,fun t ht=>by simp at ht⟩
theorem NearTo.low (h:NearTo l D k b):-1≤b:=by
 rcases h with ⟨h,_⟩ | ⟨m,h,_⟩<;>omega
theorem NearTo.skip (h:NearTo l D k b) {t:Nat} (ht:l[k]?=some t) (hd:D t<0):NearTo l D (k+1) b:=by
 rcases h with ⟨h1,h2⟩ | ⟨m,h1,h2,h3,h4⟩
 ·refine .inl ⟨h1,fun x hx=>?_⟩
  rcases (take_mem ht x).1 hx with hx | rfl
  ·exact h2 x hx
  ·exact hd
 ·refine .inr ⟨m,h1,(take_mem ht m).2 (.inl h2),h3,fun x hx hxd=>?_⟩
  rcases (take_mem ht x).1 hx with hx | rfl
  ·exact h4 x hx hxd
  ·omega
theorem NearTo.fst (h:NearTo l D k b) {t:Nat} (ht:l[k]?=some t) (hd:0≤D t) (hb:b<0):NearTo l D (k+1) t:=by
 refine .inr ⟨t,rfl,(take_mem ht t).2 (.inr rfl),hd,fun x hx hxd=>?_⟩
 rcases (take_mem ht x).1 hx with hx | rfl
 ·rcases h with ⟨h1,h2⟩ | ⟨m,h1,_⟩
  ·have:=h2 x hx; omega
  ·omega
 ·exact .inr ⟨rfl,Nat.le_refl _⟩
theorem NearTo.mark (h:NearTo l D k b) (hb:0≤b):∃ m:Nat,b=m∧m∈l∧0≤D m:=by
 rcases h with ⟨h1,h2⟩ | ⟨m,h1,h2,h3,_⟩
 ·omega
 ·exact ⟨m,h1,List.mem_of_mem_take h2,h3⟩
theorem NearTo.take {m:Nat} (h:NearTo l D k (m:Int)) {t:Nat} (ht:l[k]?=some t) (hd:0≤D t) (hb:D t<D m∨(D t=D m∧t<m)):NearTo l D (k+1) t:=by
 refine .inr ⟨t,rfl,(take_mem ht t).2 (.inr rfl),hd,fun x hx hxd=>?_⟩
 rcases (take_mem ht x).1 hx with hx | rfl
 ·rcases h with ⟨h1,h2⟩ | ⟨m',h1,h2,h3,h4⟩
  ·omega
  ·obtain rfl:m=m':=by omega
   have:=h4 x hx hxd
   omega
 ·exact .inr ⟨rfl,Nat.le_refl _⟩
end
theorem Way.ends {adj:Nat→List Nat} {x y:Nat} {w:List Nat} (h:Way adj x y w):w.dropLast++[y]=w:=by
 induction h with
 | one=>rfl
 | @cons x t y w ht h ih =>
  have hp:=h.pos
  have:w≠[]:=by intro q; subst q; simp at hp
  rw [List.dropLast_cons_of_ne_nil this,List.cons_append,ih]
end Go.Proofs.YtkaoebokbfcmhaaGreatDoor
