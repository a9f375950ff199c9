/-
  Texts that the proof leans on.
-/
import Derived.Test.YtncpnaoabkjegaaGreatDoorMLn5
import Derived.Deep.LoopGhost
import Derived.Deep.DeepCutAuto
import Derived.RangeFuncBox
import Derived.RangeFuncLeaves
import Derived.Shelf.Abstract
import Derived.OwnWalkIn
import Derived.TacticsInMore
import Derived.LoopNIn
import Derived.LoopIn
import Derived.Maps.AppendAt
import Derived.Ground.SlgmProg
import Derived.Shelf.SlGeneric
import Derived.Shelf.SortM.Plain
import Derived.Shelf.SortM.SortNone
import Derived.Lib.SlKeysI
import Derived.Ground.NamesProg
import Derived.Shelf.Slices.Cells
import Derived.BigQuiet
namespace Go.Proofs.YtncpnaoabkjegaaGreatDoor
open Go.RowKit
set_option maxRecDepth 100000
set_option maxHeartbeats 8000000
theorem oneBoolG:OneCell 178 4 (.bool false) 1:=⟨by kernel_rfl,by kernel_rfl,rfl,by decide,fun _=>by kernel_rfl⟩
def tabB (n:Nat) (m:Nat→Bool):List Value:=(List.range n).map fun v=>Value.bool (m v)
theorem tabB_len (n:Nat) (m:Nat→Bool):(tabB n m).length=n:=by simp [tabB]
theorem tabB_get (n:Nat) (m:Nat→Bool) (v:Nat) (hv:v<n):vAt (tabB n m) v=.bool (m v):=by simp [tabB,vAt,List.getD,hv]
theorem tabB_upd (n:Nat) (m:Nat→Bool) (v:Nat) (b:Bool):(tabB n m).set v (.bool b)=tabB n (updN m v b):=by
 apply List.ext_getElem
 ·simp [tabB]
 ·intro i h1 h2
  simp only [tabB,List.getElem_set,List.getElem_map,List.getElem_range,updN]
  by_cases e:v=i
  ·rw [if_pos e,if_pos e.symm]
  ·rw [if_neg e,if_neg (fun q=>e q.symm)]
theorem tabB_one (n:Nat) (m:Nat→Bool):∀ v∈tabB n m,v.oneCell'=true:=by
 intro v hv
 obtain ⟨x,_,rfl⟩:=List.mem_map.1 hv
 rfl
theorem clone_bools (v:Value) (n:Nat) (m:Nat→Bool) (w:World) (h:ValsAt w v (tabB n m)) (hl:n≤10000) :
 Calls Tryz.prog 228 #[v] w (Ret1 (fun x w'=>OwnV 4 w.heap.size w' x (tabB n m)) w):=by
 obtain ⟨ao,cap,rfl,h1,h2,h3,h4⟩:=h
 cases ao with
 | none =>
  obtain rfl:=h3 rfl
  rw [tabB_len] at h1
  obtain rfl:n=0:=by omega
  have hn:=fun w'=>Lib.run_eql_slice_nil (P:=Tryz.prog) w' _ _ none 0 0 0 0 oneBoolG.ht
  rw [show (tabB 0 m).length=0 from rfl]
  clear h4
  go_enter Tryz.func228,Tryz.ntmps228
  go_wp2
  go_ret
  exact ⟨_,rfl,Below.refl _ _,OwnV.nil _ _ _⟩
 | some p =>
  have hn:=fun w'=>Lib.run_eql_slice_nil (P:=Tryz.prog) w' _ _ (some p) (tabB n m).length cap 0 0 oneBoolG.ht
  have b0:Below w.heap.size w (w.alloc (.cells #[] 4)):=(Below.refl _ _).alloc (Nat.le_refl _) _
  have ho0:OwnV 4 w.heap.size (w.alloc (.cells #[] 4)) (.slice (some ⟨w.heap.size,0,none⟩) 0 0) []:=World.ownsRow_made w #[] 0 (Nat.le_refl _) (by unfold maxLen; omega) rfl
  obtain ⟨i,hi,hz0,hz1,hz2⟩:=info_parts oneBoolG.hi
  have hcells:∀ (j:Nat) (u:Value),(tabB n m)[j]?=some u→(w.alloc (.cells #[] 4)).cell? (p.add j)=some u:=by
   intro j u hj
   have hjl:=(List.getElem?_eq_some_iff.1 hj).1
   have:=h4 j hjl
   simp only [valAt] at this
   rw [b0.cell (World.block_lt_of_cell? _ _ this),this,← hj,List.getElem?_eq_getElem hjl]
  have hone:=tabB_one n m
  have htl:=tabB_len n m
  generalize tabB n m=bs at *
  have hbl:bs.length≤10000:=by omega
  replace htl:=Hd htl
  replace hcells:=Hd hcells
  replace hone:=Hd hone
  replace ho0:=Hd ho0
  clear h4
  go_enter Tryz.func228,Tryz.ntmps228
  go_wp2_with (at_builtin; refine wpList_append_own_at _ rfl _ _ 178 rfl w.heap.size 4 i (.bool false) 1 1 oneBoolG.ht hi hz0 hz1 hz2 rfl (by decide) _ 0 [] rfl ho0.out p bs.length cap bs rfl (by simp) hcells.out hone.out (by unfold maxLen; omega) (by omega) (by simp) ?_)
  intro v' w' ho' hgr _ hat
  have hb2:Below w.heap.size w w':=b0.trans ((Below.refl _ _).grown hgr (by simp) (fun k hk=>(ho0.out.lt k hk).1))
  have ho2:OwnV 4 w.heap.size w' v' bs:=by simpa [OwnV] using ho'
  replace ho2:=Hd ho2
  clear ho' hat hgr
  go_wp2
  go_ret
  exact ⟨_,rfl,hb2,ho2.out⟩
def unm (n:Nat) (m:Nat→Bool):Nat:=wsum (fun _=>1) (fun x=>if m x then 1 else 0) n
theorem unm_upd (n:Nat) (m:Nat→Bool) (t:Nat) (ht:t<n) (hm:m t=false):unm n (updN m t true)+1=unm n m:=by
 have h:=wsum_upd (fun _=>1) (fun x=>if m x then 1 else 0) t 1 (by decide) (by simp [hm]) n
 rw [if_pos ht] at h
 have e:(fun x=>if updN m t true x then 1 else 0)=updN (fun x=>if m x then 1 else 0) t 1:=by
  funext x
  by_cases q:x=t
  ·subst q; simp [updN_same]
  ·rw [updN_other _ _ _ q,updN_other _ _ _ q]
 unfold unm
 rw [e]; exact h
theorem wsum_le (f:Nat→Nat):∀ n,wsum (fun _=>1) f n≤n
 | 0=>Nat.le_refl _
 | n+1=>by
  have:=wsum_le f n
  simp only [wsum]; split<;>omega
theorem unm_le (n:Nat) (m:Nat→Bool):unm n m≤n:=wsum_le _ n
structure RInv (n:Nat) (adj:Nat→List Nat) (ms m:Nat→Bool) (qs:List Nat) (busy:Nat→Prop):Prop where
 start:∀ x,x<n→ms x=true→m x=true
 sound:∀ x,x<n→m x=true→∃ u,u<n∧ms u=true∧Goes adj u x
 queue:∀ x∈qs,x<n∧m x=true
 closed:∀ x,x<n→m x=true→x∉qs→¬ busy x→∀ t∈adj x,m t=true
theorem RInv.pop {n:Nat} {adj:Nat→List Nat} {ms m:Nat→Bool} {v:Nat} {qs:List Nat} (h:RInv n adj ms m (v::qs) (fun _=>False)):RInv n adj ms m qs (fun x=>x=v) :=
 ⟨h.start,h.sound,fun x hx=>h.queue x (List.mem_cons_of_mem _ hx),fun x hx hm hq hb=>h.closed x hx hm (fun hc=>(List.mem_cons.1 hc).elim hb hq) id⟩
theorem RInv.finish {n:Nat} {adj:Nat→List Nat} {ms m:Nat→Bool} {v:Nat} {qs:List Nat} (h:RInv n adj ms m qs (fun x=>x=v)) (hv:∀ t∈adj v,m t=true):RInv n adj ms m qs (fun _=>False) :=
 ⟨h.start,h.sound,h.queue,fun x hx hm hq _=>by
   by_cases e:x=v
   ·subst e; exact hv
   ·exact h.closed x hx hm hq e⟩
theorem RInv.mark {n:Nat} {adj:Nat→List Nat} {ms m:Nat→Bool} {v t:Nat} {qs:List Nat} (h:RInv n adj ms m qs (fun x=>x=v)) (hv:v<n) (hmv:m v=true) (ht:t∈adj v) (htn:t<n):RInv n adj ms (updN m t true) (t::qs) (fun x=>x=v):=by
 have up:∀ x,m x=true→updN m t true x=true:=fun x hx=>by
  by_cases e:x=t
  ·subst e; exact updN_same _ _ _
  ·rw [updN_other _ _ _ e]; exact hx
 refine ⟨fun x hx hs=>up x (h.start x hx hs),fun x hx hm=>?_,fun x hx=>?_,fun x hx hm hq hb t' ht'=>?_⟩
 ·by_cases e:x=t
  ·subst e
   obtain ⟨u,h1,h2,h3⟩:=h.sound v hv hmv
   exact ⟨u,h1,h2,h3.step ht⟩
  ·rw [updN_other _ _ _ e] at hm; exact h.sound x hx hm
 ·rcases List.mem_cons.1 hx with e | e
  ·subst e; exact ⟨htn,updN_same _ _ _⟩
  ·exact ⟨(h.queue x e).1,up x (h.queue x e).2⟩
 ·have e:x≠t:=fun e=>hq (by rw [e]; exact List.mem_cons_self)
  rw [updN_other _ _ _ e] at hm
  exact up t' (h.closed x hx hm (fun hc=>hq (List.mem_cons_of_mem _ hc)) hb t' ht')
theorem RInv.all {n:Nat} {adj:Nat→List Nat} {ms m:Nat→Bool} (h:RInv n adj ms m [] (fun _=>False)) (ha:∀ v,v<n→∀ t∈adj v,t<n):∀ x,x<n→(m x=true↔∃ u,u<n∧ms u=true∧Goes adj u x):=by
 intro x hx
 refine ⟨h.sound x hx,fun ⟨u,hu,hs,hg⟩=>?_⟩
 exact (Goes.closed (P:=fun y=>y<n∧m y=true) (fun y hy t ht=>⟨ha y hy.1 t ht,h.closed y hy.1 hy.2 (by simp) id t ht⟩) hg ⟨hu,h.start u hu hs⟩).2
structure RN (f:Names) (ov qv:Value) (n:Nat) (m:Nat→Bool) (qs:List Nat):Prop where
 outs:f (1,0)=some (rowV 4 ov (tabB n m))
 queue:f (2,0)=some (rowI qv (upI qs))
section
variable {B:Nat} {w:World} {f:Names} {ov qv:Value} {n:Nat} {m:Nat→Bool} {qs:List Nat}
theorem RN.mark (h:RN f ov qv n m qs) (hr:Rows B w f) (t:Nat) (ht:t<n):∃ f',Rows B (w.setCell (valAt ov t) (.bool true)) f'∧RN f' ov qv n (updN m t true) qs:=by
 have hs:=hr.setV h.outs t (by rw [tabB_len]; exact ht) (.bool true)
 rw [tabB_upd] at hs
 exact ⟨_,hs,⟨upd_same _ _ _,by rw [upd_ne _ _ (by simp)]; exact h.queue⟩⟩
theorem RN.push (h:RN f ov qv n m qs) (hr:Rows B w f) {w1:World} {qv':Value} (t:Nat) (ho:OwnI B w1 qv' (upI qs++[(t:Int)]))
 (hal:(roomOf qv'=roomOf qv∧w.grownBy w1 qv.ownBlock)∨(∃ k,qv'.ownBlock=some k∧w.heap.size≤k∧w.grownBy w1 none)):∃ f',Rows B w1 f'∧RN f' ov qv' n m (t::qs):=by
 have hO:=hr.ownI h.queue
 have hg:w.grownBy w1 qv.ownBlock:=grown_via (hal.imp (·.2) (fun ⟨_,_,_,q⟩=>q))
 have hob:qv'.ownBlock=qv.ownBlock∨∃ k,qv'.ownBlock=some k∧w.heap.size≤k:=by
  rcases hal with ⟨q,_⟩ | ⟨k,h1,h2,_⟩
  ·obtain ⟨a1,n1,c1,e1⟩:=hO.at.shape
   obtain ⟨a2,n2,c2,e2⟩:=ho.at.shape
   exact .inl (ownBlock_of_room e1 e2 q)
  ·exact .inr ⟨k,h1,h2⟩
 exact ⟨_,hr.grown (r':=rowI qv' (upI qs++[(t:Int)])) h.queue hg ho hob,⟨by rw [upd_ne _ _ (by simp)]; exact h.outs,by rw [upd_same,upI_cons]⟩⟩
theorem RN.pop {v g c:Nat} {r:List Nat} (h:RN f ov (.slice (some ⟨g,0,none⟩) (r.length+1) c) n m (v::r)) (hr:Rows B w f):∃ f',Rows B w f'∧RN f' ov (.slice (some ⟨g,0,none⟩) r.length c) n m r:=by
 have ho:f (2,0)=some ⟨3,1,.slice (some ⟨g,0,none⟩) (r.length+1) c,r.length+1,(upI (v::r)).map (Value.int .i64)⟩:=by
  rw [h.queue]; simp [rowI,upI_len]
 have h1:=hr.shrink ho
 have hx:((upI (v::r)).map (Value.int .i64)).take (r.length*1)=(upI r).map (Value.int .i64):=by
  rw [upI_cons,List.map_append,Nat.mul_one]; exact List.take_left' (by simp [upI_len])
 rw [hx] at h1
 exact ⟨_,h1,⟨by rw [upd_ne _ _ (by simp)]; exact h.outs,by rw [upd_same]; simp [upI_len]⟩⟩
theorem RN.shape {v:Nat} {r:List Nat} (h:RN f ov qv n m (v::r)) (hr:Rows B w f):∃ g c,qv=.slice (some ⟨g,0,none⟩) (r.length+1) c∧r.length+1≤c:=by
 obtain ⟨g,c,e,e2⟩:=row_shape (hr.1 _ _ h.queue) (by show 0<(upI (v::r)).length; rw [upI_len]; simp)
 have e:qv=.slice (some ⟨g,0,none⟩) (upI (v::r)).length c:=e
 have e2:(upI (v::r)).length≤c:=e2
 rw [upI_len,List.length_cons] at e e2
 exact ⟨g,c,e,e2⟩
end
theorem upI_topR (t:Nat) (o:List Nat):(upI (t::o)).getD o.length 0=(t:Int):=by
 rw [upI_cons,List.getD_eq_getElem?_getD,List.getElem?_append_right (by rw [upI_len]; exact Nat.le_refl _),upI_len,Nat.sub_self]; rfl
theorem reach_any (na:Option Addr) (nc:Nat) (G:List (List Int)) (mv:Value) (ms:Nat→Bool) (w:World) (h:ListsAt w (.slice na G.length nc) G) (hok:GraphOk G) (hn:G.length≤8200) (hm:ValsAt w mv (tabB G.length ms)) :
 Calls Tryz.prog 185 #[.slice na G.length nc,mv] w (Ret1 (fun x w'=>∃ out:Nat→Bool,OwnV 4 w.heap.size w' x (tabB G.length out)∧∀ x,x<G.length→(out x=true↔∃ u,u<G.length∧ms u=true∧Goes (adjOf G) u x)) w):=by
 have hC:=clone_bools mv G.length ms w hm (by omega)
 replace h:=Hd h
 replace hok:=Hd hok
 replace hm:=Hd hm
 go_enter Tryz.func185,Tryz.ntmps185
 go_wp2_with fail
 refine hC.mono ?_
 rintro e w1 ⟨ov,rfl,b1,ho⟩
 clear hC
 have R1:=((rows_nils w.heap.size w 0).add (i:=(1,0)) (r':=rowV 4 ov (tabB G.length ms)) b1 ho (fun k hk=>(ho.lt k hk).1)).fresh (i:=(2,0)) (r':=rowI (.slice none 0 0) []) (World.grownBy.refl _ _) (OwnI.nil _ _) (fun k hk=>(by cases hk))
 have h1:RN (upd (upd (nils 0) (1,0) (some (rowV 4 ov (tabB G.length ms)))) (2,0) (some (rowI (.slice none 0 0) []))) ov (.slice none 0 0) G.length ms []:=⟨by rw [upd_ne _ _ (by simp),upd_same],by rw [upd_same]; rfl⟩
 generalize upd (upd (nils 0) (1,0) (some (rowV 4 ov (tabB G.length ms)))) (2,0) (some (rowI (.slice none 0 0) []))=f1 at *
 have lO:=fun w'=>ho.at.len oneBoolG 3 w'
 rw [tabB_len] at lO
 replace R1:=Hd R1
 replace ho:=Hd ho
 go_wp2_with fail
 clear lO
 go_loopw [6,16] (fun qv kv wr=>∃ (k:Nat) (qs:List Nat) (f:Names) (qw:Value),qw=qv∧kv=.int .i64 k∧k≤G.length∧qs.length≤k∧Rows w.heap.size wr f∧Below w.heap.size w wr∧RN f ov qw G.length ms qs∧∀ x,x∈qs↔(x<k∧ms x=true)) (fun _ kv _=>G.length-(intOf kv).toNat)
 case atStart=>exact ⟨0,[],f1,_,rfl,rfl,by omega,by simp,R1.out,b1,h1,fun x=>⟨fun h=>(by cases h),fun h=>by omega⟩⟩
 case round =>
  clear h1 R1 ho
  obtain ⟨k,qs,f2,qv,rfl,rfl,hk,hql,hr2,b2,h2,hqs⟩:=hrel
  obtain ⟨wo,rfl⟩:∃ wo:World,wo=wr:=⟨_,rfl⟩
  by_cases hlt:k<G.length
  ·have hOV:=(hr2.ownV h2.outs).at
   have iK:=fun w'=>hOV.idx oneBoolG k (by rw [tabB_len]; exact hlt) w'
   have cK:=hOV.cellV k (by rw [tabB_len]; exact hlt)
   rw [tabB_get _ _ _ hlt] at cK
   generalize valAt ov k=ka at *
   obtain ⟨bk,hbk⟩:∃ bk,ms k=bk:=⟨_,rfl⟩
   rw [hbk] at cK
   replace hOV:=Hd hOV
   cases bk with
   | true =>
    have hOQ:=hr2.ownI h2.queue
    have hB2:w.heap.size≤wo.heap.size:=b2.size
    have hqs2:∀ x,x∈k::qs↔(x<k+1∧ms x=true):=fun x=>by
     rw [List.mem_cons,hqs x]
     constructor
     ·rintro (rfl | ⟨a,b⟩)
      ·exact ⟨by omega,hbk⟩
      ·exact ⟨by omega,b⟩
     ·rintro ⟨a,b⟩
      by_cases e:x=k
      ·exact .inl e
      ·exact .inr ⟨by omega,b⟩
    replace hqs2:=Hd hqs2
    replace hqs:=Hd hqs
    replace hbk:=Hd hbk
    replace hr2:=Hd hr2
    go_wp2_with (at_builtin; refine wpl_app1 rfl _ _ rfl w.heap.size qv (upI qs) k hOQ rfl rfl (by rw [upI_len]; omega) hB2 ?_)
    intro qv' w7 ho7 b7 hal7
    obtain ⟨f7,hr7,h7⟩:=h2.push hr2.out k ho7 hal7
    replace hr7:=Hd hr7
    replace ho7:=Hd ho7
    clear hal7
    go_wp2
    go_roundw
    case measure=>simp [intOf]; omega
    case rel=>exact ⟨k+1,k::qs,f7,qv',rfl,by go_num,by omega,by simp only [List.length_cons]; omega,hr7.out,b2.trans b7,h7,hqs2.out⟩
   | false =>
    have hqs2:∀ x,x∈qs↔(x<k+1∧ms x=true):=fun x=>by
     rw [hqs x]
     constructor
     ·rintro ⟨a,b⟩; exact ⟨by omega,b⟩
     ·rintro ⟨a,b⟩
      by_cases e:x=k
      ·subst e; rw [hbk] at b; cases b
      ·exact ⟨by omega,b⟩
    replace hqs2:=Hd hqs2
    replace hqs:=Hd hqs
    replace hbk:=Hd hbk
    replace hr2:=Hd hr2
    go_wp2
    go_roundw
    case measure=>simp [intOf]; omega
    case rel=>exact ⟨k+1,qs,f2,qv,rfl,by go_num,by omega,by omega,hr2.out,b2,h2,hqs2.out⟩
  ·obtain rfl:k=G.length:=by omega
   have hinv:RInv G.length (adjOf G) ms ms qs (fun _=>False):=⟨fun _ _ q=>q,fun x hx q=>⟨x,hx,q,.refl x⟩,fun x hx=>⟨((hqs x).1 hx).1,((hqs x).1 hx).2⟩,fun x hx hmx hq _=>absurd ((hqs x).2 ⟨hx,hmx⟩) hq⟩
   replace hinv:=Hd hinv
   replace hqs:=Hd hqs
   replace hr2:=Hd hr2
   go_wp2_with fail
   go_loopg [6] (2*unm G.length ms+qs.length) (fun k qv wr=>∃ (m:Nat→Bool) (qs:List Nat) (f:Names) (qw:Value),qw=qv∧k=2*unm G.length m+qs.length∧k≤3*G.length∧Rows w.heap.size wr f∧Below w.heap.size w wr∧RN f ov qw G.length m qs∧RInv G.length (adjOf G) ms m qs (fun _=>False))
   case atStart=>exact ⟨ms,qs,f2,qv,rfl,rfl,by have:=unm_le G.length ms; omega,hr2.out,b2,h2,hinv.out⟩
   case round =>
    clear hinv hqs hr2 h2 b2 hql
    obtain ⟨m,qs,f3,qv,rfl,rfl,hk3,hr3,b3,h3,hI⟩:=hrel
    obtain ⟨wo,rfl⟩:∃ wo:World,wo=wr:=⟨_,rfl⟩
    cases qs with
    | nil =>
     have hOQ:=hr3.ownI h3.queue
     have lQ:=hOQ.at.len
     rw [upI_len,List.length_nil] at lQ
     have hall:=hI.all hok.out.lt
     have hres:=hr3.ownV h3.outs
     replace hall:=Hd hall
     replace hres:=Hd hres
     replace hI:=Hd hI
     replace hr3:=Hd hr3
     go_wp2
     go_ret
     exact ⟨_,rfl,b3,m,hres.out,hall.out⟩
    | cons v r =>
     obtain ⟨g,c,rfl,hcap⟩:=h3.shape hr3
     have hun:=unm_le G.length m
     obtain ⟨hvn,hmv⟩:=hI.queue v List.mem_cons_self
     have hOQ:=(hr3.ownI h3.queue).at
     have iV:=fun w'=>hOQ.idx r.length (by rw [upI_len]; simp) w'
     have cV:=hOQ.cellD r.length (by rw [upI_len]; simp)
     rw [upI_topR] at cV
     obtain ⟨f4,hr4,h4⟩:=h3.pop hr3
     have hpop:=hI.pop
     obtain ⟨xv,iR,cR0,hM0⟩:=h.out.row v hvn
     have cR:=(b3.cell (World.block_lt_of_cell? _ _ cR0)).trans cR0
     have hM:=hM0.below b3
     have hgp:=hok.out v hvn
     have hadj:adjOf G v=(G.getD v []).map Int.toNat:=rfl
     generalize G.getD v []=gx at *
     have lM:=hM.len
     have hglen:=hM.len_le
     generalize valAt (.slice na G.length nc) v=ra at *
     generalize valAt (.slice (some ⟨g,0,none⟩) (r.length+1) c) r.length=qa at *
     simp only [List.length_cons] at hk3
     have hwr:IntKind.i64.wrap (r.length:Int)=r.length:=wrapK (by omega) (by omega)
     have hsl:(0≤(r.length:Int)∧(r.length:Int)≤(c:Int)):=⟨by omega,by omega⟩
     replace hOQ:=Hd hOQ
     replace hM:=Hd hM
     replace hM0:=Hd hM0
     replace hgp:=Hd hgp
     replace hadj:=Hd hadj
     replace hr3:=Hd hr3
     replace hr4:=Hd hr4
     replace hI:=Hd hI
     replace hpop:=Hd hpop
     replace hmv:=Hd hmv
     go_wp2_with fail
     clear iV cV iR cR lM
     go_loopw [6,46] (fun qv jv wr=>∃ (j:Nat) (m':Nat→Bool) (qs:List Nat) (f:Names) (qw:Value),qw=qv∧jv=.int .i64 j∧j≤gx.length∧2*unm G.length m'+qs.length≤2*unm G.length m+r.length∧Rows w.heap.size wr f∧Below w.heap.size w wr∧RN f ov qw G.length m' qs∧RInv G.length (adjOf G) ms m' qs (fun x=>x=v)∧m' v=true∧∀ i,i<j→m' (gx.getD i 0).toNat=true) (fun _ jv _=>gx.length-(intOf jv).toNat)
     case atStart=>exact ⟨0,m,r,f4,_,rfl,rfl,by omega,Nat.le_refl _,hr4.out,b3,h4,hpop.out,hmv.out,fun i hi=>by omega⟩
     case round =>
      clear hOQ hM hr3 hr4 h4 h3 b3 hpop hI hmv hwr hsl hcap
      obtain ⟨j,m',qs,f5,qv,rfl,rfl,hj,hle,hr5,b5,h5,hI,hmv,hdone⟩:=hrel
      obtain ⟨wo,rfl⟩:∃ wo:World,wo=wr:=⟨_,rfl⟩
      by_cases hjl:j<gx.length
      ·have hMj:=hM0.out.below b5
       have hgj:=hgp.out gx[j] (List.getElem_mem hjl)
       obtain ⟨t,hu⟩:∃ t:Nat,gx[j]=t:=Int.eq_ofNat_of_zero_le hgj.1
       have htn:t<G.length:=by rw [hu] at hgj; omega
       have hgd:gx.getD j 0=(t:Int):=by rw [List.getD_eq_getElem?_getD,List.getElem?_eq_getElem hjl,hu]; rfl
       have hta:t∈adjOf G v:=by
        rw [hadj.out]
        exact List.mem_map.2 ⟨gx[j],List.getElem_mem hjl,by rw [hu]; rfl⟩
       have iJ:=fun w'=>hMj.idx j hjl w'
       have cJ:=hMj.cellD j hjl
       rw [hgd] at cJ
       have hOV:=(hr5.ownV h5.outs)
       have iT:=fun w'=>hOV.at.idx oneBoolG t (by rw [tabB_len]; exact htn) w'
       have cT:=hOV.at.cellV t (by rw [tabB_len]; exact htn)
       rw [tabB_get _ _ _ htn] at cT
       have fT:=hOV.frz t (by rw [tabB_len]; exact htn)
       have kT:=(hOV.blkB t (by rw [tabB_len]; exact htn)).2
       obtain ⟨f6,hr6,h6⟩:=h5.mark hr5 t htn
       have b6:Below w.heap.size w (wo.setCell (valAt ov t) (.bool true)):=b5.setCell kT _
       generalize valAt xv j=ja at *
       generalize valAt ov t=ta at *
       obtain ⟨bt,hbt⟩:∃ bt,m' t=bt:=⟨_,rfl⟩
       rw [hbt] at cT
       cases bt with
       | false =>
        have hunm:=unm_upd G.length m' t htn hbt
        have hmark:=hI.mark hvn hmv hta htn
        have hmv2:updN m' t true v=true:=by
         by_cases e:v=t
         ·subst e; exact updN_same _ _ _
         ·rw [updN_other _ _ _ e]; exact hmv
        have hdone2:∀ i,i<j+1→updN m' t true (gx.getD i 0).toNat=true:=fun i hi=>by
         by_cases e:(gx.getD i 0).toNat=t
         ·rw [e]; exact updN_same _ _ _
         ·rw [updN_other _ _ _ e]
          by_cases q:i=j
          ·subst q; rw [hgd] at e; exact absurd rfl e
          ·exact hdone i (by omega)
        replace hmark:=Hd hmark
        replace hmv2:=Hd hmv2
        replace hdone2:=Hd hdone2
        replace hdone:=Hd hdone
        replace hmv:=Hd hmv
        replace hI:=Hd hI
        replace hbt:=Hd hbt
        replace hr5:=Hd hr5
        replace hr6:=Hd hr6
        replace hOV:=Hd hOV
        replace hMj:=Hd hMj
        replace hgd:=Hd hgd
        replace hgj:=Hd hgj
        replace hu:=Hd hu
        replace hta:=Hd hta
        go_upto_region 17 with fail
        obtain ⟨W6,hW6⟩:∃ W6:World,W6=wo.setCell ta (.bool true):=⟨_,rfl⟩
        rw [← hW6]
        rw [← hW6] at hr6 b6
        clear hW6 iJ cJ iT cT fT
        have hOQ:=hr6.out.ownI h6.queue
        have hB6:w.heap.size≤W6.heap.size:=b6.size
        go_wp2_with (at_builtin; refine wpl_app1 rfl _ _ rfl w.heap.size qv (upI qs) t hOQ rfl rfl (by rw [upI_len]; omega) hB6 ?_)
        intro qv' w7 ho7 b7 hal7
        obtain ⟨f7,hr7,h7⟩:=h6.push hr6.out t ho7 hal7
        replace hr7:=Hd hr7
        replace ho7:=Hd ho7
        clear hal7
        go_wp2
        go_roundw
        case measure=>simp [intOf]; omega
        case rel=>exact ⟨j+1,updN m' t true,t::qs,f7,qv',rfl,by go_num,by omega,by simp only [List.length_cons]; omega,hr7.out,b6.trans b7,h7,hmark.out,hmv2.out,hdone2.out⟩
       | true =>
        have hdone2:∀ i,i<j+1→m' (gx.getD i 0).toNat=true:=fun i hi=>by
         by_cases q:i=j
         ·subst q; rw [hgd]; exact hbt
         ·exact hdone i (by omega)
        replace hdone2:=Hd hdone2
        replace hdone:=Hd hdone
        replace hmv:=Hd hmv
        replace hI:=Hd hI
        replace hbt:=Hd hbt
        replace hr5:=Hd hr5
        replace hr6:=Hd hr6
        replace hOV:=Hd hOV
        replace hMj:=Hd hMj
        replace hgd:=Hd hgd
        replace hgj:=Hd hgj
        replace hu:=Hd hu
        replace hta:=Hd hta
        go_wp2
        go_roundw
        case measure=>simp [intOf]; omega
        case rel=>exact ⟨j+1,m',qs,f5,qv,rfl,by go_num,by omega,by omega,hr5.out,b5,h5,hI.out,hmv.out,hdone2.out⟩
      ·obtain rfl:j=gx.length:=by omega
       have hfin:=hI.finish (fun t ht=>by
        rw [hadj.out] at ht
        obtain ⟨x,hx,rfl⟩:=List.mem_map.1 ht
        obtain ⟨i,hi,rfl⟩:=List.mem_iff_getElem.1 hx
        have:=hdone i hi
        rw [List.getD_eq_getElem?_getD,List.getElem?_eq_getElem hi] at this
        exact this)
       replace hfin:=Hd hfin
       replace hdone:=Hd hdone
       replace hmv:=Hd hmv
       replace hI:=Hd hI
       replace hr5:=Hd hr5
       go_wp2
       go_roundg (2*unm G.length m'+qs.length)
       case measure=>simp only [List.length_cons]; omega
       case rel=>exact ⟨m',qs,f5,qv,rfl,rfl,by omega,hr5.out,b5,h5,hfin.out⟩
def BackTo (G:List (List Int)) (k j:Nat) (F:Nat→List Int):Prop :=
 ∀ t,t<G.length→((F t).length≤arrowsTo G k+j∧∀ y:Int,y∈F t↔∃ v:Nat,y=v∧(v<k∧(t:Int)∈G.getD v []∨v=k∧(t:Int)∈(G.getD k []).take j))
theorem BackTo.zero (G:List (List Int)):BackTo G 0 0 (fun _=>[]):=by
 intro t _
 refine ⟨Nat.zero_le _,fun y=>⟨fun h=>(by cases h),fun ⟨v,_,h⟩=>?_⟩⟩
 rcases h with ⟨h,_⟩ | ⟨_,h⟩
 ·omega
 ·simp at h
theorem BackTo.next {G:List (List Int)} {k:Nat} {F:Nat→List Int} (h:BackTo G k (G.getD k []).length F):BackTo G (k+1) 0 F:=by
 intro t ht
 obtain ⟨h1,h2⟩:=h t ht
 refine ⟨by simpa [arrowsTo] using h1,fun y=>?_⟩
 rw [h2 y]
 constructor
 ·rintro ⟨v,hv,h⟩
  refine ⟨v,hv,.inl ?_⟩
  rcases h with ⟨a,b⟩ | ⟨rfl,b⟩
  ·exact ⟨by omega,b⟩
  ·rw [List.take_length] at b; exact ⟨by omega,b⟩
 ·rintro ⟨v,hv,h⟩
  rcases h with ⟨a,b⟩ | ⟨_,b⟩
  ·refine ⟨v,hv,?_⟩
   by_cases e:v=k
   ·subst e; exact .inr ⟨rfl,by rw [List.take_length]; exact b⟩
   ·exact .inl ⟨by omega,b⟩
  ·simp at b
theorem BackTo.add {G:List (List Int)} {k j u:Nat} {F:Nat→List Int} (h:BackTo G k j F) (hj:(G.getD k [])[j]?=some (u:Int)):BackTo G k (j+1) (updN F u (F u++[(k:Int)])):=by
 have hjl:j<(G.getD k []).length:=by
  by_cases q:j<(G.getD k []).length
  ·exact q
  ·rw [List.getElem?_eq_none (by omega)] at hj; cases hj
 have htk:(G.getD k []).take (j+1)=(G.getD k []).take j++[(u:Int)]:=by
  rw [List.take_add_one,hj]; rfl
 intro t ht
 obtain ⟨h1,h2⟩:=h t ht
 by_cases e:t=u
 ·subst e
  rw [updN_same]
  refine ⟨by rw [List.length_append]; simp only [List.length_cons,List.length_nil]; omega,fun y=>?_⟩
  rw [List.mem_append,h2 y,htk]
  simp only [List.mem_singleton,List.mem_append]
  constructor
  ·rintro (⟨v,hv,h⟩ | rfl)
   ·refine ⟨v,hv,?_⟩
    rcases h with h | ⟨a,b⟩
    ·exact .inl h
    ·exact .inr ⟨a,.inl b⟩
   ·exact ⟨k,rfl,.inr ⟨rfl,.inr (by simp)⟩⟩
  ·rintro ⟨v,hv,h⟩
   rcases h with h | ⟨a,b | b⟩
   ·exact .inl ⟨v,hv,.inl h⟩
   ·exact .inl ⟨v,hv,.inr ⟨a,b⟩⟩
   ·right; rw [hv,a]
 ·rw [updN_other _ _ _ e]
  refine ⟨by omega,fun y=>?_⟩
  rw [h2 y,htk]
  simp only [List.mem_append,List.mem_singleton]
  constructor
  ·rintro ⟨v,hv,h⟩
   refine ⟨v,hv,?_⟩
   rcases h with h | ⟨a,b⟩
   ·exact .inl h
   ·exact .inr ⟨a,.inl b⟩
  ·rintro ⟨v,hv,h⟩
   refine ⟨v,hv,?_⟩
   rcases h with h | ⟨a,b | b⟩
   ·exact .inl h
   ·exact .inr ⟨a,b⟩
   ·exact absurd (by omega) e
def TurnedOf (G H:List (List Int)):Prop:=H.length=G.length∧(∀ t,t<G.length→(H.getD t []).length≤arrowsTo G G.length)∧∀ t,t<G.length→∀ y:Int,y∈H.getD t []↔∃ v:Nat,y=v∧v<G.length∧(t:Int)∈G.getD v []
theorem BackTo.turned {G:List (List Int)} {F:Nat→List Int} (h:BackTo G G.length 0 F):TurnedOf G (rowsOf G.length F):=by
 refine ⟨rowsOf_len _ _,fun t ht=>?_,fun t ht y=>?_⟩
 ·rw [rowsOf_get _ _ _ ht]; simpa using (h t ht).1
 ·rw [rowsOf_get _ _ _ ht,(h t ht).2 y]
  constructor
  ·rintro ⟨v,hv,h⟩
   rcases h with h | ⟨_,h⟩
   ·exact ⟨v,hv,h.1,h.2⟩
   ·simp at h
  ·rintro ⟨v,hv,h⟩
   exact ⟨v,hv,.inl h⟩
theorem graph_back (na:Option Addr) (nc:Nat) (G:List (List Int)) (w:World) (h:ListsAt w (.slice na G.length nc) G) (hok:GraphOk G) (hn:G.length≤8200) (harr:arrowsTo G G.length≤262144) :
 Calls Tryz.prog 186 #[.slice na G.length nc] w (Ret1 (fun x w'=>∃ H,TurnedOf G H∧ListsAt w' x H) w):=by
 obtain ⟨ov,w1,mk,ho,hb1⟩:=run_makeW oneLists (G.length:Int) G.length w rfl (by omega)
 obtain ⟨f1,hr1,h1⟩:=WN.made G.length hb1 (Nat.le_refl _) ho
 obtain ⟨oa,on,oc,rfl⟩:=ho.shape
 have hlen:∀ k,k<G.length→(G.getD k []).length≤262144:=fun k hk=>by
  have:=arrowsTo_mono G (show k+1≤G.length by omega)
  simp only [arrowsTo] at this; omega
 replace h:=Hd h
 replace hok:=Hd hok
 replace hr1:=Hd hr1
 replace ho:=Hd ho
 replace hlen:=Hd hlen
 go_enter Tryz.func186,Tryz.ntmps186
 go_wp2_with fail
 clear mk
 go_loopw [13] (fun kv wr=>∃ (k:Nat) (F:Nat→List Int) (f:Names) (vals:List Value),k≤G.length∧kv=.int .i64 k∧Rows w.heap.size wr f∧Below w.heap.size w wr∧WN f (.slice oa on oc) vals G.length F∧BackTo G k 0 F) (fun kv _=>G.length-(intOf kv).toNat)
 case atStart=>exact ⟨0,_,f1,_,by omega,rfl,hr1.out,hb1,h1,BackTo.zero G⟩
 case round =>
  clear h1 ho hr1
  obtain ⟨k,F,f2,vals,hk,rfl,hr2,b2,h2,hB⟩:=hrel
  obtain ⟨wo,rfl⟩:∃ wo:World,wo=wr:=⟨_,rfl⟩
  by_cases hlt:k<G.length
  ·obtain ⟨mv,iR,cR0,hM0⟩:=h.out.row k hlt
   have cR:=(b2.cell (World.block_lt_of_cell? _ _ cR0)).trans cR0
   clear cR0
   have hM:=hM0.below b2
   have hgl:=hlen.out k hlt
   have hgp:=hok.out k hlt
   have hBadd:=fun (j u:Nat) (F:Nat→List Int) (h:BackTo G k j F)=>h.add (u:=u)
   have hBnext:=fun (F:Nat→List Int) (h:BackTo G k (G.getD k []).length F)=>h.next
   have hBlen:=fun (j t:Nat) (F:Nat→List Int) (h:BackTo G k j F) (ht:t<G.length)=>(h t ht).1
   have harrk:=arrowsTo_mono G hk
   generalize G.getD k []=gk at *
   have lM:=hM.len
   generalize valAt (.slice na G.length nc) k=ra at *
   replace hB:=Hd hB
   replace hBadd:=Hd hBadd
   replace hBnext:=Hd hBnext
   replace hBlen:=Hd hBlen
   replace hgp:=Hd hgp
   replace hr2:=Hd hr2
   replace hM:=Hd hM
   replace hM0:=Hd hM0
   go_wp2_with fail
   clear iR cR lM
   go_loopw [20] (fun jv wr=>∃ (j:Nat) (F:Nat→List Int) (f:Names) (vals:List Value),j≤gk.length∧jv=.int .i64 j∧Rows w.heap.size wr f∧Below w.heap.size w wr∧WN f (.slice oa on oc) vals G.length F∧BackTo G k j F) (fun jv _=>gk.length-(intOf jv).toNat)
   case atStart=>exact ⟨0,F,f2,vals,by omega,rfl,hr2.out,b2,h2,hB.out⟩
   case round =>
    clear hB hr2 h2 b2 hM
    obtain ⟨j,F,f3,vals,hj,rfl,hr3,b3,h3,hB⟩:=hrel
    obtain ⟨wo,rfl⟩:∃ wo:World,wo=wr:=⟨_,rfl⟩
    by_cases hjl:j<gk.length
    ·have hMj:=hM0.out.below b3
     have hgj:=hgp.out gk[j] (List.getElem_mem hjl)
     obtain ⟨u,hu⟩:∃ u:Nat,gk[j]=u:=Int.eq_ofNat_of_zero_le hgj.1
     have hun:u<G.length:=by rw [hu] at hgj; omega
     have hgu:gk[j]?=some (u:Int):=by rw [List.getElem?_eq_getElem hjl,hu]
     have hgd:gk.getD j 0=(u:Int):=by rw [List.getD_eq_getElem?_getD,hgu]; rfl
     have iJ:=fun w'=>hMj.idx j hjl w'
     have cJ:=hMj.cellD j hjl
     rw [hgd] at cJ
     have hadd:=hBadd.out j u F hB hgu
     have hfl:=hBlen.out j u F hB hun
     have hOV:=(hr3.ownV h3.outer).at
     have iO:=fun w'=>hOV.idx oneLists u (by rw [h3.len]; exact hun) w'
     have cO:=hOV.cellV u (by rw [h3.len]; exact hun)
     have hT:=hr3.ownI (h3.rows u hun)
     have happ:=fun (w1:World) (v':Value)=>h3.app hr3 hun (w1:=w1) (v':=v') (k:Int)
     have hput:=fun (w1:World) (v':Value) (xs:List Int)=>h3.put (B:=w.heap.size) (w1:=w1) hun (v':=v') (xs:=xs)
     have hB3:w.heap.size≤wo.heap.size:=b3.size
     generalize valAt mv j=ja at *
     generalize vAt vals u=tv at *
     generalize valAt (.slice oa on oc) u=ua at *
     replace hadd:=Hd hadd
     replace happ:=Hd happ
     replace hput:=Hd hput
     replace hB:=Hd hB
     replace hr3:=Hd hr3
     replace hOV:=Hd hOV
     replace hgu:=Hd hgu
     replace hgd:=Hd hgd
     replace hu:=Hd hu
     replace hgj:=Hd hgj
     go_wp2_with (at_builtin; refine wpl_app1 rfl _ _ rfl w.heap.size tv (F u) k hT rfl rfl (by omega) hB3 ?_)
     intro v' w7 ho7 b7 hal7
     have hR7:=happ.out w7 v' ho7 hal7
     obtain ⟨y1,y2,y3,f8,hr8,h8,_⟩:=hput.out w7 v' _ hR7
     obtain ⟨va,vn,vc,rfl⟩:=ho7.at.shape
     replace hr8:=Hd hr8
     replace ho7:=Hd ho7
     replace hR7:=Hd hR7
     clear hal7 hT iJ cJ cO
     go_wp2
     go_roundw
     case measure=>simp [intOf]; omega
     case rel=>exact ⟨j+1,_,f8,_,by omega,by go_num,hr8.out,(b3.trans b7).setCell y3 _,h8,hadd.out⟩
    ·obtain rfl:j=gk.length:=by omega
     have hnext:=hBnext.out F hB
     replace hnext:=Hd hnext
     replace hB:=Hd hB
     replace hr3:=Hd hr3
     go_wp2
     go_roundw
     case measure=>simp [intOf]; omega
     case rel=>exact ⟨k+1,F,f3,vals,by omega,by go_num,hr3.out,b3,h3,hnext.out⟩
  ·obtain rfl:k=G.length:=by omega
   have hT:=hB.turned
   have hL:=h2.lists hr2
   replace hB:=Hd hB
   replace hT:=Hd hT
   replace hL:=Hd hL
   replace hr2:=Hd hr2
   go_wp2
   go_ret
   exact ⟨_,rfl,b2,_,hT.out,hL.out⟩
end Go.Proofs.YtncpnaoabkjegaaGreatDoor
namespace Go.Proofs.YtncpnaoabkjegaaGreatDoor
open Go.RowKit Go.Shelf
attribute [local go_sem] Oper.semAt_some
set_option maxRecDepth 100000
set_option maxHeartbeats 8000000
theorem vals1_in (F:Fence) (n:Nat) (hF:F.fn 158) (hro:F.round=none) (hn:1≤n) (l Bs n0:Nat) (v:Value) (zs:List Int) (J Jx:List Int→World→Prop)
 (hY:∀ pre x W,J pre W→pre.length<zs.length→YieldAt F (n-1) Tryz.prog l #[.int .i64 x] W fun e W' =>
   (e=.returned (.bool true)∧J (pre++[x]) W'∧Below n0 W W')∨(e=.returned (.bool false)∧Jx (pre++[x]) W'))
 (W:World) (hBs:W.cell? ⟨Bs,0,none⟩=some v) (hv:IntsAt W v zs) (hb:∀ i,i<zs.length→(valAt v i).block<n0) (h0:J [] W) :
 CallsIn F n Tryz.prog 158 #[.func (.yield l) #[] #[],.pointer (some ⟨Bs,0,none⟩)] W fun e W'=>(∃ u,e=.returned u) ∧
  ((∃ ys,ys=zs∧J ys W')∨(∃ pre,pre <+: zs∧Jx pre W')):=by
 have hlen:=hv.len
 have hmax:=hv.len_le
 replace hv:=Hd hv
 refine callsIn_of_wp Tryz.func158 rfl hF ?_ hro
 simp only [Tryz.ntmps158,List.size_toArray,List.length_cons,List.length_nil,Nat.reduceAdd,Nat.reduceSub,Array.replicate_succ,Array.replicate_zero,List.push_toArray,List.append_toArray,List.nil_append,List.cons_append]
 gi_wp2
 gi_loopw [7] (fun i wr=>∃ k:Nat,k≤zs.length∧i=.int .i64 k∧J (zs.take k) wr∧Below n0 W wr)
  (fun i _=>zs.length-(intOf i).toNat)
 case atStart=>exact ⟨0,Nat.zero_le _,rfl,h0,Below.refl _ _⟩
 case round =>
  obtain ⟨k,hk,rfl,hJs,hnx⟩:=hrel
  by_cases hlt:k<zs.length
  ·have i1:=hv.out.idx k hlt
   have c1:=(hnx.cell (hb k hlt)).trans (hv.out.cell k hlt)
   have ht:=Hd (take_snoc zs k hlt)
   obtain ⟨x,hx⟩:∃ x,x=zs[k]:=⟨_,rfl⟩
   rw [← hx] at c1 ht
   clear hx
   obtain ⟨fn,tmps,assign,body,hy,hR⟩:=hY _ x wr hJs (by simp; omega)
   replace hJs:=Hd hJs
   gi_wp2
   refine hR.mono ?_
   rintro e W3 (⟨rfl,hJ3,hk3⟩ | ⟨rfl,hJx3⟩)
   ·replace hJ3:=Hd hJ3
    gi_wp2
    go_roundw
    case rel=>exact ⟨k+1,by omega,by go_num,by rw [ht.out]; exact hJ3.out,hnx.trans hk3⟩
    case measure=>simp [intOf]; omega
   ·replace hJx3:=Hd hJx3
    gi_wp2
    refine bodyPost_ret (results_none rfl _ _ _) rfl ?_
    exact ⟨⟨_,rfl⟩,.inr ⟨_,by rw [← ht.out]; exact List.take_prefix _ _,hJx3.out⟩⟩
  ·obtain rfl:k=zs.length:=by omega
   rw [List.take_length] at hJs
   replace hJs:=Hd hJs
   gi_wp2
   go_end0
   exact ⟨⟨_,rfl⟩,.inl ⟨_,rfl,hJs.out⟩⟩
theorem vals_any (a:Option Addr) (n c:Nat) (w:World) :
 Calls Tryz.prog 82 #[.slice a n c] w fun e w'=>e=.returned (.func (.func 158) #[] #[.pointer (some ⟨w.heap.size,0,none⟩)])∧w.alloc (.cells #[.slice a n c] 22)=w':=by
 go_enter Tryz.func82,Tryz.ntmps82
 go_wp2
 go_ret
 exact ⟨rfl,rfl⟩
theorem vals_stops (F:Fence) (n:Nat) (hF:F.fn 158) (hro:F.round=none) (hn:1≤n) (Bs n0:Nat) (v:Value) (zs:List Int) (w:World) (hBs:Bs<w.heap.size)
 (hc:w.cell? ⟨Bs,0,none⟩=some v) (hv:IntsAt w v zs) (hb:∀ i,i<zs.length→(valAt v i).block<n0) :
 SeqStopsK F n Tryz.prog 158 #[.pointer (some ⟨Bs,0,none⟩)] (fun x:Int=>#[Value.int .i64 x]) (Below n0) (fun ys=>ys=zs) (fun pre=>pre <+: zs) zs.length w:=fun l J Jx W hW _ _ hY h0 =>
 vals1_in F n hF hro hn l Bs n0 v zs J Jx hY W ((hW.cell (p:=⟨Bs,0,none⟩) hBs).trans hc) (hv.below hW) hb h0
theorem appendSeq_in (F:Fence) (n:Nat) (hA:F.fn 204) (hV:F.fn 158) (hro:F.round=none) (hn:3≤n) (Bs:Nat) (v:Value) (zs:List Int) (hlen:zs.length≤17592186044416) (w:World)
 (hBs:Bs<w.heap.size) (hc:w.cell? ⟨Bs,0,none⟩=some v) (hv:IntsAt w v zs) :
 CallsIn F n Tryz.prog 204 #[.slice none 0 0,.func (.func 158) #[] #[.pointer (some ⟨Bs,0,none⟩)]] w fun e w'=>∃ x,e=.returned x∧OwnI w.heap.size w' x zs∧Below w.heap.size w w':=by
 have h1:1≤n:=by omega
 obtain ⟨i0,hi,hz0,hz1,hz2⟩:=info_parts iInt
 refine callsIn_of_wp_marks Tryz.func204 rfl hA ?_ hro
 simp only [Tryz.ntmps204,List.size_toArray,List.length_cons,List.length_nil,Nat.reduceAdd,Nat.reduceSub,Array.replicate_succ,Array.replicate_zero,List.push_toArray,List.append_toArray,List.nil_append,List.cons_append]
 replace hv:=Hd hv
 gi_wp2
 have bO:=Boxed.new w 22 (.slice none 0 0)
 have hB0:Below w.heap.size w (w.alloc (.cells #[.slice none 0 0] 22)):=(Below.refl _ w).alloc (Nat.le_refl _) _
 refine wpIn_rangeFunc_ownG hro h1 (gf:=158) (lb:=#[.pointer (some ⟨Bs,0,none⟩)]) rfl hV (enters_of Tryz.func158 (by kernel_rfl) rfl)
  (vals_stops F (n-1) hV hro (by omega) Bs w.heap.size v zs _ (by simp; omega) ((hB0.cell (p:=⟨Bs,0,none⟩) hBs).trans hc) (hv.out.below hB0) (fun i hi=>hv.out.blk i hi)) belowK_t (belowK_b (by simp)) (Below.refl _ _) (fun _=>rfl)
  (fun pre W=>(∃ v,Boxed W w.heap.size 22 v∧W.ownsRow w.heap.size 3 1 v pre.length (pre.map (Value.int .i64))∧(v=.slice none 0 0↔pre=[]))∧Below w.heap.size w W)
  (fun _ _ _=>False)
  (OwnFrom.and (Own.from (holdsRow_own w.heap.size w.heap.size 22 3 1 (fun pre=>pre.length) (fun pre=>pre.map (Value.int .i64)) (fun pre v=>v=.slice none 0 0↔pre=[])) _) (ownFrom_below (Nat.le_refl _) (by simp)))
  (fun _ _ _ _ _ hs _ _=>hs)
  ⟨⟨_,bO,World.ownsRow_nil _ _ _ _,by simp⟩,hB0⟩
  (fun x=>{ tmps:=#[.slice none 0 0,.func (.func 158) #[] #[.pointer (some ⟨Bs,0,none⟩)],.pointer (some ⟨w.heap.size,0,none⟩),undef,.slice none 0 0,.int .i64 x,.func (.func 158) #[] #[.pointer (some ⟨Bs,0,none⟩)],.int .i64 x,undef,undef,undef,undef,undef],defers:=[] }) ?assign ?body ?done ?stop
 case assign =>
  intro l x W K hK
  gi_wp2
  exact hK
 case body =>
  rintro l pre x W ⟨⟨v,hv,hrow,hnil⟩,hB⟩ hlt
  have hc:=hv.cell
  gi_wp2_with (gi_at_builtin; refine wpListIn_append_own _ rfl _ _ 22 rfl w.heap.size 3 i0 (.int .i64 0) 1 8 uInts hi hz0 hz1 hz2 rfl (by decide) _ _ _ rfl (hrow.alloc _) ⟨W.heap.size,0,none⟩ 1 1 [.int .i64 x] rfl rfl (cell_one_new _ _ _) (by simp [Value.oneCell']) (by unfold maxLen; omega) (by omega) (by have:=hB.size; simp; omega) ?_; intro v' w1 hown' hgrow _; obtain ⟨g',cap',rfl⟩:=ownsRow_succ hown'; obtain ⟨hv1,hv2,hr2,hk2,hb2⟩:=hv.appended (by decide) hrow hB.size (Nat.le_refl _) hown' hgrow; have hc1:=hv1.cell; have hf1:=hv1.frozen)
  exact ⟨hk2.from _,hb2,⟨_,hv2,by simpa using hr2,by simp⟩,hB.trans hb2⟩
 case done =>
  rintro D ys W hD rfl ⟨⟨v,hv,hrow,hnil⟩,hB⟩ hK
  have hc:=hv.cell
  gi_wp2
  refine ⟨by simp,.inl ⟨_,_,rfl,run_takeDeferred hK,?_⟩⟩
  exact ⟨_,results_tmp rfl _ _ _,v,rfl,ownsRow_putObj hrow _ hK rfl,hB.trans (belowK_b (w:=w) (Nat.le_refl _) W D _ _ (by simp at hD; omega) hK rfl rfl)⟩
 case stop =>
  rintro D c pre W _ _ h _
  exact h.elim
theorem collect_any (Bs:Nat) (v:Value) (zs:List Int) (hlen:zs.length≤17592186044416) (w:World) (hBs:Bs<w.heap.size) (hc:w.cell? ⟨Bs,0,none⟩=some v) (hv:IntsAt w v zs) :
 Calls Tryz.prog 157 #[.func (.func 158) #[] #[.pointer (some ⟨Bs,0,none⟩)]] w (Ret1 (fun x w'=>OwnI w.heap.size w' x zs) w):=by
 have hA:=(callsIn_wide (n:=6)).1 (appendSeq_in Fence.wide 6 trivial trivial rfl (by omega) Bs v zs hlen w hBs hc hv)
 go_enter Tryz.func157,Tryz.ntmps157
 go_wp2_with fail
 refine hA.mono ?_
 clear hA
 rintro e w1 ⟨x,rfl,ho,hb⟩
 replace ho:=Hd ho
 go_wp2
 go_ret
 exact ⟨_,rfl,hb,ho.out⟩
end Go.Proofs.YtncpnaoabkjegaaGreatDoor
namespace Go.Proofs.YtncpnaoabkjegaaGreatDoor
open Go.RowKit Go.Shelf Go.Sort
set_option maxRecDepth 100000
def Tryz.laysSort_ren:Go.Shelf.Ren:=⟨fun | 5=>113 | 8=>182 | 7=>181 | 19=>223 | 20=>224 | 10=>214 | 11=>215 | 12=>216 | 13=>217 | 14=>218 | 15=>219 | 16=>220 | 17=>221 | 18=>222 | 30=>243 | 31=>244 | 32=>245 | 33=>246 | 34=>247 | 35=>248 | 40=>258 | n=>n,fun | 23=>22 | 25=>3 | 3=>3 | 32=>252 | 22=>22 | 0=>0 | 44=>283 | 46=>272 | 4=>4 | 36=>277 | 35=>276 | 41=>264 | 5=>5 | 9=>9 | 53=>304 | 57=>308 | 63=>317 | 64=>318 | n=>n,fun | n=>n⟩
theorem Tryz.laysSort:Go.Proofs.SlLaysM.n5 Tryz.prog Tryz.laysSort_ren:={
 mixed:=by kernel_rfl
 f5:=⟨Tryz.f113.name,by decide,Tryz.func113.trans (congrArg some (by kernel_rfl))⟩
 f7:=⟨Tryz.f181.name,by decide,Tryz.func181.trans (congrArg some (by kernel_rfl))⟩
 f8:=Tryz.func182.trans (congrArg some (by kernel_rfl))
 f10:=⟨Tryz.f214.name,by decide,Tryz.func214.trans (congrArg some (by kernel_rfl))⟩
 f11:=⟨Tryz.f215.name,by decide,Tryz.func215.trans (congrArg some (by kernel_rfl))⟩
 f12:=⟨Tryz.f216.name,by decide,Tryz.func216.trans (congrArg some (by kernel_rfl))⟩
 f13:=⟨Tryz.f217.name,by decide,Tryz.func217.trans (congrArg some (by kernel_rfl))⟩
 f14:=⟨Tryz.f218.name,by decide,Tryz.func218.trans (congrArg some (by kernel_rfl))⟩
 f15:=⟨Tryz.f219.name,by decide,Tryz.func219.trans (congrArg some (by kernel_rfl))⟩
 f16:=⟨Tryz.f220.name,by decide,Tryz.func220.trans (congrArg some (by kernel_rfl))⟩
 f17:=⟨Tryz.f221.name,by decide,Tryz.func221.trans (congrArg some (by kernel_rfl))⟩
 f18:=⟨Tryz.f222.name,by decide,Tryz.func222.trans (congrArg some (by kernel_rfl))⟩
 f19:=Tryz.func223.trans (congrArg some (by kernel_rfl))
 f20:=Tryz.func224.trans (congrArg some (by kernel_rfl))
 f30:=⟨Tryz.f243.name,by decide,Tryz.func243.trans (congrArg some (by kernel_rfl))⟩
 f31:=Tryz.func244.trans (congrArg some (by kernel_rfl))
 f32:=Tryz.func245.trans (congrArg some (by kernel_rfl))
 f33:=⟨Tryz.f246.name,by decide,Tryz.func246.trans (congrArg some (by kernel_rfl))⟩
 f34:=⟨Tryz.f247.name,by decide,Tryz.func247.trans (congrArg some (by kernel_rfl))⟩
 f35:=⟨Tryz.f248.name,by decide,Tryz.func248.trans (congrArg some (by kernel_rfl))⟩
 f40:=⟨Tryz.f258.name,by decide,Tryz.func258.trans (congrArg some (by kernel_rfl))⟩
 t0:=Tryz.underlying0
 a0:=Tryz.isAgg0
 z0:=Tryz.sizeOf0
 v0:=Tryz.zeroValue0
 t3:=Tryz.underlying3
 a3:=Tryz.isAgg3
 z3:=Tryz.sizeOf3
 v3:=Tryz.zeroValue3
 t4:=Tryz.underlying4
 a4:=Tryz.isAgg4
 z4:=Tryz.sizeOf4
 v4:=Tryz.zeroValue4
 t5:=Tryz.underlying5
 a5:=Tryz.isAgg5
 z5:=Tryz.sizeOf5
 v5:=Tryz.zeroValue5
 t9:=Tryz.underlying9
 a9:=Tryz.isAgg9
 z9:=Tryz.sizeOf9
 v9:=Tryz.zeroValue9
 t22:=Tryz.underlying22
 a22:=Tryz.isAgg22
 z22:=Tryz.sizeOf22
 v22:=Tryz.zeroValue22
 t23:=Tryz.underlying22
 a23:=Tryz.isAgg22
 z23:=Tryz.sizeOf22
 v23:=Tryz.zeroValue22
 t25:=Tryz.underlying3
 a25:=Tryz.isAgg3
 z25:=Tryz.sizeOf3
 v25:=Tryz.zeroValue3
 t32:=Tryz.underlying252
 a32:=Tryz.isAgg252
 z32:=Tryz.sizeOf252
 v32:=Tryz.zeroValue252
 t35:=Tryz.underlying276
 a35:=Tryz.isAgg276
 z35:=Tryz.sizeOf276
 v35:=Tryz.zeroValue276
 t36:=Tryz.underlying277
 a36:=Tryz.isAgg277
 z36:=Tryz.sizeOf277
 v36:=Tryz.zeroValue277
 t41:=Tryz.underlying264
 a41:=Tryz.isAgg264
 z41:=Tryz.sizeOf264
 v41:=Tryz.zeroValue264
 t44:=Tryz.underlying283
 a44:=Tryz.isAgg283
 z44:=Tryz.sizeOf283
 v44:=Tryz.zeroValue283
 t46:=Tryz.underlying272
 a46:=Tryz.isAgg272
 z46:=Tryz.sizeOf272
 v46:=Tryz.zeroValue272
 t53:=Tryz.underlying304
 a53:=Tryz.isAgg304
 z53:=Tryz.sizeOf304
 v53:=Tryz.zeroValue304
 t57:=Tryz.underlying308
 a57:=Tryz.isAgg308
 z57:=Tryz.sizeOf308
 v57:=Tryz.zeroValue308
 t63:=Tryz.underlying317
 a63:=Tryz.isAgg317
 z63:=Tryz.sizeOf317
 v63:=Tryz.zeroValue317
 t64:=Tryz.underlying318
 a64:=Tryz.isAgg318
 z64:=Tryz.sizeOf318
 v64:=Tryz.zeroValue318 }
def srt (xs:List Int):List Int:=xs.mergeSort fun x y=>decide (x≤y)
theorem srt_length (xs:List Int):(srt xs).length=xs.length:=by simp [srt]
theorem sort_own (B:Nat) (v:Value) (xs:List Int) (w:World) (h:OwnI B w v xs) (hl:xs.length≤17592186044416) (hB:B≤w.heap.size) :
 Calls Tryz.prog 113 #[v] w fun e w'=>e=.returned (.tuple #[])∧OwnI B w' v (srt xs)∧Below B w w':=by
 rcases h.2 with ⟨rfl,hn⟩ | ⟨g,cap,cur,rfl,hb,hg,hn,hcm,hs,ht⟩
 ·obtain rfl:=List.length_eq_zero_iff.1 hn
  refine Calls.mono (AnyM.slices_Sort_int_none Tryz.laysSort none 0 w) ?_
  rintro e w' ⟨rfl,rfl⟩
  exact ⟨rfl,by simpa [srt] using h,Below.refl _ _⟩
 ·have hlen:xs.length<4611686018427387904:=by omega
  refine Calls.mono (AnyM.slices_Sort_int Tryz.laysSort g 0 cap xs w (holds_of_block_i hg (by simpa using ht)) (Array.getElem?_eq_some_iff.1 hg).1 hlen) ?_
  rintro e w' ⟨rfl,n,os,rfl⟩
  refine ⟨rfl,?_,(Below.refl _ _).grown (grownBy_sorted_i _) hB (fun j hj=>by cases hj; exact hb)⟩
  have:=ownsRow_sorted_i (n:=n) (os:=os) (ts:=srt xs) (srt_length xs) hb hg hn hcm hs
  unfold OwnI
  rw [srt_length]
  exact this
theorem sorted_any (Bs:Nat) (v:Value) (zs:List Int) (hlen:zs.length≤17592186044416) (w:World) (hBs:Bs<w.heap.size) (hc:w.cell? ⟨Bs,0,none⟩=some v) (hv:IntsAt w v zs) :
 Calls Tryz.prog 81 #[.func (.func 158) #[] #[.pointer (some ⟨Bs,0,none⟩)]] w (Ret1 (fun x w'=>OwnI w.heap.size w' x (srt zs)) w):=by
 have hA:=collect_any Bs v zs hlen w hBs hc hv
 go_enter Tryz.func81,Tryz.ntmps81
 go_wp2_with fail
 refine hA.mono ?_
 clear hA
 rintro e w1 ⟨x,rfl,hb,ho⟩
 have hs:=hb.size
 go_wp2_with fail
 refine (sort_own w.heap.size x zs _ ho hlen hs).mono ?_
 rintro e w2 ⟨rfl,ho2,hb2⟩
 replace ho2:=Hd ho2
 go_wp2
 go_ret
 exact ⟨_,rfl,hb.trans hb2,ho2.out⟩
end Go.Proofs.YtncpnaoabkjegaaGreatDoor
namespace Go.Proofs.YtncpnaoabkjegaaGreatDoor
open Go.RowKit Go.Shelf
set_option maxRecDepth 100000
def Tryz.laysRev_ren:Go.Shelf.Ren:=⟨fun | 112=>79 | n=>n,fun | 28=>22 | 3=>3 | 4=>4 | 0=>0 | n=>n,fun | n=>n⟩
theorem Tryz.laysRev:Go.Proofs.Lays.n112 Tryz.prog Tryz.laysRev_ren:={
 mixed:=by kernel_rfl
 f112:=Tryz.func79.trans (congrArg some (by kernel_rfl))
 t0:=Tryz.underlying0
 a0:=Tryz.isAgg0
 z0:=Tryz.sizeOf0
 v0:=Tryz.zeroValue0
 t3:=Tryz.underlying3
 a3:=Tryz.isAgg3
 z3:=Tryz.sizeOf3
 v3:=Tryz.zeroValue3
 t4:=Tryz.underlying4
 a4:=Tryz.isAgg4
 z4:=Tryz.sizeOf4
 v4:=Tryz.zeroValue4
 t28:=Tryz.underlying22
 a28:=Tryz.isAgg22
 z28:=Tryz.sizeOf22
 v28:=Tryz.zeroValue22 }
theorem setCells_own {B g n cap:Nat} {w0:World}:∀ (zs:List Int) (o:Nat) (xs:List Int) (w:World),xs.length=n→o+zs.length≤n→OwnI B w (.slice (some ⟨g,0,none⟩) n cap) xs→Below B w0 w →
 OwnI B (w.setCells g o (zs.map (Value.int .i64))) (.slice (some ⟨g,0,none⟩) n cap) (xs.take o++zs++xs.drop (o+zs.length))∧Below B w0 (w.setCells g o (zs.map (Value.int .i64)))
 | [],o,xs,w,_,_,h,hb=>⟨by simpa [World.setCells] using h,hb⟩
 | z::r,o,xs,w,hn,ho,h,hb=>by
  have hol:o<xs.length:=by simp at ho; omega
  have h1:=h.set o hol z
  have h2:=h.setBelow hb o hol (.int .i64 z)
  rw [valAt_row] at h1 h2
  have ih:=setCells_own r (o+1) (xs.set o z) _ (by simpa using hn) (by simp at ho; omega) h1 h2
  have e:(xs.set o z).take (o+1)++r++(xs.set o z).drop (o+1+r.length)=xs.take o++(z::r)++xs.drop (o+(z::r).length):=by
   rw [List.take_set,List.drop_set_of_lt (by omega)]
   rw [show (xs.take (o+1)).set o z=xs.take o++[z] by rw [take_snoc xs o hol,List.set_append_right _ _ (by simp; omega)]; simp [show o-min o xs.length=0 by omega]]
   simp [show o+1+r.length=o+(r.length+1) by omega]
  rw [e] at ih
  exact ih
theorem reverse_own (B:Nat) (v:Value) (xs:List Int) (w:World) (h:OwnI B w v xs) (hl:xs.length≤9223372036854775807) :
 Calls Tryz.prog 79 #[v] w fun e w'=>e=.returned (.tuple #[])∧OwnI B w' v xs.reverse∧Below B w w':=by
 rcases h.2 with ⟨rfl,hn⟩ | ⟨g,cap,cur,rfl,hb,hg,hn,hm,hs,ht⟩
 ·obtain rfl:=List.length_eq_zero_iff.1 hn
  refine Calls.mono (Any.slices_Reverse_int_empty Tryz.laysRev none 0 w) ?_
  rintro e w' ⟨rfl,rfl⟩
  exact ⟨rfl,h,Below.refl _ _⟩
 ·refine Calls.mono (Any.slices_Reverse_int_cells Tryz.laysRev g 0 xs.length cap xs w (Nat.le_refl _) hl (fun j hj=>?_) (fun j hj=>?_)) ?_
  ·have:=h.at.cellD j hj
   rw [valAt_row] at this
   simpa using this
  ·have:=h.frz j hj
   rw [valAt_row] at this
   simpa using this
  ·rintro e w' ⟨rfl,q,rfl⟩
   rw [List.take_length]
   have:=setCells_own (w0:=w) xs.reverse 0 xs (w.drewN q) rfl (by simp) (h.drewN q) (below_drewN (Below.refl _ _) q)
   simp at this
   simpa using ⟨this.1,this.2⟩
end Go.Proofs.YtncpnaoabkjegaaGreatDoor
namespace Go.Proofs.YtncpnaoabkjegaaGreatDoor
open Go.RowKit
set_option maxRecDepth 100000
set_option maxHeartbeats 8000000
def castI (l:List Nat):List Int:=l.map fun (x:Nat)=>(x:Int)
theorem castI_len (l:List Nat):(castI l).length=l.length:=by simp [castI]
theorem castI_snoc (l:List Nat) (x:Nat):castI (l++[x])=castI l++[(x:Int)]:=by simp [castI]
theorem castI_get {l:List Nat} {i x:Nat} (h:l[i]?=some x):(castI l).getD i 0=(x:Int):=by simp [castI,List.getD,h]
theorem castI_reverse (l:List Nat):castI l.reverse=(castI l).reverse:=by simp [castI]
theorem nodup_len:∀ (n:Nat) (l:List Nat),l.Nodup→(∀ x∈l,x<n)→l.length≤n
 | 0,l,_,h=>by
  cases l with
  | nil=>exact Nat.le_refl _
  | cons a l=>have:=h a List.mem_cons_self; omega
 | n+1,l,hn,h=>by
  have hsub:=nodup_len n (l.erase n) (hn.erase n) (fun x hx=>by
   have h1:=h x (List.mem_of_mem_erase hx)
   have h2:x≠n:=fun e=>by subst e; exact (List.Nodup.not_mem_erase hn) hx
   omega)
  have:l.length≤(l.erase n).length+1:=by
   by_cases hm:n∈l
   ·have:=List.length_erase_of_mem hm; omega
   ·rw [List.erase_of_not_mem hm]; omega
  omega
def srtN (l:List Int):List Nat:=(srt l).map Int.toNat
theorem srt_mem (l:List Int) (x:Int):x∈srt l↔x∈l:=by unfold srt; exact (List.mergeSort_perm l _).mem_iff
theorem srt_sorted (l:List Int):(srt l).Pairwise (·≤·):=by
 have:=List.pairwise_mergeSort (le:=fun (x y:Int)=>decide (x≤y)) (fun a b c h1 h2=>by simp at *; omega) (fun a b=>by simp; omega) l
 unfold srt
 exact this.imp (fun h=>by simpa using h)
theorem srtN_sorted (l:List Int) (hp:∀ x∈l,0≤x):(srtN l).Pairwise (·≤·):=by
 unfold srtN
 rw [List.pairwise_map]
 refine (srt_sorted l).imp_of_mem fun {a b} ha hb h=>?_
 have:=hp a ((srt_mem l a).1 ha)
 omega
theorem srtN_mem (l:List Int) (t:Nat):t∈srtN l↔t∈l.map Int.toNat:=by
 unfold srtN
 simp only [List.mem_map,srt_mem]
theorem srtN_len (l:List Int):(srtN l).length=l.length:=by simp [srtN,srt_length]
theorem srtN_get (l:List Int) (hp:∀ x∈l,0≤x) (j:Nat) (hj:j<l.length):(srt l).getD j 0=((srtN l).getD j 0:Int):=by
 have hj':j<(srt l).length:=by rw [srt_length]; exact hj
 have h0:=hp _ ((srt_mem l _).1 (List.getElem_mem hj'))
 simp only [srtN,List.getD_eq_getElem?_getD,List.getElem?_map,List.getElem?_eq_getElem hj',Option.map_some,Option.getD_some]
 omega
theorem tabI_neg1 (n:Nat):tabI n (fun _=>-1)=List.replicate n (-1):=by
 unfold tabI; apply List.ext_getElem<;>simp
theorem rowsE (B:Nat) (w:World):Rows B w (fun _=>none):=⟨fun _ _ h=>(by cases h),fun _ _ _ _ h=>(by cases h)⟩
def FirstPost (w:World) (adj:Nat→List Nat) (a b:Nat) (x:Value) (w':World):Prop :=
 (∃ u,IsFirst adj a b u∧OwnI w.heap.size w' x (castI u))∨(¬ Goes adj a b∧x=.slice none 0 0)
structure FN (f:Names) (cv qv:Value) (n:Nat) (came:Nat→Int) (q:List Nat):Prop where
 came:f (1,0)=some (rowI cv (tabI n came))
 queue:f (2,0)=some (rowI qv (castI q))
section
variable {B:Nat} {w:World} {f:Names} {cv qv:Value} {n:Nat} {came:Nat→Int} {q:List Nat}
theorem FN.congr {f':Names} (h:FN f cv qv n came q) (e1:f' (1,0)=f (1,0)) (e2:f' (2,0)=f (2,0)):FN f' cv qv n came q:=⟨e1.trans h.came,e2.trans h.queue⟩
theorem FN.set (h:FN f cv qv n came q) (hr:Rows B w f) (t:Nat) (ht:t<n) (v:Int):∃ f',Rows B (w.setCell (valAt cv t) (.int .i64 v)) f'∧FN f' cv qv n (updN came t v) q∧∀ i,i≠(1,0)→f' i=f i:=by
 have hs:=hr.setI h.came t (by rw [tabI_len]; exact ht) v
 rw [tabI_upd] at hs
 exact ⟨_,hs,⟨upd_same _ _ _,by rw [upd_ne _ _ (by simp)]; exact h.queue⟩,fun i hi=>upd_ne _ _ hi⟩
theorem FN.push (h:FN f cv qv n came q) (hr:Rows B w f) {w1:World} {qv':Value} (t:Nat) (ho:OwnI B w1 qv' (castI q++[(t:Int)]))
 (hal:(roomOf qv'=roomOf qv∧w.grownBy w1 qv.ownBlock)∨(∃ k,qv'.ownBlock=some k∧w.heap.size≤k∧w.grownBy w1 none)):∃ f',Rows B w1 f'∧FN f' cv qv' n came (q++[t])∧∀ i,i≠(2,0)→f' i=f i:=by
 have hO:=hr.ownI h.queue
 have hg:w.grownBy w1 qv.ownBlock:=grown_via (hal.imp (·.2) (fun ⟨_,_,_,q⟩=>q))
 have hob:qv'.ownBlock=qv.ownBlock∨∃ k,qv'.ownBlock=some k∧w.heap.size≤k:=by
  rcases hal with ⟨q,_⟩ | ⟨k,h1,h2,_⟩
  ·obtain ⟨a1,n1,c1,e1⟩:=hO.at.shape
   obtain ⟨a2,n2,c2,e2⟩:=ho.at.shape
   exact .inl (ownBlock_of_room e1 e2 q)
  ·exact .inr ⟨k,h1,h2⟩
 exact ⟨_,hr.grown (r':=rowI qv' (castI q++[(t:Int)])) h.queue hg ho hob,⟨by rw [upd_ne _ _ (by simp)]; exact h.came,by rw [upd_same,castI_snoc]⟩,fun i hi=>upd_ne _ _ hi⟩
end
theorem first_any (na:Option Addr) (nc:Nat) (G:List (List Int)) (a b:Nat) (w:World) (h:ListsAt w (.slice na G.length nc) G) (hok:GraphOk G) (hn:G.length≤8200) (ha:a<G.length) (hb:b<G.length) (hsz:∀ k,k<G.length→(G.getD k []).length≤17592186044416) :
 Calls Tryz.prog 190 #[.slice na G.length nc,.int .i64 a,.int .i64 b] w (Ret1 (FirstPost w (adjOf G) a b) w):=by
 have b0:=belowAlloc w (.cells #[.int .i64 (-1)] 3)
 have hI:=(OwnI.lit w.heap.size w (Nat.le_refl _) [-1] (by simp [maxLen]) #[.int .i64 (-1)] rfl 1 rfl).at
 have hRep:=repeat_any _ (-1) G.length _ hI (by omega)
 have hinit:=BBase.init (adjOf G) a
 replace hI:=Hd hI
 replace h:=Hd h
 replace hok:=Hd hok
 replace hsz:=Hd hsz
 replace hinit:=Hd hinit
 replace hRep:=Hd hRep
 go_enter Tryz.func190,Tryz.ntmps190
 go_wp2_with fail
 refine hRep.out.mono ?_
 rintro e w1 ⟨cv,rfl,b1,hcv⟩
 obtain ⟨w0,hw0⟩:∃ w0:World,w0=w.alloc (.cells #[.int .i64 (-1)] 3):=⟨_,rfl⟩
 rw [← hw0] at b0 b1 hcv
 rw [← tabI_neg1] at hcv
 clear hRep hI hw0
 have b01:=Below.step b0 b1
 have R1:=(rowsE w.heap.size w0).add (i:=(1,0)) (r':=rowI cv (tabI G.length fun _=>-1)) b1 (hcv.mono b0.size) (fun k hk=>(hcv.lt k hk).1)
 have iA:=fun w'=>hcv.at.idx a (by rw [tabI_len]; exact ha) w'
 have cA:=hcv.at.cellD a (by rw [tabI_len]; exact ha)
 have fA:=hcv.frz a (by rw [tabI_len]; exact ha)
 have kA:=(hcv.toV.blkB a (by rw [List.length_map,tabI_len]; exact ha)).2
 have R2:=R1.setI (upd_same _ _ _) a (by rw [tabI_len]; exact ha) (a:Int)
 rw [tabI_upd] at R2
 have b2:Below w.heap.size w (w1.setCell (valAt cv a) (.int .i64 (a:Int))):=b01.setCell (Nat.le_trans b0.size kA) _
 generalize valAt cv a=ca at *
 generalize (tabI G.length fun _=>-1).getD a 0=oa at cA
 obtain ⟨W2,hW2⟩:∃ W2:World,W2=w1.setCell ca (.int .i64 (a:Int)):=⟨_,rfl⟩
 rw [← hW2] at R2 b2
 replace R2:=Hd R2
 replace R1:=Hd R1
 replace hcv:=Hd hcv
 go_upto_region 3 with fail
 rw [← hW2]
 clear hW2 iA cA fA
 have hB2:=b2.size
 have hal2:=belowAlloc W2 (.cells #[.int .i64 (a:Int)] 3)
 have hq2:=OwnI.lit W2.heap.size W2 (Nat.le_refl _) [(a:Int)] (by simp [maxLen]) #[.int .i64 (a:Int)] rfl 1 rfl
 have R3:=R2.out.add (i:=(2,0)) (r':=rowI (.slice (some ⟨W2.heap.size,0,none⟩) 1 1) [(a:Int)]) hal2 (hq2.mono hB2) (fun k hk=>(hq2.lt k hk).1)
 have b3:=b2.trans (hal2.mono hB2)
 obtain ⟨W3,hW3⟩:∃ W3:World,W3=W2.alloc (.cells #[.int .i64 (a:Int)] 3):=⟨_,rfl⟩
 rw [← hW3] at R3 b3
 obtain ⟨q2,hq2e⟩:∃ q2,q2=W2.heap.size:=⟨_,rfl⟩
 rw [← hq2e] at R3
 have hF0:FN (upd (upd (upd (fun _=>none) (1,0) (some (rowI cv (tabI G.length fun _=>-1)))) (1,0) (some (rowI cv (tabI G.length (updN (fun _=>(-1:Int)) a (a:Int)))))) (2,0) (some (rowI (.slice (some ⟨q2,0,none⟩) 1 1) [(a:Int)]))) cv (.slice (some ⟨q2,0,none⟩) 1 1) G.length (updN (fun _=>(-1:Int)) a (a:Int)) [a] :=
  ⟨by rw [upd_ne _ _ (by simp),upd_same],by rw [upd_same]; rfl⟩
 replace R3:=Hd R3
 replace hq2:=Hd hq2
 go_wp2_with fail
 rw [← hW3,← hq2e]
 clear hW3 hq2e R2 R1 hal2 hq2
 go_loopw [8,9] (fun qv iv wr=>∃ (i:Nat) (came:Nat→Int) (q:List Nat) (par dist:Nat→Nat) (f':Names) (qw:Value),qw=qv∧iv=.int .i64 i∧i≤q.length∧Rows w.heap.size wr f'∧Below w.heap.size w wr∧FN f' cv qw G.length came q∧BOut (adjOf G) a came q par dist i∧∀ x∈q,x<G.length) (fun _ iv _=>G.length+1-(intOf iv).toNat)
 case atStart=>exact ⟨0,_,[a],_,_,_,_,rfl,rfl,by omega,R3.out,b3,hF0,hinit.out,fun x hx=>by cases List.mem_singleton.1 hx; exact ha⟩
 case round =>
  obtain ⟨i,came,q,par,dist,f1,qv,rfl,rfl,hi,hr1,b1',h1,hO,hqn⟩:=hrel
  obtain ⟨wo,rfl⟩:∃ wo:World,wo=wr:=⟨_,rfl⟩
  have hql:=nodup_len G.length q hO.nodup hqn
  have hOQ:=hr1.ownI h1.queue
  have lQ:=hOQ.at.len
  rw [castI_len] at lQ
  have hOC:=hr1.ownI h1.came
  have iB:=fun w'=>hOC.at.idx b (by rw [tabI_len]; exact hb) w'
  have cB:=hOC.at.cellD b (by rw [tabI_len]; exact hb)
  rw [tabI_get _ _ _ hb] at cB
  generalize valAt cv b=pb at *
  obtain ⟨cb,hcb⟩:∃ cb,came b=cb:=⟨_,rfl⟩
  rw [hcb] at cB
  by_cases hil:i<q.length
  ·by_cases hneg:cb<0
   ·obtain ⟨v,hv⟩:∃ v,q[i]?=some v:=⟨_,List.getElem?_eq_getElem hil⟩
    have hvn:=hqn v (List.mem_of_getElem? hv)
    have iV:=fun w'=>hOQ.at.idx i (by rw [castI_len]; exact hil) w'
    have cV:=hOQ.at.cellD i (by rw [castI_len]; exact hil)
    rw [castI_get hv] at cV
    obtain ⟨mv,iR,cR,hM⟩:=(h.out.below (b1':Below w.heap.size w wo)).row v hvn
    have hgx:=hsz.out v hvn
    have hgp:∀ x∈G.getD v [],0≤x∧x<G.length:=hok.out v hvn
    have hadj:adjOf G v=(G.getD v []).map Int.toNat:=rfl
    generalize G.getD v []=gx at *
    obtain ⟨ma,mn,mc,rfl⟩:=hM.shape
    generalize valAt qv i=qa at *
    generalize valAt (.slice na G.length nc) v=ra at *
    replace hcb:=Hd hcb
    replace hr1:=Hd hr1
    replace hOQ:=Hd hOQ
    replace hOC:=Hd hOC
    replace hM:=Hd hM
    replace hO:=Hd hO
    replace hqn:=Hd hqn
    replace hgp:=Hd hgp
    replace hadj:=Hd hadj
    replace hv:=Hd hv
    go_wp2_with fail
    refine (vals_any ma mn mc _).mono ?_
    rintro e w2 ⟨rfl,rfl⟩
    have hbv:=belowAlloc wo (.cells #[.slice ma mn mc] 22)
    clear iB cB iV cV iR cR
    go_wp2_with fail
    refine (sorted_any wo.heap.size (.slice ma mn mc) gx hgx _ (by simp) (by simp) (hM.out.below hbv)).mono ?_
    rintro e w3 ⟨lv,rfl,b3',hL⟩
    have b4:Below wo.heap.size wo w3:=hbv.trans (b3'.mono hbv.size)
    have hBo:w.heap.size≤wo.heap.size:=b1'.size
    have R4:=hr1.out.add (i:=(3,0)) (r':=rowI lv (srt gx)) b4 (hL.mono (Nat.le_trans hBo hbv.size)) (fun k hk=>Nat.le_trans hbv.size (hL.lt k hk).1)
    have h4:FN (upd f1 (3,0) (some (rowI lv (srt gx)))) cv qv G.length came q:=h1.congr (upd_ne _ _ (by simp)) (upd_ne _ _ (by simp))
    have e4:upd f1 (3,0) (some (rowI lv (srt gx))) (3,0)=some (rowI lv (srt gx)):=upd_same _ _ _
    have b5:=b1'.trans (b4.mono hBo)
    have hIn:=hO.out.enter hv.out (l:=(srtN gx).drop 0) (fun t=>by rw [List.drop_zero,hadj.out]; exact srtN_mem gx t) (by rw [List.drop_zero]; exact srtN_sorted gx fun x hx=>(hgp.out x hx).1)
    have lL:=hL.at.len
    have hsl:(srt gx).length=gx.length:=srt_length gx
    generalize upd f1 (3,0) (some (rowI lv (srt gx)))=f4 at *
    replace R4:=Hd R4
    replace hIn:=Hd hIn
    replace hL:=Hd hL
    replace e4:=Hd e4
    go_wp2_with fail
    clear lL lQ
    go_loopw [8,49] (fun qv jv wr=>∃ (j:Nat) (came:Nat→Int) (q:List Nat) (par dist:Nat→Nat) (f':Names) (qw:Value),qw=qv∧jv=.int .i64 j∧j≤gx.length∧Rows w.heap.size wr f'∧Below w.heap.size w wr∧FN f' cv qw G.length came q∧f' (3,0)=some (rowI lv (srt gx))∧BIn (adjOf G) a came q par dist i v ((srtN gx).drop j)∧∀ x∈q,x<G.length) (fun _ jv _=>gx.length-(intOf jv).toNat)
    case atStart=>exact ⟨0,came,q,par,dist,f4,qv,rfl,rfl,by omega,R4.out,b5,h4,e4.out,hIn.out,hqn.out⟩
    case round =>
     clear hIn R4 e4 h4 b5 h1 hi hil hO hqn hv hOQ hOC hneg hcb
     obtain ⟨j,came,q,par,dist,f4,qv,rfl,rfl,hj,hr4,b5,h4,e4,hIn,hqn⟩:=hrel
     obtain ⟨wo,rfl⟩:∃ wo:World,wo=wr:=⟨_,rfl⟩
     have hOL:=hr4.ownI e4
     have lL:=hOL.at.len
     rw [hsl] at lL
     by_cases hjl:j<gx.length
     ·have hjs:j<(srtN gx).length:=by rw [srtN_len]; exact hjl
      obtain ⟨t,ht⟩:∃ t,(srtN gx)[j]?=some t:=⟨_,List.getElem?_eq_getElem hjs⟩
      have htd:(srtN gx).getD j 0=t:=by simp [List.getD,ht]
      have hdr:(srtN gx).drop j=t::(srtN gx).drop (j+1):=by
       rw [List.drop_eq_getElem_cons hjs]
       rw [List.getElem?_eq_getElem hjs] at ht
       injection ht with ht
       rw [ht]
      have htn:t<G.length:=by
       have hm:=(srtN_mem gx t).1 (List.mem_of_getElem? ht)
       obtain ⟨x,hx,rfl⟩:=List.mem_map.1 hm
       have:=hgp.out x hx
       omega
      have iT:=fun w'=>hOL.at.idx j (by rw [hsl]; exact hjl) w'
      have cT:=hOL.at.cellD j (by rw [hsl]; exact hjl)
      rw [srtN_get gx (fun x hx=>(hgp.out x hx).1) j hjl,htd] at cT
      rw [hdr] at hIn
      have hOC:=hr4.ownI h4.came
      have iC:=fun w'=>hOC.at.idx t (by rw [tabI_len]; exact htn) w'
      have cC:=hOC.at.cellD t (by rw [tabI_len]; exact htn)
      rw [tabI_get _ _ _ htn] at cC
      have fC:=hOC.frz t (by rw [tabI_len]; exact htn)
      have kC:=(hOC.toV.blkB t (by rw [List.length_map,tabI_len]; exact htn)).2
      obtain ⟨f5,hr5,h5,k5⟩:=h4.set hr4 t htn (v:Int)
      have e5:f5 (3,0)=some (rowI lv (srt gx)):=(k5 _ (by simp)).trans e4
      have b6:Below w.heap.size w (wo.setCell (valAt cv t) (.int .i64 (v:Int))):=b5.setCell kC _
      generalize valAt lv j=la at *
      generalize valAt cv t=ta at *
      obtain ⟨ct,hct⟩:∃ ct,came t=ct:=⟨_,rfl⟩
      rw [hct] at cC
      by_cases htc:ct<0
      ·have hadd:=hIn.add (by rw [hct]; exact htc)
       have hqn2:∀ x∈q++[t],x<G.length:=fun x hx=>by
        rcases List.mem_append.1 hx with hx | hx
        ·exact hqn x hx
        ·cases List.mem_singleton.1 hx; exact htn
       have hql2:=nodup_len G.length q hIn.base.nodup hqn
       replace hadd:=Hd hadd
       replace hqn2:=Hd hqn2
       replace hIn:=Hd hIn
       replace hqn:=Hd hqn
       replace hr4:=Hd hr4
       replace hr5:=Hd hr5
       replace hOC:=Hd hOC
       replace hOL:=Hd hOL
       replace hct:=Hd hct
       replace hdr:=Hd hdr
       replace htd:=Hd htd
       replace ht:=Hd ht
       replace k5:=Hd k5
       replace e4:=Hd e4
       replace e5:=Hd e5
       go_upto_region 13 with fail
       obtain ⟨W5,hW5⟩:∃ W5:World,W5=wo.setCell ta (.int .i64 (v:Int)):=⟨_,rfl⟩
       rw [← hW5]
       rw [← hW5] at hr5 b6
       clear hW5 iT cT iC cC fC lL
       have hOQ5:=hr5.out.ownI h5.queue
       have hB5:w.heap.size≤W5.heap.size:=b6.size
       go_wp2_with (at_builtin; refine wpl_app1 rfl _ _ rfl w.heap.size qv (castI q) t hOQ5 rfl rfl (by rw [castI_len]; omega) hB5 ?_)
       intro qv' w7 ho7 b7 hal7
       obtain ⟨f7,hr7,h7,k7⟩:=h5.push hr5.out t ho7 hal7
       replace hr7:=Hd hr7
       replace ho7:=Hd ho7
       replace k7:=Hd k7
       clear hal7
       go_wp2
       go_roundw
       case measure=>simp [intOf]; omega
       case rel=>exact ⟨j+1,_,_,_,_,f7,qv',rfl,by go_num,by omega,hr7.out,b6.trans b7,h7,(k7.out _ (by simp)).trans e5.out,hadd.out,hqn2.out⟩
      ·have hold:=hIn.old (by rw [hct]; omega)
       replace hold:=Hd hold
       replace hIn:=Hd hIn
       replace hqn:=Hd hqn
       replace hr4:=Hd hr4
       replace hr5:=Hd hr5
       replace hOC:=Hd hOC
       replace hOL:=Hd hOL
       replace hct:=Hd hct
       replace hdr:=Hd hdr
       replace htd:=Hd htd
       replace ht:=Hd ht
       replace k5:=Hd k5
       replace e4:=Hd e4
       replace e5:=Hd e5
       go_wp2
       go_roundw
       case measure=>simp [intOf]; omega
       case rel=>exact ⟨j+1,came,q,par,dist,f4,qv,rfl,by go_num,by omega,hr4.out,b5,h4,e4.out,hold.out,hqn.out⟩
     ·obtain rfl:j=gx.length:=by omega
      rw [List.drop_eq_nil_of_le (by rw [srtN_len]; exact Nat.le_refl _)] at hIn
      have hOut:=hIn.leave
      have hil:=get_of hIn.cur
      have hql2:=nodup_len G.length q hIn.base.nodup hqn
      replace hOut:=Hd hOut
      replace hIn:=Hd hIn
      replace hqn:=Hd hqn
      replace hr4:=Hd hr4
      replace hOL:=Hd hOL
      replace e4:=Hd e4
      go_wp2
      go_roundw
      case measure=>simp [intOf]; omega
      case rel=>exact ⟨i+1,came,q,par,dist,f4,qv,rfl,by go_num,by omega,hr4.out,b5,h4,hOut.out,hqn.out⟩
   ·have hcb0:¬ came b<0:=by rw [hcb]; exact hneg
    have hbq:=(hO.cameIff b).1 (by omega)
    obtain ⟨k0,hk0⟩:=List.mem_iff_getElem?.1 hbq
    have hlit:=OwnI.lit wo.heap.size wo (Nat.le_refl _) [(b:Int)] (by simp [maxLen]) #[.int .i64 (b:Int)] rfl 1 rfl
    have halw:=belowAlloc wo (.cells #[.int .i64 (b:Int)] 3)
    have hBo:w.heap.size≤wo.heap.size:=b1'.size
    have R8:=hr1.add (i:=(4,0)) (r':=rowI (.slice (some ⟨wo.heap.size,0,none⟩) 1 1) (castI [b].reverse)) halw (hlit.mono hBo) (fun k hk=>(hlit.lt k hk).1)
    have b8:=b1'.trans (halw.mono hBo)
    have hcame8:(upd f1 (4,0) (some (rowI (.slice (some ⟨wo.heap.size,0,none⟩) 1 1) (castI [b].reverse)))) (1,0)=some (rowI cv (tabI G.length came)):=(upd_ne _ _ (by simp)).trans h1.came
    have hway8:=upd_same f1 (4,0) (some (rowI (.slice (some ⟨wo.heap.size,0,none⟩) 1 1) (castI [b].reverse)))
    generalize upd f1 (4,0) (some (rowI (.slice (some ⟨wo.heap.size,0,none⟩) 1 1) (castI [b].reverse)))=f8 at *
    obtain ⟨W8,hW8⟩:∃ W8:World,W8=wo.alloc (.cells #[.int .i64 (b:Int)] 3):=⟨_,rfl⟩
    obtain ⟨s8,hs8⟩:∃ s8,s8=wo.heap.size:=⟨_,rfl⟩
    rw [← hW8] at R8 b8
    rw [← hs8] at hway8
    have htree:Tree came q (adjOf G) b b [b]:=.one b hbq
    replace hcb:=Hd hcb
    replace hr1:=Hd hr1
    replace hOQ:=Hd hOQ
    replace hOC:=Hd hOC
    replace hO:=Hd hO
    replace hqn:=Hd hqn
    replace hlit:=Hd hlit
    replace R8:=Hd R8
    replace hk0:=Hd hk0
    replace hcame8:=Hd hcame8
    replace hway8:=Hd hway8
    replace htree:=Hd htree
    clear halw
    go_wp2_with fail
    rw [← hW8,← hs8]
    clear hW8 hs8 iB cB lQ
    go_loopg [13,14] k0 (fun k wv vv wr=>∃ (x:Nat) (u:List Nat) (f':Names) (ww:Value),ww=wv∧vv=.int .i64 x∧q[k]?=some x∧Tree came q (adjOf G) x b u∧Rows w.heap.size wr f'∧Below w.heap.size w wr∧f' (1,0)=some (rowI cv (tabI G.length came))∧f' (4,0)=some (rowI ww (castI u.reverse))∧u.length≤G.length+1-k)
    case atStart=>exact ⟨b,[b],f8,_,rfl,rfl,hk0.out,htree.out,R8.out,b8,hcame8.out,hway8.out,by have:=get_of hk0.out; simp only [List.length_cons,List.length_nil]; omega⟩
    case round =>
     clear R8 b8 hcame8 hway8 htree hk0
     obtain ⟨x,u,f9,wv,rfl,rfl,hk,hT,hr9,b9,hc9,hw9,hul⟩:=hrel
     obtain ⟨wo,rfl⟩:∃ wo:World,wo=wr:=⟨_,rfl⟩
     obtain ⟨k,rfl⟩:∃ k:Nat,k=gk:=⟨_,rfl⟩
     have hxn:=hqn.out x (List.mem_of_getElem? hk)
     have hkl:=get_of hk
     by_cases hxa:x=a
     ·subst hxa
      have hfirst:=hO.out.first hT
      have hOW:=hr9.ownI hw9
      have hrev:=reverse_own w.heap.size wv (castI u.reverse) wo hOW (by rw [castI_len,List.length_reverse]; omega)
      have hrr:(castI u.reverse).reverse=castI u:=by rw [castI_reverse,List.reverse_reverse]
      rw [hrr] at hrev
      replace hrev:=Hd hrev
      replace hfirst:=Hd hfirst
      replace hT:=Hd hT
      replace hr9:=Hd hr9
      replace hOW:=Hd hOW
      replace hc9:=Hd hc9
      replace hw9:=Hd hw9
      replace hk:=Hd hk
      replace hrr:=Hd hrr
      go_wp2_with fail
      refine hrev.out.mono ?_
      rintro e w10 ⟨rfl,ho10,b10⟩
      replace ho10:=Hd ho10
      go_wp2
      go_ret
      exact ⟨_,rfl,b9.trans b10,.inl ⟨u,hfirst.out,ho10.out⟩⟩
     ·have hk1:0<k:=by
       by_cases e:0<k
       ·exact e
       ·obtain rfl:k=0:=by omega
        have:=hO.out.hd
        rw [hk] at this
        injection this with this
        exact absurd this hxa
      obtain ⟨p1,p2,p,p3,p4,p5,p6⟩:=hO.out.parLt k x hk1 hk
      have hT2:=Tree.cons _ _ p3 hk hk1 p4 hT
      have hpn:=hqn.out p (List.mem_of_getElem? p3)
      have hne:((x:Int) != (a:Int))=true:=by rw [bne_iff_ne]; omega
      have hOC9:=hr9.ownI hc9
      have iX:=fun w'=>hOC9.at.idx x (by rw [tabI_len]; exact hxn) w'
      have cX:=hOC9.at.cellD x (by rw [tabI_len]; exact hxn)
      rw [tabI_get _ _ _ hxn,p4] at cX
      have hOW:=hr9.ownI hw9
      have hB9:w.heap.size≤wo.heap.size:=b9.size
      have hlu:(castI u.reverse).length<4398046511104:=by rw [castI_len,List.length_reverse]; omega
      have hgrow:=fun (w':World) (wv':Value) (ho:OwnI w.heap.size w' wv' (castI u.reverse++[(p:Int)])) (hal:(roomOf wv'=roomOf wv∧wo.grownBy w' wv.ownBlock)∨(∃ k,wv'.ownBlock=some k∧wo.heap.size≤k∧wo.grownBy w' none))=>show ∃ f',Rows w.heap.size w' f'∧f' (1,0)=some (rowI cv (tabI G.length came))∧f' (4,0)=some (rowI wv' (castI (p::u).reverse)) from by
       have hg:wo.grownBy w' wv.ownBlock:=grown_via (hal.imp (·.2) (fun ⟨_,_,_,q⟩=>q))
       have hob:wv'.ownBlock=wv.ownBlock∨∃ k,wv'.ownBlock=some k∧wo.heap.size≤k:=by
        rcases hal with ⟨q,_⟩ | ⟨k,h1,h2,_⟩
        ·obtain ⟨a1,n1,c1,e1⟩:=hOW.at.shape
         obtain ⟨a2,n2,c2,e2⟩:=ho.at.shape
         exact .inl (ownBlock_of_room e1 e2 q)
        ·exact .inr ⟨k,h1,h2⟩
       exact ⟨_,hr9.grown (r':=rowI wv' (castI u.reverse++[(p:Int)])) hw9 hg ho hob,by rw [upd_ne _ _ (by simp)]; exact hc9,by rw [upd_same,List.reverse_cons,castI_snoc]⟩
      generalize valAt cv x=xa at *
      replace hgrow:=Hd hgrow
      replace hT:=Hd hT
      replace hT2:=Hd hT2
      replace hr9:=Hd hr9
      replace hOC9:=Hd hOC9
      replace hc9:=Hd hc9
      replace hw9:=Hd hw9
      replace hk:=Hd hk
      replace p3:=Hd p3
      replace p4:=Hd p4
      replace p6:=Hd p6
      go_wp2_with (at_builtin; refine wpl_app1 rfl _ _ rfl w.heap.size wv (castI u.reverse) p hOW rfl rfl hlu hB9 ?_)
      intro wv' w11 ho11 b11 hal11
      obtain ⟨f11,hr11,hc11,hw11⟩:=hgrow.out w11 wv' ho11 hal11
      replace ho11:=Hd ho11
      replace hr11:=Hd hr11
      replace hc11:=Hd hc11
      replace hw11:=Hd hw11
      clear hal11
      go_wp2
      go_roundg (par k)
      case measure=>exact p2
      case rel=>exact ⟨p,p::u,f11,wv',rfl,rfl,p3.out,hT2.out,hr11.out,b9.trans b11,hc11.out,hw11.out,by simp only [List.length_cons]; omega⟩
  ·by_cases hneg:cb<0
   ·have hnone:=hO.none (by omega) (by rw [hcb]; exact hneg)
    replace hnone:=Hd hnone
    replace hcb:=Hd hcb
    replace hr1:=Hd hr1
    replace hOQ:=Hd hOQ
    replace hOC:=Hd hOC
    replace hO:=Hd hO
    replace hqn:=Hd hqn
    go_wp2
    go_ret
    exact ⟨_,rfl,b1',.inr ⟨hnone.out,rfl⟩⟩
   ·have hcb0:¬ came b<0:=by rw [hcb]; exact hneg
    have hbq:=(hO.cameIff b).1 (by omega)
    obtain ⟨k0,hk0⟩:=List.mem_iff_getElem?.1 hbq
    have hlit:=OwnI.lit wo.heap.size wo (Nat.le_refl _) [(b:Int)] (by simp [maxLen]) #[.int .i64 (b:Int)] rfl 1 rfl
    have halw:=belowAlloc wo (.cells #[.int .i64 (b:Int)] 3)
    have hBo:w.heap.size≤wo.heap.size:=b1'.size
    have R8:=hr1.add (i:=(4,0)) (r':=rowI (.slice (some ⟨wo.heap.size,0,none⟩) 1 1) (castI [b].reverse)) halw (hlit.mono hBo) (fun k hk=>(hlit.lt k hk).1)
    have b8:=b1'.trans (halw.mono hBo)
    have hcame8:(upd f1 (4,0) (some (rowI (.slice (some ⟨wo.heap.size,0,none⟩) 1 1) (castI [b].reverse)))) (1,0)=some (rowI cv (tabI G.length came)):=(upd_ne _ _ (by simp)).trans h1.came
    have hway8:=upd_same f1 (4,0) (some (rowI (.slice (some ⟨wo.heap.size,0,none⟩) 1 1) (castI [b].reverse)))
    generalize upd f1 (4,0) (some (rowI (.slice (some ⟨wo.heap.size,0,none⟩) 1 1) (castI [b].reverse)))=f8 at *
    obtain ⟨W8,hW8⟩:∃ W8:World,W8=wo.alloc (.cells #[.int .i64 (b:Int)] 3):=⟨_,rfl⟩
    obtain ⟨s8,hs8⟩:∃ s8,s8=wo.heap.size:=⟨_,rfl⟩
    rw [← hW8] at R8 b8
    rw [← hs8] at hway8
    have htree:Tree came q (adjOf G) b b [b]:=.one b hbq
    replace hcb:=Hd hcb
    replace hr1:=Hd hr1
    replace hOQ:=Hd hOQ
    replace hOC:=Hd hOC
    replace hO:=Hd hO
    replace hqn:=Hd hqn
    replace hlit:=Hd hlit
    replace R8:=Hd R8
    replace hk0:=Hd hk0
    replace hcame8:=Hd hcame8
    replace hway8:=Hd hway8
    replace htree:=Hd htree
    clear halw
    go_wp2_with fail
    rw [← hW8,← hs8]
    clear hW8 hs8 iB cB lQ
    go_loopg [13,14] k0 (fun k wv vv wr=>∃ (x:Nat) (u:List Nat) (f':Names) (ww:Value),ww=wv∧vv=.int .i64 x∧q[k]?=some x∧Tree came q (adjOf G) x b u∧Rows w.heap.size wr f'∧Below w.heap.size w wr∧f' (1,0)=some (rowI cv (tabI G.length came))∧f' (4,0)=some (rowI ww (castI u.reverse))∧u.length≤G.length+1-k)
    case atStart=>exact ⟨b,[b],f8,_,rfl,rfl,hk0.out,htree.out,R8.out,b8,hcame8.out,hway8.out,by have:=get_of hk0.out; simp only [List.length_cons,List.length_nil]; omega⟩
    case round =>
     clear R8 b8 hcame8 hway8 htree hk0
     obtain ⟨x,u,f9,wv,rfl,rfl,hk,hT,hr9,b9,hc9,hw9,hul⟩:=hrel
     obtain ⟨wo,rfl⟩:∃ wo:World,wo=wr:=⟨_,rfl⟩
     obtain ⟨k,rfl⟩:∃ k:Nat,k=gk:=⟨_,rfl⟩
     have hxn:=hqn.out x (List.mem_of_getElem? hk)
     have hkl:=get_of hk
     by_cases hxa:x=a
     ·subst hxa
      have hfirst:=hO.out.first hT
      have hOW:=hr9.ownI hw9
      have hrev:=reverse_own w.heap.size wv (castI u.reverse) wo hOW (by rw [castI_len,List.length_reverse]; omega)
      have hrr:(castI u.reverse).reverse=castI u:=by rw [castI_reverse,List.reverse_reverse]
      rw [hrr] at hrev
      replace hrev:=Hd hrev
      replace hfirst:=Hd hfirst
      replace hT:=Hd hT
      replace hr9:=Hd hr9
      replace hOW:=Hd hOW
      replace hc9:=Hd hc9
      replace hw9:=Hd hw9
      replace hk:=Hd hk
      replace hrr:=Hd hrr
      go_wp2_with fail
      refine hrev.out.mono ?_
      rintro e w10 ⟨rfl,ho10,b10⟩
      replace ho10:=Hd ho10
      go_wp2
      go_ret
      exact ⟨_,rfl,b9.trans b10,.inl ⟨u,hfirst.out,ho10.out⟩⟩
     ·have hk1:0<k:=by
       by_cases e:0<k
       ·exact e
       ·obtain rfl:k=0:=by omega
        have:=hO.out.hd
        rw [hk] at this
        injection this with this
        exact absurd this hxa
      obtain ⟨p1,p2,p,p3,p4,p5,p6⟩:=hO.out.parLt k x hk1 hk
      have hT2:=Tree.cons _ _ p3 hk hk1 p4 hT
      have hpn:=hqn.out p (List.mem_of_getElem? p3)
      have hne:((x:Int) != (a:Int))=true:=by rw [bne_iff_ne]; omega
      have hOC9:=hr9.ownI hc9
      have iX:=fun w'=>hOC9.at.idx x (by rw [tabI_len]; exact hxn) w'
      have cX:=hOC9.at.cellD x (by rw [tabI_len]; exact hxn)
      rw [tabI_get _ _ _ hxn,p4] at cX
      have hOW:=hr9.ownI hw9
      have hB9:w.heap.size≤wo.heap.size:=b9.size
      have hlu:(castI u.reverse).length<4398046511104:=by rw [castI_len,List.length_reverse]; omega
      have hgrow:=fun (w':World) (wv':Value) (ho:OwnI w.heap.size w' wv' (castI u.reverse++[(p:Int)])) (hal:(roomOf wv'=roomOf wv∧wo.grownBy w' wv.ownBlock)∨(∃ k,wv'.ownBlock=some k∧wo.heap.size≤k∧wo.grownBy w' none))=>show ∃ f',Rows w.heap.size w' f'∧f' (1,0)=some (rowI cv (tabI G.length came))∧f' (4,0)=some (rowI wv' (castI (p::u).reverse)) from by
       have hg:wo.grownBy w' wv.ownBlock:=grown_via (hal.imp (·.2) (fun ⟨_,_,_,q⟩=>q))
       have hob:wv'.ownBlock=wv.ownBlock∨∃ k,wv'.ownBlock=some k∧wo.heap.size≤k:=by
        rcases hal with ⟨q,_⟩ | ⟨k,h1,h2,_⟩
        ·obtain ⟨a1,n1,c1,e1⟩:=hOW.at.shape
         obtain ⟨a2,n2,c2,e2⟩:=ho.at.shape
         exact .inl (ownBlock_of_room e1 e2 q)
        ·exact .inr ⟨k,h1,h2⟩
       exact ⟨_,hr9.grown (r':=rowI wv' (castI u.reverse++[(p:Int)])) hw9 hg ho hob,by rw [upd_ne _ _ (by simp)]; exact hc9,by rw [upd_same,List.reverse_cons,castI_snoc]⟩
      generalize valAt cv x=xa at *
      replace hgrow:=Hd hgrow
      replace hT:=Hd hT
      replace hT2:=Hd hT2
      replace hr9:=Hd hr9
      replace hOC9:=Hd hOC9
      replace hc9:=Hd hc9
      replace hw9:=Hd hw9
      replace hk:=Hd hk
      replace p3:=Hd p3
      replace p4:=Hd p4
      replace p6:=Hd p6
      go_wp2_with (at_builtin; refine wpl_app1 rfl _ _ rfl w.heap.size wv (castI u.reverse) p hOW rfl rfl hlu hB9 ?_)
      intro wv' w11 ho11 b11 hal11
      obtain ⟨f11,hr11,hc11,hw11⟩:=hgrow.out w11 wv' ho11 hal11
      replace ho11:=Hd ho11
      replace hr11:=Hd hr11
      replace hc11:=Hd hc11
      replace hw11:=Hd hw11
      clear hal11
      go_wp2
      go_roundg (par k)
      case measure=>exact p2
      case rel=>exact ⟨p,p::u,f11,wv',rfl,rfl,p3.out,hT2.out,hr11.out,b9.trans b11,hc11.out,hw11.out,by simp only [List.length_cons]; omega⟩
def OnLoop (adj:Nat→List Nat) (u:Nat):Prop:=∃ t∈adj u,Goes adj t u
def IsLive (n:Nat) (adj:Nat→List Nat) (v:Nat):Prop:=(∃ u,u<n∧OnLoop adj u∧Goes adj u v)∧∃ u,u<n∧OnLoop adj u∧Goes adj v u
structure LiveList (n:Nat) (adj:Nat→List Nat) (L:List Nat):Prop where
 sorted:L.Pairwise (·<·)
 mem:∀ v,v∈L↔v<n∧IsLive n adj v
theorem turned_adj {G H:List (List Int)} (h:TurnedOf G H) (hok:GraphOk G) {t v:Nat} (ht:t<G.length):v∈adjOf H t↔v<G.length∧t∈adjOf G v:=by
 unfold adjOf
 simp only [List.mem_map]
 constructor
 ·rintro ⟨y,hy,rfl⟩
  obtain ⟨x,rfl,hx,hm⟩:=(h.2.2 t ht y).1 hy
  exact ⟨by simpa using hx,(t:Int),by simpa using hm,by simp⟩
 ·rintro ⟨hv,y,hy,rfl⟩
  have:=hok v hv y hy
  exact ⟨(v:Int),(h.2.2 y.toNat ht v).2 ⟨v,rfl,hv,by rw [Int.toNat_of_nonneg this.1]; exact hy⟩,by simp⟩
theorem turned_ok {G H:List (List Int)} (h:TurnedOf G H):GraphOk H:=by
 intro t ht y hy
 rw [h.1] at ht ⊢
 obtain ⟨x,rfl,hx,_⟩:=(h.2.2 t ht y).1 hy
 omega
theorem goes_lt {G:List (List Int)} (hok:GraphOk G) {x y:Nat} (h:Goes (adjOf G) x y) (hx:x<G.length):y<G.length :=
 Goes.closed (P:=fun z=>z<G.length) (fun z hz t ht=>hok.lt z hz t ht) h hx
theorem turned_goes {G H:List (List Int)} (h:TurnedOf G H) (hok:GraphOk G) {x y:Nat} (hg:Goes (adjOf H) x y) (hx:x<G.length):Goes (adjOf G) y x:=by
 induction hg with
 | refl=>exact .refl _
 | @step y z hg hz ih =>
  have hy:y<G.length:=by have:=goes_lt (turned_ok h) hg (by rw [h.1]; exact hx); rwa [h.1] at this
  exact (Goes.one ((turned_adj h hok hy).1 hz).2).trans ih
theorem goes_turned {G H:List (List Int)} (h:TurnedOf G H) (hok:GraphOk G) {x y:Nat} (hg:Goes (adjOf G) x y) (hx:x<G.length):Goes (adjOf H) y x:=by
 induction hg with
 | refl=>exact .refl _
 | @step y z hg hz ih =>
  have hy:=goes_lt hok hg hx
  exact (Goes.one ((turned_adj h hok (hok.lt y hy z hz)).2 ⟨hy,hz⟩)).trans ih
theorem onLoop_parts {G:List (List Int)} (hok:GraphOk G) {ps:List Int} (hp:PartsOf G.length (adjOf G) ps) {x:Nat} (hx:x<G.length):OnLoop (adjOf G) x↔∃ t∈adjOf G x,ps.getD t 0=ps.getD x 0:=by
 constructor
 ·rintro ⟨t,ht,hg⟩
  exact ⟨t,ht,(hp.eq (hok.lt x hx t ht) hx).2 ⟨hg,.one ht⟩⟩
 ·rintro ⟨t,ht,he⟩
  exact ⟨t,ht,((hp.eq (hok.lt x hx t ht) hx).1 he).1⟩
def LivePost (r:Nat→Addr) (w:World) (G:List (List Int)) (x y:Value) (w':World):Prop :=
 ErrIs r w' (checkG G) y∧(checkG G=none→∃ L,LiveList G.length (adjOf G) L∧OwnI w.heap.size w' x (castI L))∧(checkG G≠none→x=.slice none 0 0)
def LoopTo (G:List (List Int)) (ps:List Int) (k j:Nat) (m:Nat→Bool):Prop :=
 ∀ x,x<G.length→(m x=true↔(x<k∧∃ t∈adjOf G x,ps.getD t 0=ps.getD x 0)∨(x=k∧∃ t∈(adjOf G k).take j,ps.getD t 0=ps.getD k 0))
theorem LoopTo.next {G:List (List Int)} {ps:List Int} {k:Nat} {m:Nat→Bool} (h:LoopTo G ps k (adjOf G k).length m):LoopTo G ps (k+1) 0 m:=by
 intro x hx
 rw [h x hx,List.take_length]
 constructor
 ·rintro (⟨a,b⟩ | ⟨rfl,b⟩)
  ·exact .inl ⟨by omega,b⟩
  ·exact .inl ⟨by omega,b⟩
 ·rintro (⟨a,b⟩ | ⟨_,t,ht,_⟩)
  ·by_cases e:x=k
   ·subst e; exact .inr ⟨rfl,b⟩
   ·exact .inl ⟨by omega,b⟩
  ·simp at ht
theorem LoopTo.add {G:List (List Int)} {ps:List Int} {k j t:Nat} {m:Nat→Bool} (h:LoopTo G ps k j m) (ht:(adjOf G k)[j]?=some t) (m':Nat→Bool)
 (hm:m'=if ps.getD t 0=ps.getD k 0 then updN m k true else m):LoopTo G ps k (j+1) m':=by
 intro x hx
 have htk:(adjOf G k).take (j+1)=(adjOf G k).take j++[t]:=by rw [List.take_add_one,ht]; rfl
 by_cases hp:ps.getD t 0=ps.getD k 0
 ·rw [if_pos hp] at hm
  subst hm
  by_cases e:x=k
  ·subst e
   rw [updN_same]
   exact ⟨fun _=>.inr ⟨rfl,t,by rw [htk]; simp,hp⟩,fun _=>rfl⟩
  ·rw [updN_other _ _ _ e,h x hx]
   exact ⟨fun q=>q.imp id (fun q=>absurd q.1 e),fun q=>q.imp id (fun q=>absurd q.1 e)⟩
 ·rw [if_neg hp] at hm
  subst hm
  rw [h x hx,htk]
  constructor
  ·rintro (q | ⟨e,s,hs,hq⟩)
   ·exact .inl q
   ·exact .inr ⟨e,s,List.mem_append_left _ hs,hq⟩
  ·rintro (q | ⟨e,s,hs,hq⟩)
   ·exact .inl q
   ·rcases List.mem_append.1 hs with hs | hs
    ·exact .inr ⟨e,s,hs,hq⟩
    ·cases List.mem_singleton.1 hs; exact absurd hq hp
theorem live_any (r:Nat→Addr) (na:Option Addr) (nc:Nat) (G:List (List Int)) (w:World) (hg:Glob r w) (h:ListsAt w (.slice na G.length nc) G) (hsz:∀ k,k<G.length→(G.getD k []).length≤17592186044416) :
 Calls Tryz.prog 122 #[.slice na G.length nc] w (Ret2 (LivePost r w G) w):=by
 have hP:=parts_any r na nc G w hg h hsz
 replace h:=Hd h
 replace hg:=Hd hg
 replace hsz:=Hd hsz
 cases hck:checkG G with
 | some t =>
  replace hck:=Hd hck
  go_enter Tryz.func122,Tryz.ntmps122
  go_wp2_with fail
  refine hP.mono ?_
  rintro e w1 ⟨x,y,rfl,b1,he,_,hx⟩
  rw [hck.out] at he hx
  obtain rfl:=hx (by simp)
  obtain ⟨T,a,rfl⟩:=he.some_shape
  replace he:=Hd he
  clear hx hP
  go_wp2
  go_ret2
  exact ⟨_,_,rfl,b1,⟨by rw [hck.out]; exact he.out,⟨fun q=>(by rw [hck.out] at q; cases q),fun _=>rfl⟩⟩⟩
 | none =>
  obtain ⟨hn,harr,hok⟩:=checkG_none hck
  replace hck:=Hd hck
  replace hok:=Hd hok
  go_enter Tryz.func122,Tryz.ntmps122
  go_wp2_with fail
  refine hP.mono ?_
  rintro e w1 ⟨pv,y,rfl,b1,he,hps0,_⟩
  rw [hck.out] at he hps0
  obtain rfl:=he.none_eq
  obtain ⟨ps,hps,hpo⟩:=hps0 rfl
  clear hps0
  have hpl:=hps.len
  obtain ⟨pa,pn,pc,rfl⟩:=hpo.at.shape
  have hp1:=hpo.at
  clear he hP hpo
  obtain ⟨lv,w2,mk,hl2,hb2⟩:=run_makeW oneBoolG (G.length:Int) G.length w1 rfl (by omega)
  have hz:tabB G.length (fun _=>false)=List.replicate G.length (.bool false):=by
   unfold tabB; apply List.ext_getElem<;>simp
  rw [← hz] at hl2
  obtain ⟨la,ln,lc,rfl⟩:=hl2.shape
  have hz0:LoopTo G ps 0 0 (fun _=>false):=by
   intro x hx
   simp
  replace hz0:=Hd hz0
  replace hz:=Hd hz
  replace hl2:=Hd hl2
  replace hp1:=Hd hp1
  replace hps:=Hd hps
  replace hpl:=Hd hpl
  go_wp2_with fail
  clear mk
  go_loopw [28] (fun kv wr=>∃ (k:Nat) (m:Nat→Bool),k≤G.length∧kv=.int .i64 k∧OwnV 4 w1.heap.size wr (.slice la ln lc) (tabB G.length m)∧Below w1.heap.size w1 wr∧LoopTo G ps k 0 m) (fun kv _=>G.length-(intOf kv).toNat)
  case atStart=>exact ⟨0,_,by omega,rfl,hl2.out,hb2,hz0.out⟩
  case round =>
   clear hl2
   obtain ⟨k,m,hk,rfl,hlo,b3,hm⟩:=hrel
   obtain ⟨wo,rfl⟩:∃ wo:World,wo=wr:=⟨_,rfl⟩
   by_cases hlt:k<G.length
   ·obtain ⟨mv,iR,cR0,hM0⟩:=h.out.row k hlt
    have hbw:Below w.heap.size w wo:=b1.trans (b3.mono b1.size)
    have cR:=(hbw.cell (World.block_lt_of_cell? _ _ cR0)).trans cR0
    have hM:=hM0.below hbw
    have hgp:=hok.out k hlt
    have hal:=adjOf_len G k
    have hag:∀ j (hj:j<(G.getD k []).length),(adjOf G k)[j]?=some ((G.getD k [])[j]).toNat:=fun j hj=>by
     show ((G.getD k []).map Int.toNat)[j]?=_
     rw [List.getElem?_map,List.getElem?_eq_getElem hj]; rfl
    have hglen:=hsz.out k hlt
    generalize G.getD k []=gk at *
    have lM:=hM.len
    generalize valAt (.slice na G.length nc) k=ra at *
    replace hm:=Hd hm
    replace hlo:=Hd hlo
    replace hM:=Hd hM
    replace hM0:=Hd hM0
    replace hgp:=Hd hgp
    replace hag:=Hd hag
    replace hal:=Hd hal
    go_wp2_with fail
    clear iR cR cR0 lM hbw
    go_loopw [35] (fun jv wr=>∃ (j:Nat) (m:Nat→Bool),j≤gk.length∧jv=.int .i64 j∧OwnV 4 w1.heap.size wr (.slice la ln lc) (tabB G.length m)∧Below w1.heap.size w1 wr∧LoopTo G ps k j m) (fun jv _=>gk.length-(intOf jv).toNat)
    case atStart=>exact ⟨0,m,by omega,rfl,hlo.out,b3,hm.out⟩
    case round =>
     clear hlo b3 hm hM
     obtain ⟨j,m,hj,rfl,hlo,b3,hm⟩:=hrel
     obtain ⟨wo,rfl⟩:∃ wo:World,wo=wr:=⟨_,rfl⟩
     by_cases hjl:j<gk.length
     ·have hMj:=hM0.out.below (b1.trans (b3.mono b1.size))
      have hgj:=hgp.out gk[j] (List.getElem_mem hjl)
      obtain ⟨t,hu⟩:∃ t:Nat,gk[j]=t:=Int.eq_ofNat_of_zero_le hgj.1
      have htn:t<G.length:=by rw [hu] at hgj; omega
      have hgd:gk.getD j 0=(t:Int):=by rw [List.getD_eq_getElem?_getD,List.getElem?_eq_getElem hjl,hu]; rfl
      have hta:(adjOf G k)[j]?=some t:=by rw [hag.out j hjl,hu]; rfl
      have iJ:=fun w'=>hMj.idx j hjl w'
      have cJ:=hMj.cellD j hjl
      rw [hgd] at cJ
      have hPt:=hp1.out.below b3
      have iT:=fun w'=>hPt.idx t (by rw [hpl.out]; exact htn) w'
      have cT:=hPt.cellD t (by rw [hpl.out]; exact htn)
      have iK:=fun w'=>hPt.idx k (by rw [hpl.out]; exact hlt) w'
      have cK:=hPt.cellD k (by rw [hpl.out]; exact hlt)
      have hadd:=hm.add hta
      have iL:=fun w'=>hlo.at.idx oneBoolG k (by rw [tabB_len]; exact hlt) w'
      have cL:=hlo.at.cellV k (by rw [tabB_len]; exact hlt)
      rw [tabB_get _ _ _ hlt] at cL
      have fL:=hlo.frz k (by rw [tabB_len]; exact hlt)
      have kL:=(hlo.blkB k (by rw [tabB_len]; exact hlt)).2
      have hset:=hlo.set k (by rw [tabB_len]; exact hlt) (.bool true)
      rw [tabB_upd] at hset
      generalize valAt mv j=ja at *
      generalize valAt (.slice pa pn pc) t=ta at *
      generalize valAt (.slice pa pn pc) k=ka at *
      generalize valAt (.slice la ln lc) k=qa at *
      obtain ⟨pt,hpt⟩:∃ pt,ps.getD t 0=pt:=⟨_,rfl⟩
      obtain ⟨pk,hpk⟩:∃ pk,ps.getD k 0=pk:=⟨_,rfl⟩
      rw [hpt] at cT hadd
      rw [hpk] at cK hadd
      generalize m k=mk at cL
      replace hm:=Hd hm
      replace hlo:=Hd hlo
      replace hset:=Hd hset
      replace hPt:=Hd hPt
      replace hMj:=Hd hMj
      replace hpt:=Hd hpt
      replace hpk:=Hd hpk
      replace hgd:=Hd hgd
      replace hgj:=Hd hgj
      replace hu:=Hd hu
      replace hta:=Hd hta
      by_cases he:pt=pk
      ·have hq:(pt==pk)=true:=by simp [he]
       have hn2:=hadd _ (if_pos he).symm
       replace hn2:=Hd hn2
       replace he:=Hd he
       clear hadd
       go_upto_region 11 with fail
       go_quiet (fail)
       go_wp2
       go_roundw
       case measure=>simp [intOf]; omega
       case rel =>
        refine ⟨j+1,_,by omega,by go_num,?_,?_,hn2.out⟩
        ·exact hset.out
        ·exact (below_drewN b3 nq).setCell kL _
      ·have hq:(pt==pk)=false:=by simp [he]
       have hn2:=hadd _ (if_neg he).symm
       replace hn2:=Hd hn2
       replace he:=Hd he
       clear hadd
       go_upto_region 11 with fail
       go_quiet (fail)
       go_wp2
       go_roundw
       case measure=>simp [intOf]; omega
       case rel=>exact ⟨j+1,m,by omega,by go_num,hlo.out,b3.trans ⟨rfl,rfl,rfl,Nat.le_refl _,fun _ _=>rfl⟩,hn2.out⟩
     ·obtain rfl:j=gk.length:=by omega
      have hnext:=(hal.out▸hm:LoopTo G ps k (adjOf G k).length m).next
      replace hnext:=Hd hnext
      replace hm:=Hd hm
      replace hlo:=Hd hlo
      go_wp2
      go_roundw
      case measure=>simp [intOf]; omega
      case rel=>exact ⟨k+1,m,by omega,by go_num,hlo.out,b3,hnext.out⟩
   ·obtain rfl:k=G.length:=by omega
    have hbw:Below w.heap.size w wo:=b1.trans (b3.mono b1.size)
    have hR1:=reach_any na nc G (.slice la ln lc) m wo (h.out.below hbw) hok.out (by omega) hlo.at
    have hon:∀ x,x<G.length→(m x=true↔OnLoop (adjOf G) x):=fun x hx=>by
     rw [hm x hx,onLoop_parts hok.out hps.out hx]
     constructor
     ·rintro (⟨_,q⟩ | ⟨e,_⟩)
      ·exact q
      ·omega
     ·intro q; exact .inl ⟨hx,q⟩
    replace hm:=Hd hm
    replace hon:=Hd hon
    replace hR1:=Hd hR1
    have hlo':=Hd hlo
    clear hlo
    go_wp2_with fail
    refine hR1.out.mono ?_
    rintro e w4 ⟨bv,rfl,b4,bm,hbo,hbm⟩
    have hb4:=Below.step hbw b4
    have hBk:=graph_back na nc G w4 (h.out.below hb4) hok.out (by omega) harr
    replace hBk:=Hd hBk
    go_wp2_with fail
    refine hBk.out.mono ?_
    rintro e w5 ⟨hv,rfl,b5,H,hT,hHl⟩
    obtain ⟨ha,hc,rfl⟩:=hHl.shape
    have hHn:=hT.1
    have hR2:=reach_any ha hc H (.slice la ln lc) m w5 hHl (turned_ok hT) (by omega) (by rw [hHn]; exact (hlo'.out.at.below b4).below b5)
    replace hR2:=Hd hR2
    replace hHn:=Hd hHn
    replace hT:=Hd hT
    replace hHl:=Hd hHl
    go_wp2_with fail
    refine hR2.out.mono ?_
    rintro e w6 ⟨av,rfl,b6,am,hao,ham⟩
    rw [hHn.out] at hao ham
    have hboth:∀ x,x<G.length→((bm x&&am x)=true↔IsLive G.length (adjOf G) x):=fun x hx=>by
     rw [Bool.and_eq_true,hbm x hx,ham x hx]
     unfold IsLive
     constructor
     ·rintro ⟨⟨u,hu,h1,h2⟩,v,hv,h3,h4⟩
      exact ⟨⟨u,hu,(hon.out u hu).1 h1,h2⟩,v,hv,(hon.out v hv).1 h3,turned_goes hT.out hok.out h4 hv⟩
     ·rintro ⟨⟨u,hu,h1,h2⟩,v,hv,h3,h4⟩
      exact ⟨⟨u,hu,(hon.out u hu).2 h1,h2⟩,v,hv,(hon.out v hv).2 h3,goes_turned hT.out hok.out h4 hx⟩
    have hbv:=hbo.at.below (Below.step b5 b6)
    have hav:=hao.at
    have hw6:=Below.step hb4 (Below.step b5 b6)
    replace hboth:=Hd hboth
    replace hbm:=Hd hbm
    replace ham:=Hd ham
    replace hbv:=Hd hbv
    replace hav:=Hd hav
    replace hbo:=Hd hbo
    replace hao:=Hd hao
    clear hR1 hR2 hBk
    go_wp2_with fail
    go_loopw [13,62] (fun qv kv wr=>∃ (k:Nat) (L:List Nat) (qw:Value),qw=qv∧kv=.int .i64 k∧k≤G.length∧L.length≤k∧OwnI w6.heap.size wr qw (castI L)∧Below w6.heap.size w6 wr∧L.Pairwise (·<·)∧∀ v,v∈L↔(v<k∧(bm v&&am v)=true)) (fun _ kv _=>G.length-(intOf kv).toNat)
    case atStart=>exact ⟨0,[],_,rfl,rfl,by omega,by simp,OwnI.nil _ _,Below.refl _ _,List.Pairwise.nil,fun v=>⟨fun q=>(by cases q),fun q=>by omega⟩⟩
    case round =>
     obtain ⟨k,L,qv,rfl,rfl,hk,hLk,hLo,b7,hLs,hLm⟩:=hrel
     obtain ⟨wo,rfl⟩:∃ wo:World,wo=wr:=⟨_,rfl⟩
     by_cases hlt:k<G.length
     ·have hB:=hbv.out.below b7
      have hA:=hav.out.below b7
      have iB:=fun w'=>hB.idx oneBoolG k (by rw [tabB_len]; exact hlt) w'
      have cB:=hB.cellV k (by rw [tabB_len]; exact hlt)
      rw [tabB_get _ _ _ hlt] at cB
      have iA:=fun w'=>hA.idx oneBoolG k (by rw [tabB_len]; exact hlt) w'
      have cA:=hA.cellV k (by rw [tabB_len]; exact hlt)
      rw [tabB_get _ _ _ hlt] at cA
      generalize valAt bv k=qb at *
      generalize valAt av k=qa at *
      have hyes:(bm k&&am k)=true→∀ v,v∈L++[k]↔(v<k+1∧(bm v&&am v)=true):=fun hq v=>by
       rw [List.mem_append,hLm v,List.mem_singleton]
       constructor
       ·rintro (⟨a,b⟩ | rfl)
        ·exact ⟨by omega,b⟩
        ·exact ⟨by omega,hq⟩
       ·rintro ⟨a,b⟩
        by_cases e:v=k
        ·exact .inr e
        ·exact .inl ⟨by omega,b⟩
      have hno:(bm k&&am k)=false→∀ v,v∈L↔(v<k+1∧(bm v&&am v)=true):=fun hq v=>by
       rw [hLm v]
       constructor
       ·rintro ⟨a,b⟩; exact ⟨by omega,b⟩
       ·rintro ⟨a,b⟩
        by_cases e:v=k
        ·subst e; rw [hq] at b; cases b
        ·exact ⟨by omega,b⟩
      have hsrt2:(L++[k]).Pairwise (·<·):=by
       rw [List.pairwise_append]
       refine ⟨hLs,List.pairwise_singleton _ _,fun x hx y hy=>?_⟩
       cases List.mem_singleton.1 hy
       exact ((hLm x).1 hx).1
      obtain ⟨bk,hbk⟩:∃ bk,bm k=bk:=⟨_,rfl⟩
      obtain ⟨ak,hak⟩:∃ ak,am k=ak:=⟨_,rfl⟩
      rw [hbk] at cB hyes hno
      rw [hak] at cA hyes hno
      replace hB:=Hd hB
      replace hA:=Hd hA
      replace hLm:=Hd hLm
      replace hLs:=Hd hLs
      replace hsrt2:=Hd hsrt2
      replace hbk:=Hd hbk
      replace hak:=Hd hak
      cases bk with
      | false =>
       have hn:=hno rfl
       replace hn:=Hd hn
       replace hLo:=Hd hLo
       clear hyes hno
       go_wp2
       go_roundw
       case measure=>simp [intOf]; omega
       case rel=>exact ⟨k+1,L,qv,rfl,by go_num,by omega,by omega,hLo.out,b7,hLs.out,hn.out⟩
      | true =>
       cases ak with
       | false =>
        have hn:=hno rfl
        replace hn:=Hd hn
        replace hLo:=Hd hLo
        clear hyes hno
        go_wp2
        go_roundw
        case measure=>simp [intOf]; omega
        case rel=>exact ⟨k+1,L,qv,rfl,by go_num,by omega,by omega,hLo.out,b7,hLs.out,hn.out⟩
       | true =>
        have hy:=hyes rfl
        replace hy:=Hd hy
        clear hyes hno
        have hB7:w6.heap.size≤wo.heap.size:=b7.size
        go_wp2_with (at_builtin; refine wpl_app1 rfl _ _ rfl w6.heap.size qv (castI L) k hLo rfl rfl (by rw [castI_len]; omega) hB7 ?_)
        intro qv' w8 ho8 b8 hal8
        replace ho8:=Hd ho8
        clear hal8 hLo
        go_wp2
        go_roundw
        case measure=>simp [intOf]; omega
        case rel=>exact ⟨k+1,L++[k],qv',rfl,by go_num,by omega,by rw [List.length_append]; simp only [List.length_cons,List.length_nil]; omega,by rw [castI_snoc]; exact ho8.out,b7.trans b8,hsrt2.out,hy.out⟩
     ·obtain rfl:k=G.length:=by omega
      have hLL:LiveList G.length (adjOf G) L:=⟨hLs,fun v=>by
       rw [hLm v]
       constructor
       ·rintro ⟨a,b⟩; exact ⟨a,(hboth.out v a).1 b⟩
       ·rintro ⟨a,b⟩; exact ⟨a,(hboth.out v a).2 b⟩⟩
      obtain ⟨qa,qn,qc,rfl⟩:=hLo.at.shape
      replace hLL:=Hd hLL
      replace hLo:=Hd hLo
      replace hLm:=Hd hLm
      replace hLs:=Hd hLs
      go_wp2
      go_ret2
      exact ⟨_,_,rfl,Below.step hw6 b7,⟨by rw [hck.out]; rfl,⟨fun _=>⟨L,hLL.out,hLo.out.mono hw6.size⟩,fun q=>absurd hck.out q⟩⟩⟩
end Go.Proofs.YtncpnaoabkjegaaGreatDoor
namespace Go.Proofs.YtncpnaoabkjegaaGreatDoor
open Go.RowKit
set_option maxRecDepth 100000
theorem oddTo_miss {G:List (List Int)} {k:Nat} (hk:oddTo G k<0) (h:∀ t∈G.getD k [],oddT G.length t=false):oddTo G (k+1)<0:=by
 simp only [oddTo]
 rw [if_pos hk]
 rcases idxOf_cases (oddT G.length) (G.getD k []) with ⟨q,_⟩ | ⟨i,_,q1,q2⟩
 ·rw [if_neg (by omega)]; exact hk
 ·exfalso
  simp_all
end Go.Proofs.YtncpnaoabkjegaaGreatDoor
namespace Go.Proofs.YtncpnaoabkjegaaGreatDoor
def FarOf (n:Nat) (adj:Nat→List Nat) (s:Nat) (D:Nat→Int):Prop :=
 ∀ t,t<n→(D t=-1∧¬ Goes adj s t)∨∃ w,Way adj s t w∧(w.length:Int)=D t+1∧∀ u,Way adj s t u→w.length≤u.length
def ToOf (n:Nat) (adj:Nat→List Nat) (s:Nat) (D:Nat→Int):Prop :=
 ∀ t,t<n→(D t=-1∧¬ Goes adj t s)∨∃ w,Way adj t s w∧(w.length:Int)=D t+1∧∀ u,Way adj t s u→w.length≤u.length
theorem ToOf.low {n:Nat} {adj:Nat→List Nat} {s:Nat} {D:Nat→Int} (h:ToOf n adj s D) {t:Nat} (ht:t<n):-1≤D t:=by
 rcases h t ht with ⟨h1,_⟩ | ⟨w,h1,h2,_⟩
 ·omega
 ·have:=h1.pos; omega
theorem ToOf.pos {n:Nat} {adj:Nat→List Nat} {s:Nat} {D:Nat→Int} (h:ToOf n adj s D) {t:Nat} (ht:t<n):0≤D t↔Goes adj t s:=by
 rcases h t ht with ⟨h1,h2⟩ | ⟨w,h1,h2,_⟩
 ·exact ⟨fun q=>by omega,fun q=>absurd q h2⟩
 ·exact ⟨fun _=>h1.goes,fun _=>by have:=h1.pos; omega⟩
theorem ToOf.le {n:Nat} {adj:Nat→List Nat} {s:Nat} {D:Nat→Int} (h:ToOf n adj s D) {t:Nat} (ht:t<n) {u:List Nat} (hu:Way adj t s u):0≤D t∧D t+1≤u.length:=by
 rcases h t ht with ⟨_,h2⟩ | ⟨w,h1,h2,h3⟩
 ·exact absurd hu.goes h2
 ·have:=h1.pos; have:=h3 u hu; omega
theorem ToOf.first {n:Nat} {adj:Nat→List Nat} {s:Nat} {D:Nat→Int} (h:ToOf n adj s D) {t:Nat} (ht:t<n) {u:List Nat} (hu:IsFirst adj t s u):(u.length:Int)=D t+1:=by
 rcases h t ht with ⟨_,h2⟩ | ⟨w,h1,h2,h3⟩
 ·exact absurd hu.way.goes h2
 ·have:=h3 u hu.way; have:=hu.short w h1; omega
theorem FarOf.pos {n:Nat} {adj:Nat→List Nat} {s:Nat} {D:Nat→Int} (h:FarOf n adj s D) {t:Nat} (ht:t<n):0≤D t↔Goes adj s t:=by
 rcases h t ht with ⟨h1,h2⟩ | ⟨w,h1,h2,_⟩
 ·exact ⟨fun q=>by omega,fun q=>absurd q h2⟩
 ·exact ⟨fun _=>h1.goes,fun _=>by have:=h1.pos; omega⟩
structure FBase (adj:Nat→List Nat) (s:Nat) (D:Nat→Int) (q:List Nat) (b i:Nat):Prop where
 hd:q[0]?=some s
 nodup:q.Nodup
 there:∀ x,0≤D x↔x∈q
 low:∀ x,-1≤D x
 d0:D s=0
 sound:∀ x∈q,∃ w,Way adj s x w∧(w.length:Int)=D x+1
 par:∀ x∈q,x=s∨∃ p y,p<b∧q[p]?=some y∧D x=D y+1
 mono:∀ (j k x y:Nat),j≤k→q[j]?=some x→q[k]?=some y→D x≤D y
 closed:∀ p x,p<i→q[p]?=some x→∀ t∈adj x,0≤D t∧D t≤D x+1
structure FIn (adj:Nat→List Nat) (s:Nat) (D:Nat→Int) (q:List Nat) (i v:Nat) (l:List Nat):Prop where
 base:FBase adj s D q (i+1) i
 cur:q[i]?=some v
 sub:∀ t∈l,t∈adj v
 seen:∀ t∈adj v,t∈l∨(0≤D t∧D t≤D v+1)
section
variable {adj:Nat→List Nat} {s:Nat} {D:Nat→Int} {q:List Nat} {i v b:Nat} {l:List Nat}
theorem FBase.init (adj:Nat→List Nat) (s:Nat):FBase adj s (updN (fun _=>(-1:Int)) s 0) [s] 0 0:=by
 have hg:∀ j x,[s][j]?=some x→j=0∧x=s:=fun j x hx=>by
  cases j with
  | zero=>simp at hx; exact ⟨rfl,hx.symm⟩
  | succ j=>simp at hx
 refine ⟨rfl,by simp,fun x=>?_,fun x=>?_,updN_same _ _ _,fun x hx=>?_,fun x hx=>?_,fun j k x y _ hx hy=>?_,fun p x hp=>by omega⟩
 ·by_cases e:x=s
  ·subst e; rw [updN_same]; simp
  ·rw [updN_other _ _ _ e]; simp [e]
 ·by_cases e:x=s
  ·subst e; rw [updN_same]; omega
  ·rw [updN_other _ _ _ e]; omega
 ·cases List.mem_singleton.1 hx; exact ⟨_,.one _,by rw [updN_same]; simp⟩
 ·exact .inl (List.mem_singleton.1 hx)
 ·rw [(hg j x hx).2,(hg k y hy).2]; exact Int.le_refl _
theorem FBase.enter (h:FBase adj s D q i i) (hv:q[i]?=some v):FIn adj s D q i v (adj v) :=
 ⟨⟨h.hd,h.nodup,h.there,h.low,h.d0,h.sound,fun x hx=>(h.par x hx).imp id (fun ⟨p,y,h1,h2⟩=>⟨p,y,by omega,h2⟩),h.mono,h.closed⟩,hv,fun t ht=>ht,fun t ht=>.inl ht⟩
theorem FIn.leave (h:FIn adj s D q i v []):FBase adj s D q (i+1) (i+1):=by
 refine ⟨h.base.hd,h.base.nodup,h.base.there,h.base.low,h.base.d0,h.base.sound,h.base.par,h.base.mono,fun p x hp hx t ht=>?_⟩
 by_cases e:p=i
 ·subst e
  rw [h.cur] at hx; cases hx
  exact (h.seen t ht).resolve_left (by simp)
 ·exact h.base.closed p x (by omega) hx t ht
theorem FIn.top (h:FIn adj s D q i v l):∀ x∈q,D x≤D v+1:=by
 intro x hx
 have hv0:=(h.base.there v).2 (List.mem_of_getElem? h.cur)
 rcases h.base.par x hx with rfl | ⟨p,y,h1,h2,h3⟩
 ·have:=h.base.d0; omega
 ·have:=h.base.mono p i y v (by omega) h2 h.cur; omega
theorem FIn.old {t:Nat} (h:FIn adj s D q i v (t::l)) (ht:0≤D t):FIn adj s D q i v l:=by
 refine ⟨h.base,h.cur,fun x hx=>h.sub x (List.mem_cons_of_mem _ hx),fun x hx=>?_⟩
 rcases h.seen x hx with q1 | q1
 ·rcases List.mem_cons.1 q1 with e | e
  ·subst e; exact .inr ⟨ht,h.top x ((h.base.there x).1 ht)⟩
  ·exact .inl e
 ·exact .inr q1
theorem FIn.add {t:Nat} (h:FIn adj s D q i v (t::l)) (ht:D t<0):FIn adj s (updN D t (D v+1)) (q++[t]) i v l:=by
 have hB:=h.base
 have htq:t∉q:=fun hm=>by have:=(hB.there t).2 hm; omega
 have hil:=get_of h.cur
 have hvq:=List.mem_of_getElem? h.cur
 have hv0:=(hB.there v).2 hvq
 have hga:∀ j x,(q++[t])[j]?=some x→q[j]?=some x∧j<q.length∧x≠t∨j=q.length∧x=t:=fun j x hx=>by
  by_cases e:j<q.length
  ·rw [List.getElem?_append_left e] at hx
   exact .inl ⟨hx,e,fun e2=>htq (by rw [← e2]; exact List.mem_of_getElem? hx)⟩
  ·rw [List.getElem?_append_right (by omega)] at hx
   by_cases e2:j=q.length
   ·rw [e2] at hx; simp at hx; exact .inr ⟨e2,hx.symm⟩
   ·rw [List.getElem?_eq_none (by simp; omega)] at hx; cases hx
 have hgo:∀ {j x},q[j]?=some x→(q++[t])[j]?=some x:=fun {j x} hx=>by rw [List.getElem?_append_left (get_of hx)]; exact hx
 have hne:∀ x,x∈q→x≠t:=fun x hx e=>htq (by rw [← e]; exact hx)
 have dq:∀ x,x∈q→updN D t (D v+1) x=D x:=fun x hx=>updN_other _ _ _ (hne x hx)
 have hsq:s∈q:=List.mem_of_getElem? hB.hd
 have htop:=h.top
 refine ⟨⟨hgo hB.hd,?_,fun x=>?_,fun x=>?_,?_,fun x hx=>?_,fun x hx=>?_,fun j k x y hjk hx hy=>?_,fun p x hp hx t' ht'=>?_⟩,hgo h.cur,fun x hx=>h.sub x (List.mem_cons_of_mem _ hx),fun x hx=>?_⟩
 ·exact List.nodup_append.2 ⟨hB.nodup,by simp,fun x hx y hy=>by cases List.mem_singleton.1 hy; exact hne x hx⟩
 ·by_cases e:x=t
  ·subst e; rw [updN_same]; simp; omega
  ·rw [updN_other _ _ _ e,hB.there]; simp [e]
 ·by_cases e:x=t
  ·subst e; rw [updN_same]; omega
  ·rw [updN_other _ _ _ e]; exact hB.low x
 ·rw [dq s hsq]; exact hB.d0
 ·rcases List.mem_append.1 hx with hx | hx
  ·rw [dq x hx]; exact hB.sound x hx
  ·cases List.mem_singleton.1 hx
   obtain ⟨w,h1,h2⟩:=hB.sound v hvq
   refine ⟨w++[t],h1.snoc (h.sub _ List.mem_cons_self),?_⟩
   rw [updN_same,List.length_append,List.length_singleton]; omega
 ·rcases List.mem_append.1 hx with hx | hx
  ·rcases hB.par x hx with e | ⟨p,y,h1,h2,h3⟩
   ·exact .inl e
   ·exact .inr ⟨p,y,h1,hgo h2,by rw [dq x hx,dq y (List.mem_of_getElem? h2)]; exact h3⟩
  ·cases List.mem_singleton.1 hx
   exact .inr ⟨i,v,by omega,hgo h.cur,by rw [updN_same,dq v hvq]⟩
 ·rcases hga k y hy with ⟨k1,k2,k3⟩ | ⟨rfl,rfl⟩
  ·rcases hga j x hx with ⟨h1,h2,h3⟩ | ⟨rfl,rfl⟩
   ·rw [dq x (List.mem_of_getElem? h1),dq y (List.mem_of_getElem? k1)]; exact hB.mono j k x y hjk h1 k1
   ·omega
  ·rcases hga j x hx with ⟨h1,h2,h3⟩ | ⟨h1,rfl⟩
   ·rw [dq x (List.mem_of_getElem? h1),updN_same]; exact htop x (List.mem_of_getElem? h1)
   ·exact Int.le_refl _
 ·rcases hga p x hx with ⟨h1,h2,h3⟩ | ⟨h1,rfl⟩
  ·have:=hB.closed p x hp h1 t' ht'
   have e:t'≠t:=fun e=>by subst e; omega
   rw [updN_other _ _ _ e,dq x (List.mem_of_getElem? h1)]
   exact this
  ·omega
 ·by_cases e:x=t
  ·subst e; right; rw [updN_same,dq v hvq]; omega
  ·rcases h.seen x hx with q1 | q1
   ·exact .inl ((List.mem_cons.1 q1).resolve_left e)
   ·right; rw [updN_other _ _ _ e,dq v hvq]; exact q1
theorem FBase.far (h:FBase adj s D q b i) (hi:q.length≤i) {x y:Nat} {u:List Nat} (hu:Way adj x y u) (hx:x∈q):y∈q∧D y+1≤D x+u.length:=by
 induction hu with
 | one=>exact ⟨hx,by simp⟩
 | @cons x t y w ht hu ih =>
  obtain ⟨j,hj⟩:=List.mem_iff_getElem?.1 hx
  have:=h.closed j x (by have:=get_of hj; omega) hj t ht
  have:=ih ((h.there t).1 this.1)
  exact ⟨this.1,by simp only [List.length_cons]; omega⟩
end
theorem step_first {n:Nat} {adj:Nat→List Nat} {s:Nat} {D:Nat→Int} (h:ToOf n adj s D) (hlt:∀ v,v<n→∀ t∈adj v,t<n) {v best:Nat} (hv:v<n)
 (hb:best∈adj v) (hd:D best=D v-1) (h0:0≤D best) (hm:∀ t∈adj v,D t=D v-1→best≤t) {u:List Nat} (hu:IsFirst adj best s u):IsFirst adj v s (v::u):=by
 have hbn:=hlt v hv best hb
 have hul:=h.first hbn hu
 refine ⟨.cons hb hu.way,fun x hx=>?_,fun x hx hl=>?_⟩
 ·have:=h.le hv hx
  simp only [List.length_cons]; omega
 ·cases hx with
  | one=>simp only [List.length_cons,List.length_nil] at hl; have:=hu.way.pos; omega
  | @cons _ t _ x' ht hx' =>
   have htn:=hlt v hv t ht
   have h1:=h.le htn hx'
   have h2:=h.le hv (.cons ht hx')
   simp only [List.length_cons] at hl h2
   have hdt:D t=D v-1:=by
    rcases h t htn with ⟨_,q⟩ | ⟨w,w1,w2,w3⟩
    ·exact absurd hx'.goes q
    ·have:=h.le hv (.cons ht w1)
     simp only [List.length_cons] at this
     omega
   have hbt:=hm t ht hdt
   refine .inr ⟨rfl,?_⟩
   by_cases e:best=t
   ·subst e; exact hu.least x' hx' (by omega)
   ·obtain ⟨_,rfl⟩:=hx'.ne
    obtain ⟨_,rfl⟩:=hu.way.ne
    exact .inl (by omega)
theorem ToOf.next {n:Nat} {adj:Nat→List Nat} {s:Nat} {D:Nat→Int} (h:ToOf n adj s D) (hlt:∀ v,v<n→∀ t∈adj v,t<n) {v:Nat} (hv:v<n) (hne:v≠s) (h0:0≤D v):1≤D v∧∃ t∈adj v,D t=D v-1:=by
 rcases h v hv with ⟨q,_⟩ | ⟨w,w1,w2,w3⟩
 ·omega
 ·cases w1 with
  | one=>exact absurd rfl hne
  | @cons _ t _ w' ht hw =>
   have htn:=hlt v hv t ht
   have:=hw.pos
   simp only [List.length_cons] at w2 w3
   refine ⟨by omega,t,ht,?_⟩
   rcases h t htn with ⟨_,q⟩ | ⟨x,x1,x2,x3⟩
   ·exact absurd hw.goes q
   ·have:=x3 w' hw
    have:=w3 _ (.cons ht x1)
    simp only [List.length_cons] at this
    omega
def sumN (F:Nat→Nat):Nat→Nat
 | 0=>0
 | n+1=>sumN F n+F n
theorem sumN_congr {F F':Nat→Nat}:∀ {n},(∀ v,v<n→F v=F' v)→sumN F n=sumN F' n
 | 0,_=>rfl
 | n+1,h=>by
  show sumN F n+F n=sumN F' n+F' n
  rw [sumN_congr (n:=n) (fun v hv=>h v (by omega)),h n (by omega)]
theorem sumN_pos {F:Nat→Nat}:∀ {n},0<sumN F n↔∃ v,v<n∧0<F v
 | 0=>by simp [sumN]
 | n+1=>by
  show 0<sumN F n+F n↔_
  constructor
  ·intro h
   by_cases e:0<sumN F n
   ·obtain ⟨v,h1,h2⟩:=sumN_pos.1 e; exact ⟨v,by omega,h2⟩
   ·exact ⟨n,by omega,by omega⟩
  ·rintro ⟨v,h1,h2⟩
   by_cases e:v=n
   ·subst e; omega
   ·have:=sumN_pos.2 ⟨v,show v<n by omega,h2⟩; omega
theorem sumN_upd {F F':Nat→Nat} {v:Nat} (h:∀ u,u≠v→F' u=F u):∀ {n},v<n→sumN F' n+F v=sumN F n+F' v
 | 0,q=>by omega
 | n+1,q=>by
  show sumN F' n+F' n+F v=sumN F n+F n+F' v
  by_cases e:v=n
  ·subst e
   rw [sumN_congr (n:=v) (fun u hu=>h u (by omega))]; omega
  ·have:=sumN_upd h (n:=n) (by omega)
   rw [h n (fun q=>e q.symm)]; omega
theorem sumN_zero:∀ n,sumN (fun _=>0) n=0
 | 0=>rfl
 | n+1=>by show sumN _ n+0=0; rw [sumN_zero n]
theorem sumN_add (F F':Nat→Nat):∀ n,sumN (fun v=>F v+F' v) n=sumN F n+sumN F' n
 | 0=>rfl
 | n+1=>by show sumN _ n+(F n+F' n)=sumN F n+F n+(sumN F' n+F' n); rw [sumN_add F F' n]; omega
theorem sumN_one (x:Nat):∀ n,sumN (fun v=>if v=x then 1 else 0) n=if x<n then 1 else 0
 | 0=>rfl
 | n+1=>by
  show sumN _ n+(if n=x then 1 else 0)=_
  rw [sumN_one x n]
  by_cases e:n=x
  ·subst e; simp
  ·rw [if_neg e]
   by_cases q:x<n
   ·rw [if_pos q,if_pos (by omega)]
   ·rw [if_neg q,if_neg (by omega)]
theorem length_counts (n:Nat):∀ (l:List Nat),(∀ x∈l,x<n)→l.length=sumN (fun v=>l.count v) n
 | [],_=>by simp [sumN_zero]
 | x::l,h=>by
  have ih:=length_counts n l (fun y hy=>h y (List.mem_cons_of_mem _ hy))
  have e:(fun v=>(x::l).count v)=fun v=>l.count v+if v=x then 1 else 0:=by
   funext v
   rw [List.count_cons]
   by_cases q:x=v
   ·simp [q]
   ·rw [if_neg (by simpa using q),if_neg (fun r=>q r.symm)]
  rw [e,sumN_add,sumN_one,if_pos (h x List.mem_cons_self),← ih,List.length_cons]
def Deg (n:Nat) (A:Nat→List Nat) (c inn:Nat→Nat):Prop:=∀ t,t<n→inn t=sumN (fun v=>((A v).drop (c v)).count t) n
theorem Deg.init {n:Nat} {A B:Nat→List Nat} (hB:∀ t,t<n→∀ x∈B t,x<n) (hc:∀ v t,v<n→t<n→(B t).count v=(A v).count t):Deg n A (fun _=>0) (fun t=>(B t).length):=by
 intro t ht
 show (B t).length=_
 rw [length_counts n _ (hB t ht)]
 exact sumN_congr fun v hv=>by rw [hc v t hv ht,List.drop_zero]
theorem Deg.step {n:Nat} {A:Nat→List Nat} {c inn:Nat→Nat} {v j t:Nat} (h:Deg n A c inn) (hv:v<n) (hj:c v=j) (ht:(A v)[j]?=some t) (htn:t<n) :
 0<inn t∧Deg n A (updN c v (j+1)) (updN inn t (inn t-1)):=by
 have hjl:j<(A v).length:=get_of ht
 have hd:(A v).drop j=t::(A v).drop (j+1):=by
  rw [List.drop_eq_getElem_cons hjl]
  rw [List.getElem?_eq_getElem hjl] at ht; injection ht with ht; rw [ht]
 have key:∀ x,sumN (fun u=>((A u).drop (updN c v (j+1) u)).count x) n+(if x=t then 1 else 0)=sumN (fun u=>((A u).drop (c u)).count x) n:=by
  intro x
  have:=sumN_upd (F:=fun u=>((A u).drop (c u)).count x) (F':=fun u=>((A u).drop (updN c v (j+1) u)).count x) (v:=v) (fun u hu=>by simp only [updN_other _ _ _ hu]) hv
  simp only [updN_same,hj,hd,List.count_cons] at this
  by_cases e:x=t
  ·subst e; rw [if_pos rfl]; simp at this; omega
  ·rw [if_neg e]
   have e2:(t==x)=false:=by simpa using fun q=>e q.symm
   rw [e2] at this; simp at this; omega
 have h1:=key t
 rw [if_pos rfl,← h t htn] at h1
 refine ⟨by omega,fun x hx=>?_⟩
 have h2:=key x
 by_cases e:x=t
 ·subst e; rw [updN_same]; omega
 ·rw [updN_other _ _ _ e,h x hx]; rw [if_neg e] at h2; omega
structure Peel (n:Nat) (A B:Nat→List Nat) (inn out:Nat→Nat) (c d:Nat→Nat) (gone:Nat→Bool) (q:List Nat) (lives:Nat→Prop):Prop where
 deg1:Deg n A c inn
 deg2:Deg n B d out
 nodup:q.Nodup
 goneq:∀ x,gone x=true↔x∈q
 low:∀ x∈q,x<n
 fresh:∀ v,v∉q→c v=0∧d v=0
 keep:∀ t,t<n→lives t→gone t=false
structure LiveSet (n:Nat) (A B:Nat→List Nat) (lives:Nat→Prop):Prop where
 behind:∀ t,t<n→lives t→∃ p,p<n∧lives p∧t∈A p
 ahead:∀ t,t<n→lives t→∃ p,p<n∧lives p∧t∈B p
section
variable {n:Nat} {A B:Nat→List Nat} {inn out c d:Nat→Nat} {gone:Nat→Bool} {q:List Nat} {lives:Nat→Prop}
theorem Peel.live_in (h:Peel n A B inn out c d gone q lives) (hL:LiveSet n A B lives) {t:Nat} (ht:t<n) (hl:lives t):0<inn t∧0<out t:=by
 have aux:∀ p,p<n→lives p→c p=0∧d p=0:=fun p hp hlp=>h.fresh p (fun q=>by have:=(h.goneq p).2 q; rw [h.keep p hp hlp] at this; cases this)
 refine ⟨?_,?_⟩
 ·obtain ⟨p,hp,hlp,hm⟩:=hL.behind t ht hl
  rw [h.deg1 t ht]
  refine sumN_pos.2 ⟨p,hp,?_⟩
  rw [(aux p hp hlp).1,List.drop_zero]
  exact List.count_pos_iff.2 hm
 ·obtain ⟨p,hp,hlp,hm⟩:=hL.ahead t ht hl
  rw [h.deg2 t ht]
  refine sumN_pos.2 ⟨p,hp,?_⟩
  rw [(aux p hp hlp).2,List.drop_zero]
  exact List.count_pos_iff.2 hm
theorem Peel.goes (h:Peel n A B inn out c d gone q lives) (hL:LiveSet n A B lives) {t:Nat} (ht:t<n) (hg:gone t=false) (h0:inn t=0∨out t=0):Peel n A B inn out c d (updN gone t true) (q++[t]) lives:=by
 have htq:t∉q:=fun r=>by have:=(h.goneq t).2 r; rw [hg] at this; cases this
 refine ⟨h.deg1,h.deg2,?_,fun x=>?_,fun x hx=>?_,fun v hv=>h.fresh v (fun r=>hv (List.mem_append_left _ r)),fun x hx hl=>?_⟩
 ·exact List.nodup_append.2 ⟨h.nodup,by simp,fun x hx y hy e=>by cases List.mem_singleton.1 hy; subst e; exact htq hx⟩
 ·by_cases e:x=t
  ·subst e; rw [updN_same]; simp
  ·rw [updN_other _ _ _ e,h.goneq]; simp [e]
 ·rcases List.mem_append.1 hx with hx | hx
  ·exact h.low x hx
  ·cases List.mem_singleton.1 hx; exact ht
 ·by_cases e:x=t
  ·subst e
   have:=h.live_in hL hx hl; omega
  ·rw [updN_other _ _ _ e]; exact h.keep x hx hl
theorem Peel.arrow1 (h:Peel n A B inn out c d gone q lives) {v j t:Nat} (hv:v∈q) (hj:c v=j) (ht:(A v)[j]?=some t) (htn:t<n) :
 0<inn t∧Peel n A B (updN inn t (inn t-1)) out (updN c v (j+1)) d gone q lives:=by
 obtain ⟨h1,h2⟩:=h.deg1.step (h.low v hv) hj ht htn
 exact ⟨h1,h2,h.deg2,h.nodup,h.goneq,h.low,fun u hu=>by
  have e:u≠v:=fun e=>hu (by rw [e]; exact hv)
  rw [updN_other _ _ _ e]; exact h.fresh u hu,h.keep⟩
end
open Go.RowKit
set_option maxRecDepth 100000
def CntTo (G:List (List Int)) (k j:Nat) (F:Nat→List Int):Prop :=
 ∀ t,t<G.length→∀ v:Nat,(F t).count (v:Int)=if v<k then (G.getD v []).count (t:Int) else if v=k then ((G.getD k []).take j).count (t:Int) else 0
theorem CntTo.zero (G:List (List Int)):CntTo G 0 0 (fun _=>[]):=by
 intro t _ v
 rw [if_neg (by omega)]
 split<;>simp
theorem CntTo.next {G:List (List Int)} {k:Nat} {F:Nat→List Int} (h:CntTo G k (G.getD k []).length F):CntTo G (k+1) 0 F:=by
 intro t ht v
 rw [h t ht v,List.take_length]
 by_cases e:v<k
 ·rw [if_pos e,if_pos (by omega)]
 ·rw [if_neg e]
  by_cases e2:v=k
  ·subst e2; rw [if_pos rfl,if_pos (by omega)]
  ·rw [if_neg e2,if_neg (by omega)]
   split<;>simp
theorem CntTo.add {G:List (List Int)} {k j u:Nat} {F:Nat→List Int} (h:CntTo G k j F) (hj:(G.getD k [])[j]?=some (u:Int)):CntTo G k (j+1) (updN F u (F u++[(k:Int)])):=by
 have htk:(G.getD k []).take (j+1)=(G.getD k []).take j++[(u:Int)]:=by
  rw [List.take_add_one,hj]; rfl
 intro t ht v
 have h1:=h t ht v
 rw [htk,List.count_append]
 by_cases e:t=u
 ·subst e
  rw [updN_same,List.count_append,h1]
  by_cases e1:v<k
  ·rw [if_pos e1,if_pos e1]
   have:([(k:Int)]:List Int).count (v:Int)=0:=by
    rw [List.count_eq_zero]; simp; omega
   omega
  ·rw [if_neg e1,if_neg e1]
   by_cases e2:v=k
   ·subst e2; rw [if_pos rfl,if_pos rfl]; simp
   ·rw [if_neg e2,if_neg e2]
    rw [Nat.zero_add,List.count_eq_zero]; simp; omega
 ·rw [updN_other _ _ _ e,h1]
  have:([(u:Int)]:List Int).count (t:Int)=0:=by
   rw [List.count_eq_zero]; simp; omega
  rw [this,Nat.add_zero]
structure TurnedX (G H:List (List Int)):Prop where
 t:TurnedOf G H
 cnt:∀ t v,t<G.length→v<G.length→(adjOf H t).count v=(adjOf G v).count t
def ListsFrom (B:Nat) (w:World) (v:Value) (G:List (List Int)):Prop :=
 ∃ vs:List Value,OwnV 22 B w v vs∧vs.length=G.length∧∀ i,i<G.length→OwnI B w (vAt vs i) (G.getD i [])
theorem ListsFrom.at {B:Nat} {w:World} {v:Value} {G:List (List Int)} (h:ListsFrom B w v G):ListsAt w v G:=by
 obtain ⟨vs,h1,h2,h3⟩:=h
 exact ⟨vs,h1.at,h2,fun i hi=>(h3 i hi).at⟩
theorem ListsFrom.below {B:Nat} {w w':World} {v:Value} {G:List (List Int)} (h:ListsFrom B w v G) (hb:Below w.heap.size w w'):ListsFrom B w' v G:=by
 obtain ⟨vs,h1,h2,h3⟩:=h
 exact ⟨vs,h1.below hb,h2,fun i hi=>(h3 i hi).below hb⟩
theorem ListsFrom.set {B:Nat} {w:World} {v:Value} {G:List (List Int)} (h:ListsFrom B w v G) {a:Addr} (ha:a.block<B) (u:Value):ListsFrom B (w.setCell a u) v G:=by
 obtain ⟨vs,h1,h2,h3⟩:=h
 exact ⟨vs,OwnV.setBelowBase h1 ha u,h2,fun i hi=>OwnV.toI (OwnV.setBelowBase (h3 i hi).toV ha u)⟩
theorem WN.from {B:Nat} {w:World} {f:Names} {ov:Value} {vals:List Value} {n:Nat} {F:Nat→List Int} (h:WN f ov vals n F) (hr:Rows B w f):ListsFrom B w ov (rowsOf n F) :=
 ⟨vals,hr.ownV h.outer,by rw [h.len,rowsOf_len],fun i hi=>by
   rw [rowsOf_len] at hi
   rw [rowsOf_get n F i hi]
   exact hr.ownI (h.rows i hi)⟩
def BestTo (l:List Nat) (D:Nat→Int) (d:Int) (k:Nat) (b:Int):Prop :=
 (b=-1∧∀ t∈l.take k,D t≠d)∨∃ m:Nat,b=m∧m∈l.take k∧D m=d∧∀ t∈l.take k,D t=d→m≤t
theorem BestTo.zero (l:List Nat) (D:Nat→Int) (d:Int):BestTo l D d 0 (-1):=.inl ⟨rfl,fun t ht=>by simp at ht⟩
theorem BestTo.low {l:List Nat} {D:Nat→Int} {d:Int} {k:Nat} {b:Int} (h:BestTo l D d k b):-1≤b:=by
 rcases h with ⟨h,_⟩ | ⟨m,h,_⟩<;>omega
theorem take_mem {l:List Nat} {k t:Nat} (ht:l[k]?=some t) (x:Nat):x∈l.take (k+1)↔x∈l.take k∨x=t:=by
 rw [List.take_add_one,ht]; simp
theorem BestTo.skip {l:List Nat} {D:Nat→Int} {d:Int} {k:Nat} {b:Int} (h:BestTo l D d k b) {t:Nat} (ht:l[k]?=some t) (hd:D t≠d):BestTo l D d (k+1) b:=by
 rcases h with ⟨h1,h2⟩ | ⟨m,h1,h2,h3,h4⟩
 ·refine .inl ⟨h1,fun x hx=>?_⟩
  rcases (take_mem ht x).1 hx with hx | rfl
  ·exact h2 x hx
  ·exact hd
 ·refine .inr ⟨m,h1,(take_mem ht m).2 (.inl h2),h3,fun x hx hxd=>?_⟩
  rcases (take_mem ht x).1 hx with hx | rfl
  ·exact h4 x hx hxd
  ·exact absurd hxd hd
theorem BestTo.take {l:List Nat} {D:Nat→Int} {d:Int} {k:Nat} {b:Int} (h:BestTo l D d k b) {t:Nat} (ht:l[k]?=some t) (hd:D t=d) (hb:b<0∨(t:Int)<b):BestTo l D d (k+1) t:=by
 refine .inr ⟨t,rfl,(take_mem ht t).2 (.inr rfl),hd,fun x hx hxd=>?_⟩
 rcases (take_mem ht x).1 hx with hx | rfl
 ·rcases h with ⟨h1,h2⟩ | ⟨m,h1,h2,h3,h4⟩
  ·exact absurd hxd (h2 x hx)
  ·have:=h4 x hx hxd; omega
 ·exact Nat.le_refl _
structure Down (n:Nat) (adj:Nat→List Nat) (x y:Nat) (D:Nat→Int) (out:List Nat) (v:Nat):Prop where
 low:v<n
 there:0≤D v
 len:(out.length:Int)+D v=D x+1
 last:∃ pre,out=pre++[v]
 ext:∀ u,IsFirst adj v y u→∀ pre,out=pre++[v]→IsFirst adj x y (pre++u)
theorem Down.start {n:Nat} {adj:Nat→List Nat} {x y:Nat} {D:Nat→Int} (hx:x<n) (h0:0≤D x):Down n adj x y D [x] x :=
 ⟨hx,h0,by simp; omega,⟨[],rfl⟩,fun u hu pre hp=>by
   cases pre with
   | nil=>exact hu
   | cons a pre=>simp at hp⟩
theorem Down.next {n:Nat} {adj:Nat→List Nat} {x y:Nat} {D:Nat→Int} {out:List Nat} {v m:Nat} (h:Down n adj x y D out v) (hT:ToOf n adj y D) (hlt:∀ v,v<n→∀ t∈adj v,t<n) (hm:m∈adj v) (hd:D m=D v-1) (h1:1≤D v)
 (hmin:∀ t∈adj v,D t=D v-1→m≤t):Down n adj x y D (out++[m]) m:=by
 refine ⟨hlt v h.low m hm,by omega,by rw [List.length_append,List.length_singleton]; have:=h.len; omega,⟨out,rfl⟩,fun u hu pre hp=>?_⟩
 have hp2:out=pre:=List.append_inj_left' hp rfl
 subst hp2
 obtain ⟨pre,hpre⟩:=h.last
 have:=h.ext (v::u) (step_first hT hlt h.low hm hd (by omega) hmin hu) pre hpre
 rw [hpre,List.append_assoc]
 exact this
theorem IsFirst.one (adj:Nat→List Nat) (y:Nat):IsFirst adj y y [y]:=by
 refine ⟨.one y,fun u hu=>hu.pos,fun u hu hl=>?_⟩
 obtain ⟨w,rfl⟩:=hu.ne
 cases w with
 | nil=>exact lexLe_refl _
 | cons a w=>simp at hl
theorem Down.stop {n:Nat} {adj:Nat→List Nat} {x y:Nat} {D:Nat→Int} {out:List Nat} (h:Down n adj x y D out y):IsFirst adj x y out:=by
 obtain ⟨pre,hpre⟩:=h.last
 rw [hpre]
 exact h.ext [y] (IsFirst.one adj y) pre hpre
theorem row_push {B:Nat} {w w1:World} {f:Names} {i:Nat×Nat} {qv qv':Value} {q:List Nat} (hr:Rows B w f) (hf:f i=some (rowI qv (castI q))) (t:Nat) (ho:OwnI B w1 qv' (castI q++[(t:Int)]))
 (hal:(roomOf qv'=roomOf qv∧w.grownBy w1 qv.ownBlock)∨(∃ k,qv'.ownBlock=some k∧w.heap.size≤k∧w.grownBy w1 none)):Rows B w1 (upd f i (some (rowI qv' (castI (q++[t]))))):=by
 have hO:=hr.ownI hf
 have hg:w.grownBy w1 qv.ownBlock:=grown_via (hal.imp (·.2) (fun ⟨_,_,_,q⟩=>q))
 have hob:qv'.ownBlock=qv.ownBlock∨∃ k,qv'.ownBlock=some k∧w.heap.size≤k:=by
  rcases hal with ⟨q,_⟩ | ⟨k,h1,h2,_⟩
  ·obtain ⟨a1,n1,c1,e1⟩:=hO.at.shape
   obtain ⟨a2,n2,c2,e2⟩:=ho.at.shape
   exact .inl (ownBlock_of_room e1 e2 q)
  ·exact .inr ⟨k,h1,h2⟩
 have:=hr.grown (r':=rowI qv' (castI q++[(t:Int)])) hf hg ho hob
 rwa [← castI_snoc] at this
theorem OwnI.set3 {B b:Nat} {w:World} {v:Value} {xs:List Int} (h:OwnI B w v xs) (hb:b<B) (x y z:Value):OwnI B (((w.setCell ⟨b,0,none⟩ x).setCell ⟨b,1,none⟩ y).setCell ⟨b,2,none⟩ z) v xs :=
 OwnV.toI (((h.toV.setBelowBase (a:=⟨b,0,none⟩) hb x).setBelowBase (a:=⟨b,1,none⟩) hb y).setBelowBase (a:=⟨b,2,none⟩) hb z)
theorem FirstPost.set3 {w w3 w4:World} {adj:Nat→List Nat} {a b:Nat} {v:Value} (h:FirstPost w3 adj a b v w4) {c:Nat} (hb:c<w3.heap.size) (hs:w.heap.size≤w3.heap.size) (x y z:Value):FirstPost w adj a b v (((w4.setCell ⟨c,0,none⟩ x).setCell ⟨c,1,none⟩ y).setCell ⟨c,2,none⟩ z):=by
 rcases h with ⟨u,h1,h2⟩ | h
 ·exact .inl ⟨u,h1,(h2.set3 hb x y z).mono hs⟩
 ·exact .inr h
end Go.Proofs.YtncpnaoabkjegaaGreatDoor
namespace Go.Proofs.YtncpnaoabkjegaaGreatDoor
structure PS (n:Nat) (A B:Nat→List Nat) (inn out c d:Nat→Nat) (gone:Nat→Bool) (q:List Nat) (lives:Nat→Prop) (i:Nat):Prop where
 peel:Peel n A B inn out c d gone q lives
 pos:∀ t,t<n→gone t=false→0<inn t∧0<out t
 done:∀ j x,j<i→q[j]?=some x→c x=(A x).length∧d x=(B x).length
 rest:∀ j x,i≤j→q[j]?=some x→c x=0∧d x=0
structure Mid (n:Nat) (A B:Nat→List Nat) (inn out c d:Nat→Nat) (gone:Nat→Bool) (q:List Nat) (lives:Nat→Prop) (i v:Nat):Prop where
 peel:Peel n A B inn out c d gone q lives
 pos:∀ t,t<n→gone t=false→0<inn t∧0<out t
 cur:q[i]?=some v
 done:∀ j x,j<i→q[j]?=some x→c x=(A x).length∧d x=(B x).length
 rest:∀ j x,i<j→q[j]?=some x→c x=0∧d x=0
section
variable {n:Nat} {A B:Nat→List Nat} {inn out c d:Nat→Nat} {gone:Nat→Bool} {q:List Nat} {lives:Nat→Prop} {i v:Nat}
theorem PS.enter (h:PS n A B inn out c d gone q lives i) (hv:q[i]?=some v):Mid n A B inn out c d gone q lives i v∧c v=0∧d v=0∧v<n :=
 ⟨⟨h.peel,h.pos,hv,h.done,fun j x hj hx=>h.rest j x (by omega) hx⟩,(h.rest i v (Nat.le_refl _) hv).1,(h.rest i v (Nat.le_refl _) hv).2,h.peel.low v (List.mem_of_getElem? hv)⟩
theorem Mid.leave (h:Mid n A B inn out c d gone q lives i v) (hc:c v=(A v).length) (hd:d v=(B v).length):PS n A B inn out c d gone q lives (i+1):=by
 refine ⟨h.peel,h.pos,fun j x hj hx=>?_,fun j x hj hx=>h.rest j x (by omega) hx⟩
 by_cases e:j=i
 ·subst e
  rw [h.cur] at hx; cases hx
  exact ⟨hc,hd⟩
 ·exact h.done j x (by omega) hx
theorem Mid.step (h:Mid n A B inn out c d gone q lives i v) (hL:LiveSet n A B lives) {k t:Nat} (hk:c v=k) (ht:(A v)[k]?=some t) (htn:t<n) :
 0<inn t∧(inn t=1→gone t=false→Mid n A B (updN inn t (inn t-1)) out (updN c v (k+1)) d (updN gone t true) (q++[t]) lives i v) ∧
 ((inn t=1→gone t=true)→Mid n A B (updN inn t (inn t-1)) out (updN c v (k+1)) d gone q lives i v):=by
 have hvq:=List.mem_of_getElem? h.cur
 obtain ⟨h0,hp⟩:=h.peel.arrow1 hvq hk ht htn
 have hne:∀ j x,j≠i→q[j]?=some x→x≠v:=fun j x hj hx e=>hj (get_inj h.peel.nodup (by rw [hx,e]) h.cur)
 have hdone:∀ j x,j<i→q[j]?=some x→updN c v (k+1) x=(A x).length∧d x=(B x).length:=fun j x hj hx=>by
  rw [updN_other _ _ _ (hne j x (by omega) hx)]; exact h.done j x hj hx
 have hrest:∀ j x,i<j→q[j]?=some x→updN c v (k+1) x=0∧d x=0:=fun j x hj hx=>by
  rw [updN_other _ _ _ (hne j x (by omega) hx)]; exact h.rest j x hj hx
 refine ⟨h0,fun h1 hg=>?_,fun h1=>?_⟩
 ·have htq:t∉q:=fun hm=>by have:=(h.peel.goneq t).2 hm; rw [hg] at this; cases this
  have htv:t≠v:=fun e=>htq (by rw [e]; exact hvq)
  have hil:=get_of h.cur
  have hga:∀ j x,(q++[t])[j]?=some x→q[j]?=some x∨j=q.length∧x=t:=fun j x hx=>by
   by_cases e:j<q.length
   ·rw [List.getElem?_append_left e] at hx; exact .inl hx
   ·rw [List.getElem?_append_right (by omega)] at hx
    by_cases e2:j=q.length
    ·rw [e2] at hx; simp at hx; exact .inr ⟨e2,hx.symm⟩
    ·rw [List.getElem?_eq_none (by simp; omega)] at hx; cases hx
  refine ⟨hp.goes hL htn hg (.inl (by rw [updN_same]; omega)),fun x hx hgx=>?_,by rw [List.getElem?_append_left hil]; exact h.cur,fun j x hj hx=>?_,fun j x hj hx=>?_⟩
  ·by_cases e:x=t
   ·subst e; rw [updN_same] at hgx; cases hgx
   ·rw [updN_other _ _ _ e] at hgx ⊢; exact h.pos x hx hgx
  ·rcases hga j x hx with hx | ⟨hj2,_⟩
   ·exact hdone j x hj hx
   ·omega
  ·rcases hga j x hx with hx | ⟨_,rfl⟩
   ·exact hrest j x hj hx
   ·rw [updN_other _ _ _ htv]; exact h.peel.fresh x htq
 ·refine ⟨hp,fun x hx hgx=>?_,h.cur,hdone,hrest⟩
  by_cases e:x=t
  ·subst e
   rw [updN_same]
   have:=(h.pos x hx hgx).2
   have:inn x≠1:=fun e=>by have:=h1 e; rw [hgx] at this; cases this
   omega
  ·rw [updN_other _ _ _ e]; exact h.pos x hx hgx
end
structure PStart (n:Nat) (A B:Nat→List Nat) (gone:Nat→Bool) (q:List Nat) (lives:Nat→Prop) (k:Nat):Prop where
 peel:Peel n A B (fun t=>(B t).length) (fun t=>(A t).length) (fun _=>0) (fun _=>0) gone q lives
 pos:∀ t,t<k→gone t=false→0<(B t).length∧0<(A t).length
 below:∀ x∈q,x<k
section
variable {n:Nat} {A B:Nat→List Nat} {gone:Nat→Bool} {q:List Nat} {lives:Nat→Prop} {k:Nat}
theorem PStart.zero (hA:∀ t,t<n→∀ x∈A t,x<n) (hB:∀ t,t<n→∀ x∈B t,x<n) (hc:∀ t v,t<n→v<n→(B t).count v=(A v).count t):PStart n A B (fun _=>false) [] lives 0 :=
 ⟨⟨Deg.init hB (fun v t hv ht=>hc t v ht hv),Deg.init hA (fun v t hv ht=>(hc v t hv ht).symm),by simp,fun x=>by simp,fun x hx=>by simp at hx,fun _ _=>⟨rfl,rfl⟩,fun _ _ _=>rfl⟩,fun t ht=>by omega,fun x hx=>by simp at hx⟩
theorem PStart.take (h:PStart n A B gone q lives k) (hL:LiveSet n A B lives) (hk:k<n) (h0:(A k).length=0∨(B k).length=0):PStart n A B (updN gone k true) (q++[k]) lives (k+1):=by
 have hg:gone k=false:=by
  cases hgk:gone k with
  | false=>rfl
  | true=>have:=h.below k ((h.peel.goneq k).1 hgk); omega
 refine ⟨h.peel.goes hL hk hg h0.symm,fun t ht hgt=>?_,fun x hx=>?_⟩
 ·by_cases e:t=k
  ·subst e; rw [updN_same] at hgt; cases hgt
  ·rw [updN_other _ _ _ e] at hgt; exact h.pos t (by omega) hgt
 ·rcases List.mem_append.1 hx with hx | hx
  ·have:=h.below x hx; omega
  ·cases List.mem_singleton.1 hx; omega
theorem PStart.skip (h:PStart n A B gone q lives k) (hA:(A k).length≠0) (hB:(B k).length≠0):PStart n A B gone q lives (k+1):=by
 refine ⟨h.peel,fun t ht hgt=>?_,fun x hx=>by have:=h.below x hx; omega⟩
 by_cases e:t=k
 ·subst e; omega
 ·exact h.pos t (by omega) hgt
theorem PStart.all (h:PStart n A B gone q lives n):PS n A B (fun t=>(B t).length) (fun t=>(A t).length) (fun _=>0) (fun _=>0) gone q lives 0 :=
 ⟨h.peel,h.pos,fun j x hj=>by omega,fun _ _ _ _=>⟨rfl,rfl⟩⟩
end
open Go.RowKit
set_option maxRecDepth 100000
structure LvN (f:Names) (ov iv gv qv:Value) (n:Nat) (out inn:Nat→Nat) (gone:Nat→Bool) (q:List Nat):Prop where
 outs:f (1,0)=some (rowI ov (tab n out))
 inns:f (2,0)=some (rowI iv (tab n inn))
 gones:f (3,0)=some (rowV 4 gv (tabB n gone))
 queue:f (4,0)=some (rowI qv (castI q))
section
variable {B:Nat} {w:World} {f:Names} {ov iv gv qv:Value} {n:Nat} {out inn:Nat→Nat} {gone:Nat→Bool} {q:List Nat}
theorem LvN.mark (h:LvN f ov iv gv qv n out inn gone q) (hr:Rows B w f) (t:Nat) (ht:t<n):∃ f',Rows B (w.setCell (valAt gv t) (.bool true)) f'∧LvN f' ov iv gv qv n out inn (updN gone t true) q:=by
 have hs:=hr.setV h.gones t (by rw [tabB_len]; exact ht) (.bool true)
 rw [tabB_upd] at hs
 exact ⟨_,hs,⟨by rw [upd_ne _ _ (by simp)]; exact h.outs,by rw [upd_ne _ _ (by simp)]; exact h.inns,upd_same _ _ _,by rw [upd_ne _ _ (by simp)]; exact h.queue⟩⟩
theorem LvN.push (h:LvN f ov iv gv qv n out inn gone q) (hr:Rows B w f) {w1:World} {qv':Value} (t:Nat) (ho:OwnI B w1 qv' (castI q++[(t:Int)]))
 (hal:(roomOf qv'=roomOf qv∧w.grownBy w1 qv.ownBlock)∨(∃ k,qv'.ownBlock=some k∧w.heap.size≤k∧w.grownBy w1 none)):∃ f',Rows B w1 f'∧LvN f' ov iv gv qv' n out inn gone (q++[t]) :=
 ⟨_,row_push hr h.queue t ho hal,⟨by rw [upd_ne _ _ (by simp)]; exact h.outs,by rw [upd_ne _ _ (by simp)]; exact h.inns,by rw [upd_ne _ _ (by simp)]; exact h.gones,upd_same _ _ _⟩⟩
end
theorem tabB_none (n:Nat):tabB n (fun _=>false)=List.replicate n (.bool false):=by
 unfold tabB; apply List.ext_getElem<;>simp
theorem Box3.keep {B:Nat} {w w':World} {b:Nat} {x0 x1 x2:Value} (h:Box3 w b x0 x1 x2) (hb:Below B w w') (hlt:b<B):Box3 w' b x0 x1 x2:=h.belowB hb hlt
end Go.Proofs.YtncpnaoabkjegaaGreatDoor
