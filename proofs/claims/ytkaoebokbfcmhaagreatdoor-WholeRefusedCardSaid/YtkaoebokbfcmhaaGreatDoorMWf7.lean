/-
  Texts that the proof leans on.
-/
import Derived.Test.YtkaoebokbfcmhaaGreatDoorMWf6
import Derived.BigQuiet
import Derived.Deep.DeepCutAuto
import Derived.Ground.NamesProg
import Derived.Shelf.Slices.Cells
namespace Go.Proofs.YtkaoebokbfcmhaaGreatDoor
open Go.RowKit
set_option maxRecDepth 100000
set_option maxHeartbeats 8000000
def OnLoop (adj:Nat→List Nat) (u:Nat):Prop:=∃ t∈adj u,Goes adj t u
def IsLive (n:Nat) (adj:Nat→List Nat) (v:Nat):Prop:=(∃ u,u<n∧OnLoop adj u∧Goes adj u v)∧∃ u,u<n∧OnLoop adj u∧Goes adj v u
structure LiveList (n:Nat) (adj:Nat→List Nat) (L:List Nat):Prop where
 sorted:L.Pairwise (·<·)
 mem:∀ v,v∈L↔v<n∧IsLive n adj v
theorem turned_adj {G H:List (List Int)} (h:TurnedOf G H) (hok:GraphOk G) {t v:Nat} (ht:t<G.length):v∈adjOf H t↔v<G.length∧t∈adjOf G v:=by
 unfold adjOf
 simp only [List.mem_map]
 constructor
 ·rintro ⟨y,hy,rfl⟩
  obtain ⟨x,rfl,hx,hm⟩:=(h.2.2 t ht y).1 hy
  exact ⟨by simpa using hx,(t:Int),by simpa using hm,by simp⟩
 ·rintro ⟨hv,y,hy,rfl⟩
  have:=hok v hv y hy
  exact ⟨(v:Int),(h.2.2 y.toNat ht v).2 ⟨v,rfl,hv,by rw [Int.toNat_of_nonneg this.1]; exact hy⟩,by simp⟩
theorem turned_ok {G H:List (List Int)} (h:TurnedOf G H):GraphOk H:=by
 intro t ht y hy
 rw [h.1] at ht ⊢
 obtain ⟨x,rfl,hx,_⟩:=(h.2.2 t ht y).1 hy
 omega
theorem goes_lt {G:List (List Int)} (hok:GraphOk G) {x y:Nat} (h:Goes (adjOf G) x y) (hx:x<G.length):y<G.length :=
 Goes.closed (P:=fun z=>z<G.length) (fun z hz t ht=>hok.lt z hz t ht) h hx
theorem turned_goes {G H:List (List Int)} (h:TurnedOf G H) (hok:GraphOk G) {x y:Nat} (hg:Goes (adjOf H) x y) (hx:x<G.length):Goes (adjOf G) y x:=by
 induction hg with
 | refl=>exact .refl _
 | @step y z hg hz ih =>
  have hy:y<G.length:=by have:=goes_lt (turned_ok h) hg (by rw [h.1]; exact hx); rwa [h.1] at this
  exact (Goes.one ((turned_adj h hok hy).1 hz).2).trans ih
theorem goes_turned {G H:List (List Int)} (h:TurnedOf G H) (hok:GraphOk G) {x y:Nat} (hg:Goes (adjOf G) x y) (hx:x<G.length):Goes (adjOf H) y x:=by
 induction hg with
 | refl=>exact .refl _
 | @step y z hg hz ih =>
  have hy:=goes_lt hok hg hx
  exact (Goes.one ((turned_adj h hok (hok.lt y hy z hz)).2 ⟨hy,hz⟩)).trans ih
theorem onLoop_parts {G:List (List Int)} (hok:GraphOk G) {ps:List Int} (hp:PartsOf G.length (adjOf G) ps) {x:Nat} (hx:x<G.length):OnLoop (adjOf G) x↔∃ t∈adjOf G x,ps.getD t 0=ps.getD x 0:=by
 constructor
 ·rintro ⟨t,ht,hg⟩
  exact ⟨t,ht,(hp.eq (hok.lt x hx t ht) hx).2 ⟨hg,.one ht⟩⟩
 ·rintro ⟨t,ht,he⟩
  exact ⟨t,ht,((hp.eq (hok.lt x hx t ht) hx).1 he).1⟩
def LivePost (r:Nat→Addr) (w:World) (G:List (List Int)) (x y:Value) (w':World):Prop :=
 ErrIs r w' (checkG G) y∧(checkG G=none→∃ L,LiveList G.length (adjOf G) L∧OwnI w.heap.size w' x (castI L))∧(checkG G≠none→x=.slice none 0 0)
def LoopTo (G:List (List Int)) (ps:List Int) (k j:Nat) (m:Nat→Bool):Prop :=
 ∀ x,x<G.length→(m x=true↔(x<k∧∃ t∈adjOf G x,ps.getD t 0=ps.getD x 0)∨(x=k∧∃ t∈(adjOf G k).take j,ps.getD t 0=ps.getD k 0))
theorem LoopTo.next {G:List (List Int)} {ps:List Int} {k:Nat} {m:Nat→Bool} (h:LoopTo G ps k (adjOf G k).length m):LoopTo G ps (k+1) 0 m:=by
 intro x hx
 rw [h x hx,List.take_length]
 constructor
 ·rintro (⟨a,b⟩ | ⟨rfl,b⟩)
  ·exact .inl ⟨by omega,b⟩
  ·exact .inl ⟨by omega,b⟩
 ·rintro (⟨a,b⟩ | ⟨_,t,ht,_⟩)
  ·by_cases e:x=k
   ·subst e; exact .inr ⟨rfl,b⟩
   ·exact .inl ⟨by omega,b⟩
  ·simp at ht
theorem LoopTo.add {G:List (List Int)} {ps:List Int} {k j t:Nat} {m:Nat→Bool} (h:LoopTo G ps k j m) (ht:(adjOf G k)[j]?=some t) (m':Nat→Bool)
 (hm:m'=if ps.getD t 0=ps.getD k 0 then updN m k true else m):LoopTo G ps k (j+1) m':=by
 intro x hx
 have htk:(adjOf G k).take (j+1)=(adjOf G k).take j++[t]:=by rw [List.take_add_one,ht]; rfl
 by_cases hp:ps.getD t 0=ps.getD k 0
 ·rw [if_pos hp] at hm
  subst hm
  by_cases e:x=k
  ·subst e
   rw [updN_same]
   exact ⟨fun _=>.inr ⟨rfl,t,by rw [htk]; simp,hp⟩,fun _=>rfl⟩
  ·rw [updN_other _ _ _ e,h x hx]
   exact ⟨fun q=>q.imp id (fun q=>absurd q.1 e),fun q=>q.imp id (fun q=>absurd q.1 e)⟩
 ·rw [if_neg hp] at hm
  subst hm
  rw [h x hx,htk]
  constructor
  ·rintro (q | ⟨e,s,hs,hq⟩)
   ·exact .inl q
   ·exact .inr ⟨e,s,List.mem_append_left _ hs,hq⟩
  ·rintro (q | ⟨e,s,hs,hq⟩)
   ·exact .inl q
   ·rcases List.mem_append.1 hs with hs | hs
    ·exact .inr ⟨e,s,hs,hq⟩
    ·cases List.mem_singleton.1 hs; exact absurd hq hp
theorem live_any (r:Nat→Addr) (na:Option Addr) (nc:Nat) (G:List (List Int)) (w:World) (hg:Glob r w) (h:ListsAt w (.slice na G.length nc) G) (hsz:∀ k,k<G.length→(G.getD k []).length≤17592186044416) :
 Calls Tryz.prog 100 #[.slice na G.length nc] w (Ret2 (LivePost r w G) w):=by
 have hP:=parts_any r na nc G w hg h hsz
 replace h:=Hd h
 replace hg:=Hd hg
 replace hsz:=Hd hsz
 cases hck:checkG G with
 | some t =>
  replace hck:=Hd hck
  go_enter Tryz.func100,Tryz.ntmps100
  go_wp2_with fail
  refine hP.mono ?_
  rintro e w1 ⟨x,y,rfl,b1,he,_,hx⟩
  rw [hck.out] at he hx
  obtain rfl:=hx (by simp)
  obtain ⟨T,a,rfl⟩:=he.some_shape
  replace he:=Hd he
  clear hx hP
  go_wp2
  go_ret2
  exact ⟨_,_,rfl,b1,⟨by rw [hck.out]; exact he.out,⟨fun q=>(by rw [hck.out] at q; cases q),fun _=>rfl⟩⟩⟩
 | none =>
  obtain ⟨hn,harr,hok⟩:=checkG_none hck
  replace hck:=Hd hck
  replace hok:=Hd hok
  go_enter Tryz.func100,Tryz.ntmps100
  go_wp2_with fail
  refine hP.mono ?_
  rintro e w1 ⟨pv,y,rfl,b1,he,hps0,_⟩
  rw [hck.out] at he hps0
  obtain rfl:=he.none_eq
  obtain ⟨ps,hps,hpo⟩:=hps0 rfl
  clear hps0
  have hpl:=hps.len
  obtain ⟨pa,pn,pc,rfl⟩:=hpo.at.shape
  have hp1:=hpo.at
  clear he hP hpo
  obtain ⟨lv,w2,mk,hl2,hb2⟩:=run_makeW oneBoolG (G.length:Int) G.length w1 rfl (by omega)
  have hz:tabB G.length (fun _=>false)=List.replicate G.length (.bool false):=by
   unfold tabB; apply List.ext_getElem<;>simp
  rw [← hz] at hl2
  obtain ⟨la,ln,lc,rfl⟩:=hl2.shape
  have hz0:LoopTo G ps 0 0 (fun _=>false):=by
   intro x hx
   simp
  replace hz0:=Hd hz0
  replace hz:=Hd hz
  replace hl2:=Hd hl2
  replace hp1:=Hd hp1
  replace hps:=Hd hps
  replace hpl:=Hd hpl
  go_wp2_with fail
  clear mk
  go_loopw [28] (fun kv wr=>∃ (k:Nat) (m:Nat→Bool),k≤G.length∧kv=.int .i64 k∧OwnV 4 w1.heap.size wr (.slice la ln lc) (tabB G.length m)∧Below w1.heap.size w1 wr∧LoopTo G ps k 0 m) (fun kv _=>G.length-(intOf kv).toNat)
  case atStart=>exact ⟨0,_,by omega,rfl,hl2.out,hb2,hz0.out⟩
  case round =>
   clear hl2
   obtain ⟨k,m,hk,rfl,hlo,b3,hm⟩:=hrel
   obtain ⟨wo,rfl⟩:∃ wo:World,wo=wr:=⟨_,rfl⟩
   by_cases hlt:k<G.length
   ·obtain ⟨mv,iR,cR0,hM0⟩:=h.out.row k hlt
    have hbw:Below w.heap.size w wo:=b1.trans (b3.mono b1.size)
    have cR:=(hbw.cell (World.block_lt_of_cell? _ _ cR0)).trans cR0
    have hM:=hM0.below hbw
    have hgp:=hok.out k hlt
    have hal:=adjOf_len G k
    have hag:∀ j (hj:j<(G.getD k []).length),(adjOf G k)[j]?=some ((G.getD k [])[j]).toNat:=fun j hj=>by
     show ((G.getD k []).map Int.toNat)[j]?=_
     rw [List.getElem?_map,List.getElem?_eq_getElem hj]; rfl
    have hglen:=hsz.out k hlt
    generalize G.getD k []=gk at *
    have lM:=hM.len
    generalize valAt (.slice na G.length nc) k=ra at *
    replace hm:=Hd hm
    replace hlo:=Hd hlo
    replace hM:=Hd hM
    replace hM0:=Hd hM0
    replace hgp:=Hd hgp
    replace hag:=Hd hag
    replace hal:=Hd hal
    go_wp2_with fail
    clear iR cR cR0 lM hbw
    go_loopw [35] (fun jv wr=>∃ (j:Nat) (m:Nat→Bool),j≤gk.length∧jv=.int .i64 j∧OwnV 4 w1.heap.size wr (.slice la ln lc) (tabB G.length m)∧Below w1.heap.size w1 wr∧LoopTo G ps k j m) (fun jv _=>gk.length-(intOf jv).toNat)
    case atStart=>exact ⟨0,m,by omega,rfl,hlo.out,b3,hm.out⟩
    case round =>
     clear hlo b3 hm hM
     obtain ⟨j,m,hj,rfl,hlo,b3,hm⟩:=hrel
     obtain ⟨wo,rfl⟩:∃ wo:World,wo=wr:=⟨_,rfl⟩
     by_cases hjl:j<gk.length
     ·have hMj:=hM0.out.below (b1.trans (b3.mono b1.size))
      have hgj:=hgp.out gk[j] (List.getElem_mem hjl)
      obtain ⟨t,hu⟩:∃ t:Nat,gk[j]=t:=Int.eq_ofNat_of_zero_le hgj.1
      have htn:t<G.length:=by rw [hu] at hgj; omega
      have hgd:gk.getD j 0=(t:Int):=by rw [List.getD_eq_getElem?_getD,List.getElem?_eq_getElem hjl,hu]; rfl
      have hta:(adjOf G k)[j]?=some t:=by rw [hag.out j hjl,hu]; rfl
      have iJ:=fun w'=>hMj.idx j hjl w'
      have cJ:=hMj.cellD j hjl
      rw [hgd] at cJ
      have hPt:=hp1.out.below b3
      have iT:=fun w'=>hPt.idx t (by rw [hpl.out]; exact htn) w'
      have cT:=hPt.cellD t (by rw [hpl.out]; exact htn)
      have iK:=fun w'=>hPt.idx k (by rw [hpl.out]; exact hlt) w'
      have cK:=hPt.cellD k (by rw [hpl.out]; exact hlt)
      have hadd:=hm.add hta
      have iL:=fun w'=>hlo.at.idx oneBoolG k (by rw [tabB_len]; exact hlt) w'
      have cL:=hlo.at.cellV k (by rw [tabB_len]; exact hlt)
      rw [tabB_get _ _ _ hlt] at cL
      have fL:=hlo.frz k (by rw [tabB_len]; exact hlt)
      have kL:=(hlo.blkB k (by rw [tabB_len]; exact hlt)).2
      have hset:=hlo.set k (by rw [tabB_len]; exact hlt) (.bool true)
      rw [tabB_upd] at hset
      generalize valAt mv j=ja at *
      generalize valAt (.slice pa pn pc) t=ta at *
      generalize valAt (.slice pa pn pc) k=ka at *
      generalize valAt (.slice la ln lc) k=qa at *
      obtain ⟨pt,hpt⟩:∃ pt,ps.getD t 0=pt:=⟨_,rfl⟩
      obtain ⟨pk,hpk⟩:∃ pk,ps.getD k 0=pk:=⟨_,rfl⟩
      rw [hpt] at cT hadd
      rw [hpk] at cK hadd
      generalize m k=mk at cL
      replace hm:=Hd hm
      replace hlo:=Hd hlo
      replace hset:=Hd hset
      replace hPt:=Hd hPt
      replace hMj:=Hd hMj
      replace hpt:=Hd hpt
      replace hpk:=Hd hpk
      replace hgd:=Hd hgd
      replace hgj:=Hd hgj
      replace hu:=Hd hu
      replace hta:=Hd hta
      by_cases he:pt=pk
      ·have hq:(pt==pk)=true:=by simp [he]
       have hn2:=hadd _ (if_pos he).symm
       replace hn2:=Hd hn2
       replace he:=Hd he
       clear hadd
       go_upto_region 11 with fail
       go_quiet (fail)
       go_wp2
       go_roundw
       case measure=>simp [intOf]; omega
       case rel =>
        refine ⟨j+1,_,by omega,by go_num,?_,?_,hn2.out⟩
        ·exact hset.out
        ·exact (below_drewN b3 nq).setCell kL _
      ·have hq:(pt==pk)=false:=by simp [he]
       have hn2:=hadd _ (if_neg he).symm
       replace hn2:=Hd hn2
       replace he:=Hd he
       clear hadd
       go_upto_region 11 with fail
       go_quiet (fail)
       go_wp2
       go_roundw
       case measure=>simp [intOf]; omega
       case rel=>exact ⟨j+1,m,by omega,by go_num,hlo.out,b3.trans ⟨rfl,rfl,rfl,Nat.le_refl _,fun _ _=>rfl⟩,hn2.out⟩
     ·obtain rfl:j=gk.length:=by omega
      have hnext:=(hal.out▸hm:LoopTo G ps k (adjOf G k).length m).next
      replace hnext:=Hd hnext
      replace hm:=Hd hm
      replace hlo:=Hd hlo
      go_wp2
      go_roundw
      case measure=>simp [intOf]; omega
      case rel=>exact ⟨k+1,m,by omega,by go_num,hlo.out,b3,hnext.out⟩
   ·obtain rfl:k=G.length:=by omega
    have hbw:Below w.heap.size w wo:=b1.trans (b3.mono b1.size)
    have hR1:=reach_any na nc G (.slice la ln lc) m wo (h.out.below hbw) hok.out (by omega) hlo.at
    have hon:∀ x,x<G.length→(m x=true↔OnLoop (adjOf G) x):=fun x hx=>by
     rw [hm x hx,onLoop_parts hok.out hps.out hx]
     constructor
     ·rintro (⟨_,q⟩ | ⟨e,_⟩)
      ·exact q
      ·omega
     ·intro q; exact .inl ⟨hx,q⟩
    replace hm:=Hd hm
    replace hon:=Hd hon
    replace hR1:=Hd hR1
    have hlo':=Hd hlo
    clear hlo
    go_wp2_with fail
    refine hR1.out.mono ?_
    rintro e w4 ⟨bv,rfl,b4,bm,hbo,hbm⟩
    have hb4:=Below.step hbw b4
    have hBk:=graph_back na nc G w4 (h.out.below hb4) hok.out (by omega) harr
    replace hBk:=Hd hBk
    go_wp2_with fail
    refine hBk.out.mono ?_
    rintro e w5 ⟨hv,rfl,b5,H,hT,hHl⟩
    obtain ⟨ha,hc,rfl⟩:=hHl.shape
    have hHn:=hT.1
    have hR2:=reach_any ha hc H (.slice la ln lc) m w5 hHl (turned_ok hT) (by omega) (by rw [hHn]; exact (hlo'.out.at.below b4).below b5)
    replace hR2:=Hd hR2
    replace hHn:=Hd hHn
    replace hT:=Hd hT
    replace hHl:=Hd hHl
    go_wp2_with fail
    refine hR2.out.mono ?_
    rintro e w6 ⟨av,rfl,b6,am,hao,ham⟩
    rw [hHn.out] at hao ham
    have hboth:∀ x,x<G.length→((bm x&&am x)=true↔IsLive G.length (adjOf G) x):=fun x hx=>by
     rw [Bool.and_eq_true,hbm x hx,ham x hx]
     unfold IsLive
     constructor
     ·rintro ⟨⟨u,hu,h1,h2⟩,v,hv,h3,h4⟩
      exact ⟨⟨u,hu,(hon.out u hu).1 h1,h2⟩,v,hv,(hon.out v hv).1 h3,turned_goes hT.out hok.out h4 hv⟩
     ·rintro ⟨⟨u,hu,h1,h2⟩,v,hv,h3,h4⟩
      exact ⟨⟨u,hu,(hon.out u hu).2 h1,h2⟩,v,hv,(hon.out v hv).2 h3,goes_turned hT.out hok.out h4 hx⟩
    have hbv:=hbo.at.below (Below.step b5 b6)
    have hav:=hao.at
    have hw6:=Below.step hb4 (Below.step b5 b6)
    replace hboth:=Hd hboth
    replace hbm:=Hd hbm
    replace ham:=Hd ham
    replace hbv:=Hd hbv
    replace hav:=Hd hav
    replace hbo:=Hd hbo
    replace hao:=Hd hao
    clear hR1 hR2 hBk
    go_wp2_with fail
    go_loopw [13,62] (fun qv kv wr=>∃ (k:Nat) (L:List Nat) (qw:Value),qw=qv∧kv=.int .i64 k∧k≤G.length∧L.length≤k∧OwnI w6.heap.size wr qw (castI L)∧Below w6.heap.size w6 wr∧L.Pairwise (·<·)∧∀ v,v∈L↔(v<k∧(bm v&&am v)=true)) (fun _ kv _=>G.length-(intOf kv).toNat)
    case atStart=>exact ⟨0,[],_,rfl,rfl,by omega,by simp,OwnI.nil _ _,Below.refl _ _,List.Pairwise.nil,fun v=>⟨fun q=>(by cases q),fun q=>by omega⟩⟩
    case round =>
     obtain ⟨k,L,qv,rfl,rfl,hk,hLk,hLo,b7,hLs,hLm⟩:=hrel
     obtain ⟨wo,rfl⟩:∃ wo:World,wo=wr:=⟨_,rfl⟩
     by_cases hlt:k<G.length
     ·have hB:=hbv.out.below b7
      have hA:=hav.out.below b7
      have iB:=fun w'=>hB.idx oneBoolG k (by rw [tabB_len]; exact hlt) w'
      have cB:=hB.cellV k (by rw [tabB_len]; exact hlt)
      rw [tabB_get _ _ _ hlt] at cB
      have iA:=fun w'=>hA.idx oneBoolG k (by rw [tabB_len]; exact hlt) w'
      have cA:=hA.cellV k (by rw [tabB_len]; exact hlt)
      rw [tabB_get _ _ _ hlt] at cA
      generalize valAt bv k=qb at *
      generalize valAt av k=qa at *
      have hyes:(bm k&&am k)=true→∀ v,v∈L++[k]↔(v<k+1∧(bm v&&am v)=true):=fun hq v=>by
       rw [List.mem_append,hLm v,List.mem_singleton]
       constructor
       ·rintro (⟨a,b⟩ | rfl)
        ·exact ⟨by omega,b⟩
        ·exact ⟨by omega,hq⟩
       ·rintro ⟨a,b⟩
        by_cases e:v=k
        ·exact .inr e
        ·exact .inl ⟨by omega,b⟩
      have hno:(bm k&&am k)=false→∀ v,v∈L↔(v<k+1∧(bm v&&am v)=true):=fun hq v=>by
       rw [hLm v]
       constructor
       ·rintro ⟨a,b⟩; exact ⟨by omega,b⟩
       ·rintro ⟨a,b⟩
        by_cases e:v=k
        ·subst e; rw [hq] at b; cases b
        ·exact ⟨by omega,b⟩
      have hsrt2:(L++[k]).Pairwise (·<·):=by
       rw [List.pairwise_append]
       refine ⟨hLs,List.pairwise_singleton _ _,fun x hx y hy=>?_⟩
       cases List.mem_singleton.1 hy
       exact ((hLm x).1 hx).1
      obtain ⟨bk,hbk⟩:∃ bk,bm k=bk:=⟨_,rfl⟩
      obtain ⟨ak,hak⟩:∃ ak,am k=ak:=⟨_,rfl⟩
      rw [hbk] at cB hyes hno
      rw [hak] at cA hyes hno
      replace hB:=Hd hB
      replace hA:=Hd hA
      replace hLm:=Hd hLm
      replace hLs:=Hd hLs
      replace hsrt2:=Hd hsrt2
      replace hbk:=Hd hbk
      replace hak:=Hd hak
      cases bk with
      | false =>
       have hn:=hno rfl
       replace hn:=Hd hn
       replace hLo:=Hd hLo
       clear hyes hno
       go_wp2
       go_roundw
       case measure=>simp [intOf]; omega
       case rel=>exact ⟨k+1,L,qv,rfl,by go_num,by omega,by omega,hLo.out,b7,hLs.out,hn.out⟩
      | true =>
       cases ak with
       | false =>
        have hn:=hno rfl
        replace hn:=Hd hn
        replace hLo:=Hd hLo
        clear hyes hno
        go_wp2
        go_roundw
        case measure=>simp [intOf]; omega
        case rel=>exact ⟨k+1,L,qv,rfl,by go_num,by omega,by omega,hLo.out,b7,hLs.out,hn.out⟩
       | true =>
        have hy:=hyes rfl
        replace hy:=Hd hy
        clear hyes hno
        have hB7:w6.heap.size≤wo.heap.size:=b7.size
        go_wp2_with (at_builtin; refine wpl_app1 rfl _ _ rfl w6.heap.size qv (castI L) k hLo rfl rfl (by rw [castI_len]; omega) hB7 ?_)
        intro qv' w8 ho8 b8 hal8
        replace ho8:=Hd ho8
        clear hal8 hLo
        go_wp2
        go_roundw
        case measure=>simp [intOf]; omega
        case rel=>exact ⟨k+1,L++[k],qv',rfl,by go_num,by omega,by rw [List.length_append]; simp only [List.length_cons,List.length_nil]; omega,by rw [castI_snoc]; exact ho8.out,b7.trans b8,hsrt2.out,hy.out⟩
     ·obtain rfl:k=G.length:=by omega
      have hLL:LiveList G.length (adjOf G) L:=⟨hLs,fun v=>by
       rw [hLm v]
       constructor
       ·rintro ⟨a,b⟩; exact ⟨a,(hboth.out v a).1 b⟩
       ·rintro ⟨a,b⟩; exact ⟨a,(hboth.out v a).2 b⟩⟩
      obtain ⟨qa,qn,qc,rfl⟩:=hLo.at.shape
      replace hLL:=Hd hLL
      replace hLo:=Hd hLo
      replace hLm:=Hd hLm
      replace hLs:=Hd hLs
      go_wp2
      go_ret2
      exact ⟨_,_,rfl,Below.step hw6 b7,⟨by rw [hck.out]; rfl,⟨fun _=>⟨L,hLL.out,hLo.out.mono hw6.size⟩,fun q=>absurd hck.out q⟩⟩⟩
end Go.Proofs.YtkaoebokbfcmhaaGreatDoor
namespace Go.Proofs.YtkaoebokbfcmhaaGreatDoor
open Go.RowKit
set_option maxRecDepth 100000
theorem oddTo_miss {G:List (List Int)} {k:Nat} (hk:oddTo G k<0) (h:∀ t∈G.getD k [],oddT G.length t=false):oddTo G (k+1)<0:=by
 simp only [oddTo]
 rw [if_pos hk]
 rcases idxOf_cases (oddT G.length) (G.getD k []) with ⟨q,_⟩ | ⟨i,_,q1,q2⟩
 ·rw [if_neg (by omega)]; exact hk
 ·exfalso
  simp_all
end Go.Proofs.YtkaoebokbfcmhaaGreatDoor
namespace Go.Proofs.YtkaoebokbfcmhaaGreatDoor
def FarOf (n:Nat) (adj:Nat→List Nat) (s:Nat) (D:Nat→Int):Prop :=
 ∀ t,t<n→(D t=-1∧¬ Goes adj s t)∨∃ w,Way adj s t w∧(w.length:Int)=D t+1∧∀ u,Way adj s t u→w.length≤u.length
def ToOf (n:Nat) (adj:Nat→List Nat) (s:Nat) (D:Nat→Int):Prop :=
 ∀ t,t<n→(D t=-1∧¬ Goes adj t s)∨∃ w,Way adj t s w∧(w.length:Int)=D t+1∧∀ u,Way adj t s u→w.length≤u.length
theorem ToOf.low {n:Nat} {adj:Nat→List Nat} {s:Nat} {D:Nat→Int} (h:ToOf n adj s D) {t:Nat} (ht:t<n):-1≤D t:=by
 rcases h t ht with ⟨h1,_⟩ | ⟨w,h1,h2,_⟩
 ·omega
 ·have:=h1.pos; omega
theorem ToOf.pos {n:Nat} {adj:Nat→List Nat} {s:Nat} {D:Nat→Int} (h:ToOf n adj s D) {t:Nat} (ht:t<n):0≤D t↔Goes adj t s:=by
 rcases h t ht with ⟨h1,h2⟩ | ⟨w,h1,h2,_⟩
 ·exact ⟨fun q=>by omega,fun q=>absurd q h2⟩
 ·exact ⟨fun _=>h1.goes,fun _=>by have:=h1.pos; omega⟩
theorem ToOf.le {n:Nat} {adj:Nat→List Nat} {s:Nat} {D:Nat→Int} (h:ToOf n adj s D) {t:Nat} (ht:t<n) {u:List Nat} (hu:Way adj t s u):0≤D t∧D t+1≤u.length:=by
 rcases h t ht with ⟨_,h2⟩ | ⟨w,h1,h2,h3⟩
 ·exact absurd hu.goes h2
 ·have:=h1.pos; have:=h3 u hu; omega
theorem ToOf.first {n:Nat} {adj:Nat→List Nat} {s:Nat} {D:Nat→Int} (h:ToOf n adj s D) {t:Nat} (ht:t<n) {u:List Nat} (hu:IsFirst adj t s u):(u.length:Int)=D t+1:=by
 rcases h t ht with ⟨_,h2⟩ | ⟨w,h1,h2,h3⟩
 ·exact absurd hu.way.goes h2
 ·have:=h3 u hu.way; have:=hu.short w h1; omega
theorem FarOf.pos {n:Nat} {adj:Nat→List Nat} {s:Nat} {D:Nat→Int} (h:FarOf n adj s D) {t:Nat} (ht:t<n):0≤D t↔Goes adj s t:=by
 rcases h t ht with ⟨h1,h2⟩ | ⟨w,h1,h2,_⟩
 ·exact ⟨fun q=>by omega,fun q=>absurd q h2⟩
 ·exact ⟨fun _=>h1.goes,fun _=>by have:=h1.pos; omega⟩
structure FBase (adj:Nat→List Nat) (s:Nat) (D:Nat→Int) (q:List Nat) (b i:Nat):Prop where
 hd:q[0]?=some s
 nodup:q.Nodup
 there:∀ x,0≤D x↔x∈q
 low:∀ x,-1≤D x
 d0:D s=0
 sound:∀ x∈q,∃ w,Way adj s x w∧(w.length:Int)=D x+1
 par:∀ x∈q,x=s∨∃ p y,p<b∧q[p]?=some y∧D x=D y+1
 mono:∀ (j k x y:Nat),j≤k→q[j]?=some x→q[k]?=some y→D x≤D y
 closed:∀ p x,p<i→q[p]?=some x→∀ t∈adj x,0≤D t∧D t≤D x+1
structure FIn (adj:Nat→List Nat) (s:Nat) (D:Nat→Int) (q:List Nat) (i v:Nat) (l:List Nat):Prop where
 base:FBase adj s D q (i+1) i
 cur:q[i]?=some v
 sub:∀ t∈l,t∈adj v
 seen:∀ t∈adj v,t∈l∨(0≤D t∧D t≤D v+1)
section
variable {adj:Nat→List Nat} {s:Nat} {D:Nat→Int} {q:List Nat} {i v b:Nat} {l:List Nat}
theorem FBase.init (adj:Nat→List Nat) (s:Nat):FBase adj s (updN (fun _=>(-1:Int)) s 0) [s] 0 0:=by
 have hg:∀ j x,[s][j]?=some x→j=0∧x=s:=fun j x hx=>by
  cases j with
  | zero=>simp at hx; exact ⟨rfl,hx.symm⟩
  | succ j=>simp at hx
 refine ⟨rfl,by simp,fun x=>?_,fun x=>?_,updN_same _ _ _,fun x hx=>?_,fun x hx=>?_,fun j k x y _ hx hy=>?_,fun p x hp=>by omega⟩
 ·by_cases e:x=s
  ·subst e; rw [updN_same]; simp
  ·rw [updN_other _ _ _ e]; simp [e]
 ·by_cases e:x=s
  ·subst e; rw [updN_same]; omega
  ·rw [updN_other _ _ _ e]; omega
 ·cases List.mem_singleton.1 hx; exact ⟨_,.one _,by rw [updN_same]; simp⟩
 ·exact .inl (List.mem_singleton.1 hx)
 ·rw [(hg j x hx).2,(hg k y hy).2]; exact Int.le_refl _
theorem FBase.enter (h:FBase adj s D q i i) (hv:q[i]?=some v):FIn adj s D q i v (adj v) :=
 ⟨⟨h.hd,h.nodup,h.there,h.low,h.d0,h.sound,fun x hx=>(h.par x hx).imp id (fun ⟨p,y,h1,h2⟩=>⟨p,y,by omega,h2⟩),h.mono,h.closed⟩,hv,fun t ht=>ht,fun t ht=>.inl ht⟩
theorem FIn.leave (h:FIn adj s D q i v []):FBase adj s D q (i+1) (i+1):=by
 refine ⟨h.base.hd,h.base.nodup,h.base.there,h.base.low,h.base.d0,h.base.sound,h.base.par,h.base.mono,fun p x hp hx t ht=>?_⟩
 by_cases e:p=i
 ·subst e
  rw [h.cur] at hx; cases hx
  exact (h.seen t ht).resolve_left (by simp)
 ·exact h.base.closed p x (by omega) hx t ht
theorem FIn.top (h:FIn adj s D q i v l):∀ x∈q,D x≤D v+1:=by
 intro x hx
 have hv0:=(h.base.there v).2 (List.mem_of_getElem? h.cur)
 rcases h.base.par x hx with rfl | ⟨p,y,h1,h2,h3⟩
 ·have:=h.base.d0; omega
 ·have:=h.base.mono p i y v (by omega) h2 h.cur; omega
theorem FIn.old {t:Nat} (h:FIn adj s D q i v (t::l)) (ht:0≤D t):FIn adj s D q i v l:=by
 refine ⟨h.base,h.cur,fun x hx=>h.sub x (List.mem_cons_of_mem _ hx),fun x hx=>?_⟩
 rcases h.seen x hx with q1 | q1
 ·rcases List.mem_cons.1 q1 with e | e
  ·subst e; exact .inr ⟨ht,h.top x ((h.base.there x).1 ht)⟩
  ·exact .inl e
 ·exact .inr q1
theorem FIn.add {t:Nat} (h:FIn adj s D q i v (t::l)) (ht:D t<0):FIn adj s (updN D t (D v+1)) (q++[t]) i v l:=by
 have hB:=h.base
 have htq:t∉q:=fun hm=>by have:=(hB.there t).2 hm; omega
 have hil:=get_of h.cur
 have hvq:=List.mem_of_getElem? h.cur
 have hv0:=(hB.there v).2 hvq
 have hga:∀ j x,(q++[t])[j]?=some x→q[j]?=some x∧j<q.length∧x≠t∨j=q.length∧x=t:=fun j x hx=>by
  by_cases e:j<q.length
  ·rw [List.getElem?_append_left e] at hx
   exact .inl ⟨hx,e,fun e2=>htq (by rw [← e2]; exact List.mem_of_getElem? hx)⟩
  ·rw [List.getElem?_append_right (by omega)] at hx
   by_cases e2:j=q.length
   ·rw [e2] at hx; simp at hx; exact .inr ⟨e2,hx.symm⟩
   ·rw [List.getElem?_eq_none (by simp; omega)] at hx; cases hx
 have hgo:∀ {j x},q[j]?=some x→(q++[t])[j]?=some x:=fun {j x} hx=>by rw [List.getElem?_append_left (get_of hx)]; exact hx
 have hne:∀ x,x∈q→x≠t:=fun x hx e=>htq (by rw [← e]; exact hx)
 have dq:∀ x,x∈q→updN D t (D v+1) x=D x:=fun x hx=>updN_other _ _ _ (hne x hx)
 have hsq:s∈q:=List.mem_of_getElem? hB.hd
 have htop:=h.top
 refine ⟨⟨hgo hB.hd,?_,fun x=>?_,fun x=>?_,?_,fun x hx=>?_,fun x hx=>?_,fun j k x y hjk hx hy=>?_,fun p x hp hx t' ht'=>?_⟩,hgo h.cur,fun x hx=>h.sub x (List.mem_cons_of_mem _ hx),fun x hx=>?_⟩
 ·exact List.nodup_append.2 ⟨hB.nodup,by simp,fun x hx y hy=>by cases List.mem_singleton.1 hy; exact hne x hx⟩
 ·by_cases e:x=t
  ·subst e; rw [updN_same]; simp; omega
  ·rw [updN_other _ _ _ e,hB.there]; simp [e]
 ·by_cases e:x=t
  ·subst e; rw [updN_same]; omega
  ·rw [updN_other _ _ _ e]; exact hB.low x
 ·rw [dq s hsq]; exact hB.d0
 ·rcases List.mem_append.1 hx with hx | hx
  ·rw [dq x hx]; exact hB.sound x hx
  ·cases List.mem_singleton.1 hx
   obtain ⟨w,h1,h2⟩:=hB.sound v hvq
   refine ⟨w++[t],h1.snoc (h.sub _ List.mem_cons_self),?_⟩
   rw [updN_same,List.length_append,List.length_singleton]; omega
 ·rcases List.mem_append.1 hx with hx | hx
  ·rcases hB.par x hx with e | ⟨p,y,h1,h2,h3⟩
   ·exact .inl e
   ·exact .inr ⟨p,y,h1,hgo h2,by rw [dq x hx,dq y (List.mem_of_getElem? h2)]; exact h3⟩
  ·cases List.mem_singleton.1 hx
   exact .inr ⟨i,v,by omega,hgo h.cur,by rw [updN_same,dq v hvq]⟩
 ·rcases hga k y hy with ⟨k1,k2,k3⟩ | ⟨rfl,rfl⟩
  ·rcases hga j x hx with ⟨h1,h2,h3⟩ | ⟨rfl,rfl⟩
   ·rw [dq x (List.mem_of_getElem? h1),dq y (List.mem_of_getElem? k1)]; exact hB.mono j k x y hjk h1 k1
   ·omega
  ·rcases hga j x hx with ⟨h1,h2,h3⟩ | ⟨h1,rfl⟩
   ·rw [dq x (List.mem_of_getElem? h1),updN_same]; exact htop x (List.mem_of_getElem? h1)
   ·exact Int.le_refl _
 ·rcases hga p x hx with ⟨h1,h2,h3⟩ | ⟨h1,rfl⟩
  ·have:=hB.closed p x hp h1 t' ht'
   have e:t'≠t:=fun e=>by subst e; omega
   rw [updN_other _ _ _ e,dq x (List.mem_of_getElem? h1)]
   exact this
  ·omega
 ·by_cases e:x=t
  ·subst e; right; rw [updN_same,dq v hvq]; omega
  ·rcases h.seen x hx with q1 | q1
   ·exact .inl ((List.mem_cons.1 q1).resolve_left e)
   ·right; rw [updN_other _ _ _ e,dq v hvq]; exact q1
theorem FBase.far (h:FBase adj s D q b i) (hi:q.length≤i) {x y:Nat} {u:List Nat} (hu:Way adj x y u) (hx:x∈q):y∈q∧D y+1≤D x+u.length:=by
 induction hu with
 | one=>exact ⟨hx,by simp⟩
 | @cons x t y w ht hu ih =>
  obtain ⟨j,hj⟩:=List.mem_iff_getElem?.1 hx
  have:=h.closed j x (by have:=get_of hj; omega) hj t ht
  have:=ih ((h.there t).1 this.1)
  exact ⟨this.1,by simp only [List.length_cons]; omega⟩
end
theorem step_first {n:Nat} {adj:Nat→List Nat} {s:Nat} {D:Nat→Int} (h:ToOf n adj s D) (hlt:∀ v,v<n→∀ t∈adj v,t<n) {v best:Nat} (hv:v<n)
 (hb:best∈adj v) (hd:D best=D v-1) (h0:0≤D best) (hm:∀ t∈adj v,D t=D v-1→best≤t) {u:List Nat} (hu:IsFirst adj best s u):IsFirst adj v s (v::u):=by
 have hbn:=hlt v hv best hb
 have hul:=h.first hbn hu
 refine ⟨.cons hb hu.way,fun x hx=>?_,fun x hx hl=>?_⟩
 ·have:=h.le hv hx
  simp only [List.length_cons]; omega
 ·cases hx with
  | one=>simp only [List.length_cons,List.length_nil] at hl; have:=hu.way.pos; omega
  | @cons _ t _ x' ht hx' =>
   have htn:=hlt v hv t ht
   have h1:=h.le htn hx'
   have h2:=h.le hv (.cons ht hx')
   simp only [List.length_cons] at hl h2
   have hdt:D t=D v-1:=by
    rcases h t htn with ⟨_,q⟩ | ⟨w,w1,w2,w3⟩
    ·exact absurd hx'.goes q
    ·have:=h.le hv (.cons ht w1)
     simp only [List.length_cons] at this
     omega
   have hbt:=hm t ht hdt
   refine .inr ⟨rfl,?_⟩
   by_cases e:best=t
   ·subst e; exact hu.least x' hx' (by omega)
   ·obtain ⟨_,rfl⟩:=hx'.ne
    obtain ⟨_,rfl⟩:=hu.way.ne
    exact .inl (by omega)
theorem ToOf.next {n:Nat} {adj:Nat→List Nat} {s:Nat} {D:Nat→Int} (h:ToOf n adj s D) (hlt:∀ v,v<n→∀ t∈adj v,t<n) {v:Nat} (hv:v<n) (hne:v≠s) (h0:0≤D v):1≤D v∧∃ t∈adj v,D t=D v-1:=by
 rcases h v hv with ⟨q,_⟩ | ⟨w,w1,w2,w3⟩
 ·omega
 ·cases w1 with
  | one=>exact absurd rfl hne
  | @cons _ t _ w' ht hw =>
   have htn:=hlt v hv t ht
   have:=hw.pos
   simp only [List.length_cons] at w2 w3
   refine ⟨by omega,t,ht,?_⟩
   rcases h t htn with ⟨_,q⟩ | ⟨x,x1,x2,x3⟩
   ·exact absurd hw.goes q
   ·have:=x3 w' hw
    have:=w3 _ (.cons ht x1)
    simp only [List.length_cons] at this
    omega
def sumN (F:Nat→Nat):Nat→Nat
 | 0=>0
 | n+1=>sumN F n+F n
theorem sumN_congr {F F':Nat→Nat}:∀ {n},(∀ v,v<n→F v=F' v)→sumN F n=sumN F' n
 | 0,_=>rfl
 | n+1,h=>by
  show sumN F n+F n=sumN F' n+F' n
  rw [sumN_congr (n:=n) (fun v hv=>h v (by omega)),h n (by omega)]
theorem sumN_pos {F:Nat→Nat}:∀ {n},0<sumN F n↔∃ v,v<n∧0<F v
 | 0=>by simp [sumN]
 | n+1=>by
  show 0<sumN F n+F n↔_
  constructor
  ·intro h
   by_cases e:0<sumN F n
   ·obtain ⟨v,h1,h2⟩:=sumN_pos.1 e; exact ⟨v,by omega,h2⟩
   ·exact ⟨n,by omega,by omega⟩
  ·rintro ⟨v,h1,h2⟩
   by_cases e:v=n
   ·subst e; omega
   ·have:=sumN_pos.2 ⟨v,show v<n by omega,h2⟩; omega
theorem sumN_upd {F F':Nat→Nat} {v:Nat} (h:∀ u,u≠v→F' u=F u):∀ {n},v<n→sumN F' n+F v=sumN F n+F' v
 | 0,q=>by omega
 | n+1,q=>by
  show sumN F' n+F' n+F v=sumN F n+F n+F' v
  by_cases e:v=n
  ·subst e
   rw [sumN_congr (n:=v) (fun u hu=>h u (by omega))]; omega
  ·have:=sumN_upd h (n:=n) (by omega)
   rw [h n (fun q=>e q.symm)]; omega
theorem sumN_zero:∀ n,sumN (fun _=>0) n=0
 | 0=>rfl
 | n+1=>by show sumN _ n+0=0; rw [sumN_zero n]
theorem sumN_add (F F':Nat→Nat):∀ n,sumN (fun v=>F v+F' v) n=sumN F n+sumN F' n
 | 0=>rfl
 | n+1=>by show sumN _ n+(F n+F' n)=sumN F n+F n+(sumN F' n+F' n); rw [sumN_add F F' n]; omega
theorem sumN_one (x:Nat):∀ n,sumN (fun v=>if v=x then 1 else 0) n=if x<n then 1 else 0
 | 0=>rfl
 | n+1=>by
  show sumN _ n+(if n=x then 1 else 0)=_
  rw [sumN_one x n]
  by_cases e:n=x
  ·subst e; simp
  ·rw [if_neg e]
   by_cases q:x<n
   ·rw [if_pos q,if_pos (by omega)]
   ·rw [if_neg q,if_neg (by omega)]
theorem length_counts (n:Nat):∀ (l:List Nat),(∀ x∈l,x<n)→l.length=sumN (fun v=>l.count v) n
 | [],_=>by simp [sumN_zero]
 | x::l,h=>by
  have ih:=length_counts n l (fun y hy=>h y (List.mem_cons_of_mem _ hy))
  have e:(fun v=>(x::l).count v)=fun v=>l.count v+if v=x then 1 else 0:=by
   funext v
   rw [List.count_cons]
   by_cases q:x=v
   ·simp [q]
   ·rw [if_neg (by simpa using q),if_neg (fun r=>q r.symm)]
  rw [e,sumN_add,sumN_one,if_pos (h x List.mem_cons_self),← ih,List.length_cons]
def Deg (n:Nat) (A:Nat→List Nat) (c inn:Nat→Nat):Prop:=∀ t,t<n→inn t=sumN (fun v=>((A v).drop (c v)).count t) n
theorem Deg.init {n:Nat} {A B:Nat→List Nat} (hB:∀ t,t<n→∀ x∈B t,x<n) (hc:∀ v t,v<n→t<n→(B t).count v=(A v).count t):Deg n A (fun _=>0) (fun t=>(B t).length):=by
 intro t ht
 show (B t).length=_
 rw [length_counts n _ (hB t ht)]
 exact sumN_congr fun v hv=>by rw [hc v t hv ht,List.drop_zero]
theorem Deg.step {n:Nat} {A:Nat→List Nat} {c inn:Nat→Nat} {v j t:Nat} (h:Deg n A c inn) (hv:v<n) (hj:c v=j) (ht:(A v)[j]?=some t) (htn:t<n) :
 0<inn t∧Deg n A (updN c v (j+1)) (updN inn t (inn t-1)):=by
 have hjl:j<(A v).length:=get_of ht
 have hd:(A v).drop j=t::(A v).drop (j+1):=by
  rw [List.drop_eq_getElem_cons hjl]
  rw [List.getElem?_eq_getElem hjl] at ht; injection ht with ht; rw [ht]
 have key:∀ x,sumN (fun u=>((A u).drop (updN c v (j+1) u)).count x) n+(if x=t then 1 else 0)=sumN (fun u=>((A u).drop (c u)).count x) n:=by
  intro x
  have:=sumN_upd (F:=fun u=>((A u).drop (c u)).count x) (F':=fun u=>((A u).drop (updN c v (j+1) u)).count x) (v:=v) (fun u hu=>by simp only [updN_other _ _ _ hu]) hv
  simp only [updN_same,hj,hd,List.count_cons] at this
  by_cases e:x=t
  ·subst e; rw [if_pos rfl]; simp at this; omega
  ·rw [if_neg e]
   have e2:(t==x)=false:=by simpa using fun q=>e q.symm
   rw [e2] at this; simp at this; omega
 have h1:=key t
 rw [if_pos rfl,← h t htn] at h1
 refine ⟨by omega,fun x hx=>?_⟩
 have h2:=key x
 by_cases e:x=t
 ·subst e; rw [updN_same]; omega
 ·rw [updN_other _ _ _ e,h x hx]; rw [if_neg e] at h2; omega
structure Peel (n:Nat) (A B:Nat→List Nat) (inn out:Nat→Nat) (c d:Nat→Nat) (gone:Nat→Bool) (q:List Nat) (lives:Nat→Prop):Prop where
 deg1:Deg n A c inn
 deg2:Deg n B d out
 nodup:q.Nodup
 goneq:∀ x,gone x=true↔x∈q
 low:∀ x∈q,x<n
 fresh:∀ v,v∉q→c v=0∧d v=0
 keep:∀ t,t<n→lives t→gone t=false
structure LiveSet (n:Nat) (A B:Nat→List Nat) (lives:Nat→Prop):Prop where
 behind:∀ t,t<n→lives t→∃ p,p<n∧lives p∧t∈A p
 ahead:∀ t,t<n→lives t→∃ p,p<n∧lives p∧t∈B p
section
variable {n:Nat} {A B:Nat→List Nat} {inn out c d:Nat→Nat} {gone:Nat→Bool} {q:List Nat} {lives:Nat→Prop}
theorem Peel.live_in (h:Peel n A B inn out c d gone q lives) (hL:LiveSet n A B lives) {t:Nat} (ht:t<n) (hl:lives t):0<inn t∧0<out t:=by
 have aux:∀ p,p<n→lives p→c p=0∧d p=0:=fun p hp hlp=>h.fresh p (fun q=>by have:=(h.goneq p).2 q; rw [h.keep p hp hlp] at this; cases this)
 refine ⟨?_,?_⟩
 ·obtain ⟨p,hp,hlp,hm⟩:=hL.behind t ht hl
  rw [h.deg1 t ht]
  refine sumN_pos.2 ⟨p,hp,?_⟩
  rw [(aux p hp hlp).1,List.drop_zero]
  exact List.count_pos_iff.2 hm
 ·obtain ⟨p,hp,hlp,hm⟩:=hL.ahead t ht hl
  rw [h.deg2 t ht]
  refine sumN_pos.2 ⟨p,hp,?_⟩
  rw [(aux p hp hlp).2,List.drop_zero]
  exact List.count_pos_iff.2 hm
theorem Peel.goes (h:Peel n A B inn out c d gone q lives) (hL:LiveSet n A B lives) {t:Nat} (ht:t<n) (hg:gone t=false) (h0:inn t=0∨out t=0):Peel n A B inn out c d (updN gone t true) (q++[t]) lives:=by
 have htq:t∉q:=fun r=>by have:=(h.goneq t).2 r; rw [hg] at this; cases this
 refine ⟨h.deg1,h.deg2,?_,fun x=>?_,fun x hx=>?_,fun v hv=>h.fresh v (fun r=>hv (List.mem_append_left _ r)),fun x hx hl=>?_⟩
 ·exact List.nodup_append.2 ⟨h.nodup,by simp,fun x hx y hy e=>by cases List.mem_singleton.1 hy; subst e; exact htq hx⟩
 ·by_cases e:x=t
  ·subst e; rw [updN_same]; simp
  ·rw [updN_other _ _ _ e,h.goneq]; simp [e]
 ·rcases List.mem_append.1 hx with hx | hx
  ·exact h.low x hx
  ·cases List.mem_singleton.1 hx; exact ht
 ·by_cases e:x=t
  ·subst e
   have:=h.live_in hL hx hl; omega
  ·rw [updN_other _ _ _ e]; exact h.keep x hx hl
theorem Peel.arrow1 (h:Peel n A B inn out c d gone q lives) {v j t:Nat} (hv:v∈q) (hj:c v=j) (ht:(A v)[j]?=some t) (htn:t<n) :
 0<inn t∧Peel n A B (updN inn t (inn t-1)) out (updN c v (j+1)) d gone q lives:=by
 obtain ⟨h1,h2⟩:=h.deg1.step (h.low v hv) hj ht htn
 exact ⟨h1,h2,h.deg2,h.nodup,h.goneq,h.low,fun u hu=>by
  have e:u≠v:=fun e=>hu (by rw [e]; exact hv)
  rw [updN_other _ _ _ e]; exact h.fresh u hu,h.keep⟩
end
open Go.RowKit
set_option maxRecDepth 100000
def CntTo (G:List (List Int)) (k j:Nat) (F:Nat→List Int):Prop :=
 ∀ t,t<G.length→∀ v:Nat,(F t).count (v:Int)=if v<k then (G.getD v []).count (t:Int) else if v=k then ((G.getD k []).take j).count (t:Int) else 0
theorem CntTo.zero (G:List (List Int)):CntTo G 0 0 (fun _=>[]):=by
 intro t _ v
 rw [if_neg (by omega)]
 split<;>simp
theorem CntTo.next {G:List (List Int)} {k:Nat} {F:Nat→List Int} (h:CntTo G k (G.getD k []).length F):CntTo G (k+1) 0 F:=by
 intro t ht v
 rw [h t ht v,List.take_length]
 by_cases e:v<k
 ·rw [if_pos e,if_pos (by omega)]
 ·rw [if_neg e]
  by_cases e2:v=k
  ·subst e2; rw [if_pos rfl,if_pos (by omega)]
  ·rw [if_neg e2,if_neg (by omega)]
   split<;>simp
theorem CntTo.add {G:List (List Int)} {k j u:Nat} {F:Nat→List Int} (h:CntTo G k j F) (hj:(G.getD k [])[j]?=some (u:Int)):CntTo G k (j+1) (updN F u (F u++[(k:Int)])):=by
 have htk:(G.getD k []).take (j+1)=(G.getD k []).take j++[(u:Int)]:=by
  rw [List.take_add_one,hj]; rfl
 intro t ht v
 have h1:=h t ht v
 rw [htk,List.count_append]
 by_cases e:t=u
 ·subst e
  rw [updN_same,List.count_append,h1]
  by_cases e1:v<k
  ·rw [if_pos e1,if_pos e1]
   have:([(k:Int)]:List Int).count (v:Int)=0:=by
    rw [List.count_eq_zero]; simp; omega
   omega
  ·rw [if_neg e1,if_neg e1]
   by_cases e2:v=k
   ·subst e2; rw [if_pos rfl,if_pos rfl]; simp
   ·rw [if_neg e2,if_neg e2]
    rw [Nat.zero_add,List.count_eq_zero]; simp; omega
 ·rw [updN_other _ _ _ e,h1]
  have:([(u:Int)]:List Int).count (t:Int)=0:=by
   rw [List.count_eq_zero]; simp; omega
  rw [this,Nat.add_zero]
structure TurnedX (G H:List (List Int)):Prop where
 t:TurnedOf G H
 cnt:∀ t v,t<G.length→v<G.length→(adjOf H t).count v=(adjOf G v).count t
def ListsFrom (B:Nat) (w:World) (v:Value) (G:List (List Int)):Prop :=
 ∃ vs:List Value,OwnV 22 B w v vs∧vs.length=G.length∧∀ i,i<G.length→OwnI B w (vAt vs i) (G.getD i [])
theorem ListsFrom.at {B:Nat} {w:World} {v:Value} {G:List (List Int)} (h:ListsFrom B w v G):ListsAt w v G:=by
 obtain ⟨vs,h1,h2,h3⟩:=h
 exact ⟨vs,h1.at,h2,fun i hi=>(h3 i hi).at⟩
theorem ListsFrom.below {B:Nat} {w w':World} {v:Value} {G:List (List Int)} (h:ListsFrom B w v G) (hb:Below w.heap.size w w'):ListsFrom B w' v G:=by
 obtain ⟨vs,h1,h2,h3⟩:=h
 exact ⟨vs,h1.below hb,h2,fun i hi=>(h3 i hi).below hb⟩
theorem ListsFrom.set {B:Nat} {w:World} {v:Value} {G:List (List Int)} (h:ListsFrom B w v G) {a:Addr} (ha:a.block<B) (u:Value):ListsFrom B (w.setCell a u) v G:=by
 obtain ⟨vs,h1,h2,h3⟩:=h
 exact ⟨vs,OwnV.setBelowBase h1 ha u,h2,fun i hi=>OwnV.toI (OwnV.setBelowBase (h3 i hi).toV ha u)⟩
theorem WN.from {B:Nat} {w:World} {f:Names} {ov:Value} {vals:List Value} {n:Nat} {F:Nat→List Int} (h:WN f ov vals n F) (hr:Rows B w f):ListsFrom B w ov (rowsOf n F) :=
 ⟨vals,hr.ownV h.outer,by rw [h.len,rowsOf_len],fun i hi=>by
   rw [rowsOf_len] at hi
   rw [rowsOf_get n F i hi]
   exact hr.ownI (h.rows i hi)⟩
def BestTo (l:List Nat) (D:Nat→Int) (d:Int) (k:Nat) (b:Int):Prop :=
 (b=-1∧∀ t∈l.take k,D t≠d)∨∃ m:Nat,b=m∧m∈l.take k∧D m=d∧∀ t∈l.take k,D t=d→m≤t
theorem BestTo.zero (l:List Nat) (D:Nat→Int) (d:Int):BestTo l D d 0 (-1):=.inl ⟨rfl,fun t ht=>by simp at ht⟩
theorem BestTo.low {l:List Nat} {D:Nat→Int} {d:Int} {k:Nat} {b:Int} (h:BestTo l D d k b):-1≤b:=by
 rcases h with ⟨h,_⟩ | ⟨m,h,_⟩<;>omega
theorem take_mem {l:List Nat} {k t:Nat} (ht:l[k]?=some t) (x:Nat):x∈l.take (k+1)↔x∈l.take k∨x=t:=by
 rw [List.take_add_one,ht]; simp
theorem BestTo.skip {l:List Nat} {D:Nat→Int} {d:Int} {k:Nat} {b:Int} (h:BestTo l D d k b) {t:Nat} (ht:l[k]?=some t) (hd:D t≠d):BestTo l D d (k+1) b:=by
 rcases h with ⟨h1,h2⟩ | ⟨m,h1,h2,h3,h4⟩
 ·refine .inl ⟨h1,fun x hx=>?_⟩
  rcases (take_mem ht x).1 hx with hx | rfl
  ·exact h2 x hx
  ·exact hd
 ·refine .inr ⟨m,h1,(take_mem ht m).2 (.inl h2),h3,fun x hx hxd=>?_⟩
  rcases (take_mem ht x).1 hx with hx | rfl
  ·exact h4 x hx hxd
  ·exact absurd hxd hd
theorem BestTo.take {l:List Nat} {D:Nat→Int} {d:Int} {k:Nat} {b:Int} (h:BestTo l D d k b) {t:Nat} (ht:l[k]?=some t) (hd:D t=d) (hb:b<0∨(t:Int)<b):BestTo l D d (k+1) t:=by
 refine .inr ⟨t,rfl,(take_mem ht t).2 (.inr rfl),hd,fun x hx hxd=>?_⟩
 rcases (take_mem ht x).1 hx with hx | rfl
 ·rcases h with ⟨h1,h2⟩ | ⟨m,h1,h2,h3,h4⟩
  ·exact absurd hxd (h2 x hx)
  ·have:=h4 x hx hxd; omega
 ·exact Nat.le_refl _
structure Down (n:Nat) (adj:Nat→List Nat) (x y:Nat) (D:Nat→Int) (out:List Nat) (v:Nat):Prop where
 low:v<n
 there:0≤D v
 len:(out.length:Int)+D v=D x+1
 last:∃ pre,out=pre++[v]
 ext:∀ u,IsFirst adj v y u→∀ pre,out=pre++[v]→IsFirst adj x y (pre++u)
theorem Down.start {n:Nat} {adj:Nat→List Nat} {x y:Nat} {D:Nat→Int} (hx:x<n) (h0:0≤D x):Down n adj x y D [x] x :=
 ⟨hx,h0,by simp; omega,⟨[],rfl⟩,fun u hu pre hp=>by
   cases pre with
   | nil=>exact hu
   | cons a pre=>simp at hp⟩
theorem Down.next {n:Nat} {adj:Nat→List Nat} {x y:Nat} {D:Nat→Int} {out:List Nat} {v m:Nat} (h:Down n adj x y D out v) (hT:ToOf n adj y D) (hlt:∀ v,v<n→∀ t∈adj v,t<n) (hm:m∈adj v) (hd:D m=D v-1) (h1:1≤D v)
 (hmin:∀ t∈adj v,D t=D v-1→m≤t):Down n adj x y D (out++[m]) m:=by
 refine ⟨hlt v h.low m hm,by omega,by rw [List.length_append,List.length_singleton]; have:=h.len; omega,⟨out,rfl⟩,fun u hu pre hp=>?_⟩
 have hp2:out=pre:=List.append_inj_left' hp rfl
 subst hp2
 obtain ⟨pre,hpre⟩:=h.last
 have:=h.ext (v::u) (step_first hT hlt h.low hm hd (by omega) hmin hu) pre hpre
 rw [hpre,List.append_assoc]
 exact this
theorem IsFirst.one (adj:Nat→List Nat) (y:Nat):IsFirst adj y y [y]:=by
 refine ⟨.one y,fun u hu=>hu.pos,fun u hu hl=>?_⟩
 obtain ⟨w,rfl⟩:=hu.ne
 cases w with
 | nil=>exact lexLe_refl _
 | cons a w=>simp at hl
theorem Down.stop {n:Nat} {adj:Nat→List Nat} {x y:Nat} {D:Nat→Int} {out:List Nat} (h:Down n adj x y D out y):IsFirst adj x y out:=by
 obtain ⟨pre,hpre⟩:=h.last
 rw [hpre]
 exact h.ext [y] (IsFirst.one adj y) pre hpre
theorem row_push {B:Nat} {w w1:World} {f:Names} {i:Nat×Nat} {qv qv':Value} {q:List Nat} (hr:Rows B w f) (hf:f i=some (rowI qv (castI q))) (t:Nat) (ho:OwnI B w1 qv' (castI q++[(t:Int)]))
 (hal:(roomOf qv'=roomOf qv∧w.grownBy w1 qv.ownBlock)∨(∃ k,qv'.ownBlock=some k∧w.heap.size≤k∧w.grownBy w1 none)):Rows B w1 (upd f i (some (rowI qv' (castI (q++[t]))))):=by
 have hO:=hr.ownI hf
 have hg:w.grownBy w1 qv.ownBlock:=grown_via (hal.imp (·.2) (fun ⟨_,_,_,q⟩=>q))
 have hob:qv'.ownBlock=qv.ownBlock∨∃ k,qv'.ownBlock=some k∧w.heap.size≤k:=by
  rcases hal with ⟨q,_⟩ | ⟨k,h1,h2,_⟩
  ·obtain ⟨a1,n1,c1,e1⟩:=hO.at.shape
   obtain ⟨a2,n2,c2,e2⟩:=ho.at.shape
   exact .inl (ownBlock_of_room e1 e2 q)
  ·exact .inr ⟨k,h1,h2⟩
 have:=hr.grown (r':=rowI qv' (castI q++[(t:Int)])) hf hg ho hob
 rwa [← castI_snoc] at this
theorem OwnI.set3 {B b:Nat} {w:World} {v:Value} {xs:List Int} (h:OwnI B w v xs) (hb:b<B) (x y z:Value):OwnI B (((w.setCell ⟨b,0,none⟩ x).setCell ⟨b,1,none⟩ y).setCell ⟨b,2,none⟩ z) v xs :=
 OwnV.toI (((h.toV.setBelowBase (a:=⟨b,0,none⟩) hb x).setBelowBase (a:=⟨b,1,none⟩) hb y).setBelowBase (a:=⟨b,2,none⟩) hb z)
theorem FirstPost.set3 {w w3 w4:World} {adj:Nat→List Nat} {a b:Nat} {v:Value} (h:FirstPost w3 adj a b v w4) {c:Nat} (hb:c<w3.heap.size) (hs:w.heap.size≤w3.heap.size) (x y z:Value):FirstPost w adj a b v (((w4.setCell ⟨c,0,none⟩ x).setCell ⟨c,1,none⟩ y).setCell ⟨c,2,none⟩ z):=by
 rcases h with ⟨u,h1,h2⟩ | h
 ·exact .inl ⟨u,h1,(h2.set3 hb x y z).mono hs⟩
 ·exact .inr h
end Go.Proofs.YtkaoebokbfcmhaaGreatDoor
namespace Go.Proofs.YtkaoebokbfcmhaaGreatDoor
structure PS (n:Nat) (A B:Nat→List Nat) (inn out c d:Nat→Nat) (gone:Nat→Bool) (q:List Nat) (lives:Nat→Prop) (i:Nat):Prop where
 peel:Peel n A B inn out c d gone q lives
 pos:∀ t,t<n→gone t=false→0<inn t∧0<out t
 done:∀ j x,j<i→q[j]?=some x→c x=(A x).length∧d x=(B x).length
 rest:∀ j x,i≤j→q[j]?=some x→c x=0∧d x=0
structure Mid (n:Nat) (A B:Nat→List Nat) (inn out c d:Nat→Nat) (gone:Nat→Bool) (q:List Nat) (lives:Nat→Prop) (i v:Nat):Prop where
 peel:Peel n A B inn out c d gone q lives
 pos:∀ t,t<n→gone t=false→0<inn t∧0<out t
 cur:q[i]?=some v
 done:∀ j x,j<i→q[j]?=some x→c x=(A x).length∧d x=(B x).length
 rest:∀ j x,i<j→q[j]?=some x→c x=0∧d x=0
section
variable {n:Nat} {A B:Nat→List Nat} {inn out c d:Nat→Nat} {gone:Nat→Bool} {q:List Nat} {lives:Nat→Prop} {i v:Nat}
theorem PS.enter (h:PS n A B inn out c d gone q lives i) (hv:q[i]?=some v):Mid n A B inn out c d gone q lives i v∧c v=0∧d v=0∧v<n :=
 ⟨⟨h.peel,h.pos,hv,h.done,fun j x hj hx=>h.rest j x (by omega) hx⟩,(h.rest i v (Nat.le_refl _) hv).1,(h.rest i v (Nat.le_refl _) hv).2,h.peel.low v (List.mem_of_getElem? hv)⟩
theorem Mid.leave (h:Mid n A B inn out c d gone q lives i v) (hc:c v=(A v).length) (hd:d v=(B v).length):PS n A B inn out c d gone q lives (i+1):=by
 refine ⟨h.peel,h.pos,fun j x hj hx=>?_,fun j x hj hx=>h.rest j x (by omega) hx⟩
 by_cases e:j=i
 ·subst e
  rw [h.cur] at hx; cases hx
  exact ⟨hc,hd⟩
 ·exact h.done j x (by omega) hx
theorem Mid.step (h:Mid n A B inn out c d gone q lives i v) (hL:LiveSet n A B lives) {k t:Nat} (hk:c v=k) (ht:(A v)[k]?=some t) (htn:t<n) :
 0<inn t∧(inn t=1→gone t=false→Mid n A B (updN inn t (inn t-1)) out (updN c v (k+1)) d (updN gone t true) (q++[t]) lives i v) ∧
 ((inn t=1→gone t=true)→Mid n A B (updN inn t (inn t-1)) out (updN c v (k+1)) d gone q lives i v):=by
 have hvq:=List.mem_of_getElem? h.cur
 obtain ⟨h0,hp⟩:=h.peel.arrow1 hvq hk ht htn
 have hne:∀ j x,j≠i→q[j]?=some x→x≠v:=fun j x hj hx e=>hj (get_inj h.peel.nodup (by rw [hx,e]) h.cur)
 have hdone:∀ j x,j<i→q[j]?=some x→updN c v (k+1) x=(A x).length∧d x=(B x).length:=fun j x hj hx=>by
  rw [updN_other _ _ _ (hne j x (by omega) hx)]; exact h.done j x hj hx
 have hrest:∀ j x,i<j→q[j]?=some x→updN c v (k+1) x=0∧d x=0:=fun j x hj hx=>by
  rw [updN_other _ _ _ (hne j x (by omega) hx)]; exact h.rest j x hj hx
 refine ⟨h0,fun h1 hg=>?_,fun h1=>?_⟩
 ·have htq:t∉q:=fun hm=>by have:=(h.peel.goneq t).2 hm; rw [hg] at this; cases this
  have htv:t≠v:=fun e=>htq (by rw [e]; exact hvq)
  have hil:=get_of h.cur
  have hga:∀ j x,(q++[t])[j]?=some x→q[j]?=some x∨j=q.length∧x=t:=fun j x hx=>by
   by_cases e:j<q.length
   ·rw [List.getElem?_append_left e] at hx; exact .inl hx
   ·rw [List.getElem?_append_right (by omega)] at hx
    by_cases e2:j=q.length
    ·rw [e2] at hx; simp at hx; exact .inr ⟨e2,hx.symm⟩
    ·rw [List.getElem?_eq_none (by simp; omega)] at hx; cases hx
  refine ⟨hp.goes hL htn hg (.inl (by rw [updN_same]; omega)),fun x hx hgx=>?_,by rw [List.getElem?_append_left hil]; exact h.cur,fun j x hj hx=>?_,fun j x hj hx=>?_⟩
  ·by_cases e:x=t
   ·subst e; rw [updN_same] at hgx; cases hgx
   ·rw [updN_other _ _ _ e] at hgx ⊢; exact h.pos x hx hgx
  ·rcases hga j x hx with hx | ⟨hj2,_⟩
   ·exact hdone j x hj hx
   ·omega
  ·rcases hga j x hx with hx | ⟨_,rfl⟩
   ·exact hrest j x hj hx
   ·rw [updN_other _ _ _ htv]; exact h.peel.fresh x htq
 ·refine ⟨hp,fun x hx hgx=>?_,h.cur,hdone,hrest⟩
  by_cases e:x=t
  ·subst e
   rw [updN_same]
   have:=(h.pos x hx hgx).2
   have:inn x≠1:=fun e=>by have:=h1 e; rw [hgx] at this; cases this
   omega
  ·rw [updN_other _ _ _ e]; exact h.pos x hx hgx
end
structure PStart (n:Nat) (A B:Nat→List Nat) (gone:Nat→Bool) (q:List Nat) (lives:Nat→Prop) (k:Nat):Prop where
 peel:Peel n A B (fun t=>(B t).length) (fun t=>(A t).length) (fun _=>0) (fun _=>0) gone q lives
 pos:∀ t,t<k→gone t=false→0<(B t).length∧0<(A t).length
 below:∀ x∈q,x<k
section
variable {n:Nat} {A B:Nat→List Nat} {gone:Nat→Bool} {q:List Nat} {lives:Nat→Prop} {k:Nat}
theorem PStart.zero (hA:∀ t,t<n→∀ x∈A t,x<n) (hB:∀ t,t<n→∀ x∈B t,x<n) (hc:∀ t v,t<n→v<n→(B t).count v=(A v).count t):PStart n A B (fun _=>false) [] lives 0 :=
 ⟨⟨Deg.init hB (fun v t hv ht=>hc t v ht hv),Deg.init hA (fun v t hv ht=>(hc v t hv ht).symm),by simp,fun x=>by simp,fun x hx=>by simp at hx,fun _ _=>⟨rfl,rfl⟩,fun _ _ _=>rfl⟩,fun t ht=>by omega,fun x hx=>by simp at hx⟩
theorem PStart.take (h:PStart n A B gone q lives k) (hL:LiveSet n A B lives) (hk:k<n) (h0:(A k).length=0∨(B k).length=0):PStart n A B (updN gone k true) (q++[k]) lives (k+1):=by
 have hg:gone k=false:=by
  cases hgk:gone k with
  | false=>rfl
  | true=>have:=h.below k ((h.peel.goneq k).1 hgk); omega
 refine ⟨h.peel.goes hL hk hg h0.symm,fun t ht hgt=>?_,fun x hx=>?_⟩
 ·by_cases e:t=k
  ·subst e; rw [updN_same] at hgt; cases hgt
  ·rw [updN_other _ _ _ e] at hgt; exact h.pos t (by omega) hgt
 ·rcases List.mem_append.1 hx with hx | hx
  ·have:=h.below x hx; omega
  ·cases List.mem_singleton.1 hx; omega
theorem PStart.skip (h:PStart n A B gone q lives k) (hA:(A k).length≠0) (hB:(B k).length≠0):PStart n A B gone q lives (k+1):=by
 refine ⟨h.peel,fun t ht hgt=>?_,fun x hx=>by have:=h.below x hx; omega⟩
 by_cases e:t=k
 ·subst e; omega
 ·exact h.pos t (by omega) hgt
theorem PStart.all (h:PStart n A B gone q lives n):PS n A B (fun t=>(B t).length) (fun t=>(A t).length) (fun _=>0) (fun _=>0) gone q lives 0 :=
 ⟨h.peel,h.pos,fun j x hj=>by omega,fun _ _ _ _=>⟨rfl,rfl⟩⟩
end
open Go.RowKit
set_option maxRecDepth 100000
structure LvN (f:Names) (ov iv gv qv:Value) (n:Nat) (out inn:Nat→Nat) (gone:Nat→Bool) (q:List Nat):Prop where
 outs:f (1,0)=some (rowI ov (tab n out))
 inns:f (2,0)=some (rowI iv (tab n inn))
 gones:f (3,0)=some (rowV 4 gv (tabB n gone))
 queue:f (4,0)=some (rowI qv (castI q))
section
variable {B:Nat} {w:World} {f:Names} {ov iv gv qv:Value} {n:Nat} {out inn:Nat→Nat} {gone:Nat→Bool} {q:List Nat}
theorem LvN.mark (h:LvN f ov iv gv qv n out inn gone q) (hr:Rows B w f) (t:Nat) (ht:t<n):∃ f',Rows B (w.setCell (valAt gv t) (.bool true)) f'∧LvN f' ov iv gv qv n out inn (updN gone t true) q:=by
 have hs:=hr.setV h.gones t (by rw [tabB_len]; exact ht) (.bool true)
 rw [tabB_upd] at hs
 exact ⟨_,hs,⟨by rw [upd_ne _ _ (by simp)]; exact h.outs,by rw [upd_ne _ _ (by simp)]; exact h.inns,upd_same _ _ _,by rw [upd_ne _ _ (by simp)]; exact h.queue⟩⟩
theorem LvN.push (h:LvN f ov iv gv qv n out inn gone q) (hr:Rows B w f) {w1:World} {qv':Value} (t:Nat) (ho:OwnI B w1 qv' (castI q++[(t:Int)]))
 (hal:(roomOf qv'=roomOf qv∧w.grownBy w1 qv.ownBlock)∨(∃ k,qv'.ownBlock=some k∧w.heap.size≤k∧w.grownBy w1 none)):∃ f',Rows B w1 f'∧LvN f' ov iv gv qv' n out inn gone (q++[t]) :=
 ⟨_,row_push hr h.queue t ho hal,⟨by rw [upd_ne _ _ (by simp)]; exact h.outs,by rw [upd_ne _ _ (by simp)]; exact h.inns,by rw [upd_ne _ _ (by simp)]; exact h.gones,upd_same _ _ _⟩⟩
end
theorem tabB_none (n:Nat):tabB n (fun _=>false)=List.replicate n (.bool false):=by
 unfold tabB; apply List.ext_getElem<;>simp
theorem Box3.keep {B:Nat} {w w':World} {b:Nat} {x0 x1 x2:Value} (h:Box3 w b x0 x1 x2) (hb:Below B w w') (hlt:b<B):Box3 w' b x0 x1 x2:=h.belowB hb hlt
end Go.Proofs.YtkaoebokbfcmhaaGreatDoor
namespace Go.Proofs.YtkaoebokbfcmhaaGreatDoor
open Go.RowKit
theorem IntsAt.piece {w:World} {a:Option Addr} {cap:Nat} {xs:List Int} (h:IntsAt w (.slice a xs.length cap) xs) (k l:Nat) (hk:k≤l) (hl:l≤xs.length) :
 IntsAt w (sliced a k l cap 1) ((xs.take l).drop k):=by
 obtain ⟨a',cap',e,h1,h2,h3,h4⟩:=h
 injection e with e1 _ e3
 subst e1 e3
 have hlen:((xs.take l).drop k).length=l-k:=by simp; omega
 refine ⟨if cap=k then a else a.map (·.add (k*1)),cap-k,by rw [hlen]; rfl,by rw [hlen]; omega,by omega,?_,fun i hi=>?_⟩
 ·intro hn
  by_cases hc:cap=k
  ·omega
  ·rw [if_neg hc] at hn
   have:=h3 (Option.map_eq_none_iff.1 hn)
   omega
 ·rw [hlen] at hi
  have hc:¬ cap=k:=by omega
  show w.cell? (valAt (.slice (if cap=k then a else a.map (·.add (k*1))) _ _) i)=_
  rw [if_neg hc]
  cases a with
  | none=>have:=h3 rfl; omega
  | some p =>
   have h5:=h4 (k+i) (by omega)
   simp only [valAt] at h5
   show w.cell? ((p.add (k*1)).add i)=_
   rw [Nat.mul_one,show (p.add k).add i=p.add (k+i) by unfold Addr.add; by_cases hk0:k=0<;>by_cases hi0:i=0<;>simp [hk0,hi0,Nat.add_assoc],h5]
   simp
theorem IntsAt.post {w:World} {v:Value} {xs:List Int} (h:IntsAt w v xs) (k:Nat) (hk:k≤xs.length) :
 ∃ u,(∀ w',(Instr.slice 22 v (some (.int .i64 k)) none none).run Tryz.prog w'=.ok u w')∧IntsAt w u (xs.drop k):=by
 have h':=h
 obtain ⟨a,cap,rfl,_⟩:=h'
 refine ⟨sliced a k xs.length cap 1,fun w'=>?_,?_⟩
 ·rw [run_slice_l w' 22 a xs.length cap uIntsE .i64 k (by omega) (by omega),eInts,sInt]
  rfl
 ·have:=h.piece k xs.length hk (Nat.le_refl _)
  rwa [List.take_length] at this
theorem IntsAt.mid {w:World} {v:Value} {xs:List Int} (h:IntsAt w v xs) (k l:Nat) (hk:k≤l) (hl:l≤xs.length) :
 ∃ u,(∀ w',(Instr.slice 22 v (some (.int .i64 k)) (some (.int .i64 l)) none).run Tryz.prog w'=.ok u w')∧IntsAt w u ((xs.take l).drop k):=by
 have h':=h
 obtain ⟨a,cap,rfl,h1,_⟩:=h'
 refine ⟨sliced a k l cap 1,fun w'=>?_,h.piece k l hk hl⟩
 rw [run_slice_lh w' 22 a xs.length cap uIntsE .i64 .i64 k l (by omega) (by omega) (by omega),eInts,sInt]
 rfl
theorem IntsAt.front {w:World} {v:Value} {xs:List Int} (h:IntsAt w v xs) (l:Nat) (hl:l≤xs.length) :
 ∃ u,(∀ w',(Instr.slice 22 v none (some (.int .i64 l)) none).run Tryz.prog w'=.ok u w')∧IntsAt w u (xs.take l):=by
 have h':=h
 obtain ⟨a,cap,rfl,h1,_⟩:=h'
 refine ⟨sliced a 0 l cap 1,fun w'=>?_,?_⟩
 ·rw [run_slice_h w' 22 a xs.length cap uIntsE .i64 l (by omega) (by omega),eInts,sInt]
  rfl
 ·have:=h.piece 0 l (Nat.zero_le _) hl
  simpa using this
set_option maxRecDepth 100000
set_option maxHeartbeats 8000000
theorem widened1_any (K R d:Nat) (va:Option Addr) (vn vc:Nat) (T:List Int) (p q:Nat) (v:Value) (ys:List Int) (w:World)
 (h:IntsAt w (.slice va vn vc) T) (hr:RuleOk K R T) (hv:IntsAt w v ys) (hy:Syms K ys) (hyl:ys.length=2*(R+d)+1)
 (hRd:R+d≤3)
 (x0:w.cell? ⟨p,0,none⟩=some (.int .i64 K)) (x1:w.cell? ⟨p,1,none⟩=some (.int .i64 R)) (x2:w.cell? ⟨p,2,none⟩=some (.slice va vn vc)) (x3:w.cell? ⟨q,0,none⟩=some (.int .i64 d)) :
 Calls Tryz.prog 180 #[v,.pointer (some ⟨p,0,none⟩),.pointer (some ⟨q,0,none⟩)] w (Ret1 (fun x _=>x=.int .i64 (T.getD (numW K ((ys.drop d).take (2*R+1))) 0)) w):=by
 have lv:=hv.len
 obtain ⟨u,hu,hiu⟩:=hv.mid d (ys.length-d) (by omega) (by omega)
 have eL:(ys.take (ys.length-d)).drop d=(ys.drop d).take (2*R+1):=by
  rw [List.drop_take]; congr 1; omega
 rw [eL] at hiu
 have hD:(ys.length:Int)-(d:Int)=((ys.length-d:Nat):Int):=by omega
 have hle:ys.length≤7:=by omega
 have hsy:Syms K ((ys.drop d).take (2*R+1)):=syms_take (syms_drop hy _) _
 have hsl:((ys.drop d).take (2*R+1)).length=2*R+1:=by simp; omega
 generalize hY:T.getD (numW K ((ys.drop d).take (2*R+1))) 0=Y
 generalize (ys.drop d).take (2*R+1)=zs at *
 obtain ⟨e,hee⟩:∃ e,ys.length-d=e:=⟨_,rfl⟩
 rw [hee] at hD hu
 have he7:e≤7:=by omega
 have hwe:IntKind.i64.wrap (e:Int)=e:=wrapK (by omega) (by omega)
 obtain ⟨L,hL⟩:∃ L,ys.length=L:=⟨_,rfl⟩
 rw [hL] at lv hD hle
 have hd3:d≤3:=by omega
 replace hY:=Hd hY
 replace h:=Hd h
 replace hv:=Hd hv
 replace hy:=Hd hy
 replace hsy:=Hd hsy
 replace hsl:=Hd hsl
 replace hyl:=Hd hyl
 replace hr:=Hd hr
 replace hiu:=Hd hiu
 replace hL:=Hd hL
 clear hee eL
 go_enter Tryz.func180,Tryz.ntmps180
 go_upto_region 1 with fail
 refine wp_region_plan (fun w'=>w'.cell? ⟨p,0,none⟩=some (.int .i64 K)∧w'.cell? ⟨p,1,none⟩=some (.int .i64 R)∧w'.cell? ⟨p,2,none⟩=some (.slice va vn vc)∧w'.cell? ⟨q,0,none⟩=some (.int .i64 d)) 9 [(0,true),(1,true),(2,true),(3,true),(4,true),(5,true),(6,true),(7,true),(8,false)] (by kernel_rfl) (by kernel_rfl) ?_
 have hS:w.drew.cell? ⟨p,0,none⟩=some (.int .i64 K)∧w.drew.cell? ⟨p,1,none⟩=some (.int .i64 R)∧w.drew.cell? ⟨p,2,none⟩=some (.slice va vn vc)∧w.drew.cell? ⟨q,0,none⟩=some (.int .i64 d):=⟨x0,x1,x2,x3⟩
 refine pqY 5 hS ?_
 refine pqY 6 hS ?_
 refine pqY 7 hS ?_
 refine pqY 8 hS ?_
 refine pqY 9 hS ?_
 refine pqY 10 hS ?_
 refine pqY 11 hS ?_
 refine pqY 12 hS ?_
 refine headC rfl (fun KK hK=>?_)
 go_simp
 refine (symbol_any K R va vn vc T u zs _ h.out.drew hr.out hiu.out.drew hsy.out hsl.out).mono ?_
 rintro e w1 ⟨x,rfl,b1,rfl⟩
 rw [hY.out]
 have hS1:w1.cell? ⟨p,0,none⟩=some (.int .i64 K)∧w1.cell? ⟨p,1,none⟩=some (.int .i64 R)∧w1.cell? ⟨p,2,none⟩=some (.slice va vn vc)∧w1.cell? ⟨q,0,none⟩=some (.int .i64 d):=⟨cell_keep b1 hS.1,cell_keep b1 hS.2.1,cell_keep b1 hS.2.2.1,cell_keep b1 hS.2.2.2⟩
 refine hK _ _ hS1 ?_
 clear hK KK
 refine head0 ?_
 simp only [List.drop_succ_cons,List.drop_zero]
 clear hS hS1
 go_wp2
 refine NoPanic.normal ?_
 go_wp2
 go_ret
 exact ⟨_,rfl,Below.step ((Below.refl _ _).drew) b1,rfl⟩
theorem eg_widened1 (args:Array Value) (w:World):(callFunc 180 args).run Tryz.prog w=.ok (.enter 180 args) w:=by kernel_rfl
theorem madeP_wide (K R d:Nat) (T:List Int):madeP K (2*(R+d)+1) (fun ys=>T.getD (numW K ((ys.drop d).take (2*R+1))) 0) (pw K (2*(R+d)+1))=wideT K R d T:=rfl
theorem widened_any (K R d:Nat) (va:Option Addr) (vn vc:Nat) (T:List Int) (w:World) (h:IntsAt w (.slice va vn vc) T) (hr:RuleOk K R T) (hRd:R+d≤3) (Ri:Int) (hRi:Ri=((R+d:Nat):Int)) :
 Calls Tryz.prog 156 #[.agg #[.int .i64 K,.int .i64 R,.slice va vn vc],.int .i64 Ri] w (Ret1 (fun x w'=>∃ a n c,x=.agg #[.int .i64 K,.int .i64 ((R+d:Nat):Int),.slice a n c]∧OwnI w.heap.size w' (.slice a n c) (wideT K R d T)) w):=by
 have b0:=Below.step (belowAlloc w (.cells #[.int .i64 K,.int .i64 R,.slice va vn vc] 24)) (belowAlloc _ (.cells #[.int .i64 0,.int .i64 0,.slice none 0 0] 24))
 have b3:=Below.step b0 (belowAlloc _ (.cells #[.int .i64 d] 3))
 have q1:Box3 (((w.alloc (.cells #[.int .i64 K,.int .i64 R,.slice va vn vc] 24)).alloc (.cells #[.int .i64 0,.int .i64 0,.slice none 0 0] 24)).alloc (.cells #[.int .i64 d] 3)) w.heap.size (.int .i64 K) (.int .i64 R) (.slice va vn vc):=by simp [Box3,go_sem]
 have q2:Box3 (((w.alloc (.cells #[.int .i64 K,.int .i64 R,.slice va vn vc] 24)).alloc (.cells #[.int .i64 0,.int .i64 0,.slice none 0 0] 24)).alloc (.cells #[.int .i64 d] 3)) (w.heap.size+1) (.int .i64 0) (.int .i64 0) (.slice none 0 0):=by simp [Box3,go_sem]
 have q3:(((w.alloc (.cells #[.int .i64 K,.int .i64 R,.slice va vn vc] 24)).alloc (.cells #[.int .i64 0,.int .i64 0,.slice none 0 0] 24)).alloc (.cells #[.int .i64 d] 3)).cell? ⟨w.heap.size+2,0,none⟩=some (.int .i64 d):=by simp [go_sem]
 have hk1:=hr.k1
 have hk4:=hr.k4
 have hR3:=hr.r3
 have hsub:Ri-(R:Int)=(d:Int):=by omega
 have hRi3:0≤Ri∧Ri≤3:=by omega
 have h3:=h.below b3
 obtain ⟨W3,hW3⟩:∃ W3:World,W3=((w.alloc (.cells #[.int .i64 K,.int .i64 R,.slice va vn vc] 24)).alloc (.cells #[.int .i64 0,.int .i64 0,.slice none 0 0] 24)).alloc (.cells #[.int .i64 d] 3):=⟨_,rfl⟩
 have s3:W3.heap.size=w.heap.size+3:=by rw [hW3]; simp
 rw [← hW3] at b3 q1 q2 q3 h3
 replace hRi:=Hd hRi
 replace hr:=Hd hr
 replace hW3:=Hd hW3
 replace s3:=Hd s3
 replace q2:=Hd q2
 replace h3:=Hd h3
 go_enter Tryz.func156,Tryz.ntmps156
 go_wp2_with fail
 rw [← hW3.out]
 refine (made_two K (R+d) _ (.pointer (some ⟨w.heap.size,0,none⟩)) (.pointer (some ⟨w.heap.size+2,0,none⟩)) (fun ys=>T.getD (numW K ((ys.drop d).take (2*R+1))) 0) W3 hk1 hk4 hRd Ri hRi.out eg_widened1 (fun v ys w' hB hv hy hyl=>by
  have q11:=q1.below hB
  exact widened1_any K R d va vn vc T _ _ v ys w' (h3.out.below hB) hr.out hv hy hyl hRd q11.1.1 q11.1.2.1 q11.1.2.2 (cell_keep hB q3))).mono ?_
 rintro e w4 ⟨x,rfl,b4,a,n,c,rfl,ho⟩
 rw [madeP_wide] at ho
 obtain ⟨⟨y0,y1,y2⟩,f0,f1,f2⟩:=q2.out.below b4
 replace ho:=Hd ho
 clear q1 q3
 go_wp2
 refine bodyPost_ret (v:=.agg #[.int .i64 K,.int .i64 ((R+d:Nat):Int),.slice a n c]) (by simp [results,Tryz.results156,go_sem,y0,y1,y2]) rfl ⟨_,rfl,below_set3 (Below.step b3 b4) (Nat.le_succ _) _ _ _,a,n,c,rfl,?_⟩
 have:=s3.out
 exact (((ho.out.setBelowBase (a:=⟨w.heap.size+1,0,none⟩) (by simp; omega) _).setBelowBase (a:=⟨w.heap.size+1,1,none⟩) (by simp; omega) _).setBelowBase (a:=⟨w.heap.size+1,2,none⟩) (by simp; omega) _).mono (by omega)
theorem fwiden_ok (r:Nat→Addr) (K R d:Nat) (va:Option Addr) (vn vc:Nat) (T:List Int) (w:World) (hg:Glob r w) (h:IntsAt w (.slice va vn vc) T) (hr:RuleOk K R T) (hRd:R+d≤3) (Ri:Int) (hRi:Ri=((R+d:Nat):Int)) :
 Calls Tryz.prog 128 #[.agg #[.int .i64 K,.int .i64 R,.slice va vn vc],.int .i64 Ri] w (Ret2 (fun x y w'=>y=.nilIface∧∃ a n c,x=.agg #[.int .i64 K,.int .i64 ((R+d:Nat):Int),.slice a n c]∧OwnI w.heap.size w' (.slice a n c) (wideT K R d T)) w):=by
 have b0:=Below.step (belowAlloc w (.cells #[.int .i64 K,.int .i64 R,.slice va vn vc] 24)) (belowAlloc _ (.cells #[.int .i64 0,.int .i64 0,.slice none 0 0] 24))
 have q2:Box3 ((w.alloc (.cells #[.int .i64 K,.int .i64 R,.slice va vn vc] 24)).alloc (.cells #[.int .i64 0,.int .i64 0,.slice none 0 0] 24)) (w.heap.size+1) (.int .i64 0) (.int .i64 0) (.slice none 0 0):=by simp [Box3,go_sem]
 have q1:Box3 ((w.alloc (.cells #[.int .i64 K,.int .i64 R,.slice va vn vc] 24)).alloc (.cells #[.int .i64 0,.int .i64 0,.slice none 0 0] 24)) w.heap.size (.int .i64 K) (.int .i64 R) (.slice va vn vc):=by simp [Box3,go_sem]
 have hk1:=hr.k1
 have hk4:=hr.k4
 have hR3:=hr.r3
 have hck:=Hd hr.check
 have h1:R≤Ri:=by omega
 have h2:Ri≤3:=by omega
 have h1d:decide (Ri<(R:Int))=false:=by simp; omega
 have h2d:decide ((3:Int)<Ri)=false:=by simp; omega
 replace hRi:=Hd hRi
 replace hg:=Hd (hg.below b0)
 replace h:=Hd (h.below b0)
 replace hr:=Hd hr
 replace q1:=Hd q1
 replace q2:=Hd q2
 go_enter Tryz.func128,Tryz.ntmps128
 go_wp2_with fail
 refine (forms_check r _ K R va vn vc T _ hg.out h.out).mono ?_
 rintro e w1 ⟨x,rfl,hb,he⟩
 rw [hck.out] at he
 obtain rfl:=ErrIs.none_eq he
 have q11:=q1.out.below hb
 obtain ⟨⟨z0,z1,z2⟩,-,-,-⟩:=q11
 have s1:=hb.size
 simp only [World.size_alloc] at s1
 replace s1:=Hd s1
 go_wp2_with fail
 refine (widened_any K R d va vn vc T w1 (h.out.below hb) hr.out hRd Ri hRi.out).mono ?_
 rintro e w2 ⟨x,rfl,b2,a,n,c,rfl,ho⟩
 obtain ⟨⟨y0,y1,y2⟩,f0,f1,f2⟩:=q2.out.below (Below.step hb b2)
 replace ho:=Hd ho
 clear z0 z1 z2
 go_wp2
 refine bodyPost_ret (v:=.tuple #[.agg #[.int .i64 K,.int .i64 ((R+d:Nat):Int),.slice a n c],.nilIface]) (by simp [results,Tryz.results128,go_sem,y0,y1,y2]) rfl ⟨_,_,rfl,below_set3 (Below.step b0 (Below.step hb b2)) (Nat.le_succ _) _ _ _,rfl,a,n,c,rfl,?_⟩
 have:=s1.out
 exact (((ho.out.setBelowBase (a:=⟨w.heap.size+1,0,none⟩) (by simp; omega) _).setBelowBase (a:=⟨w.heap.size+1,1,none⟩) (by simp; omega) _).setBelowBase (a:=⟨w.heap.size+1,2,none⟩) (by simp; omega) _).mono (by omega)
def wkR (R:Nat):Nat:=if R=0 then 1 else R
def wkT (K R:Nat) (T:List Int):List Int:=if R=0 then wideT K 0 1 T else T
theorem wk_ok {K R:Nat} {T:List Int} (h:RuleOk K R T):RuleOk K (wkR R) (wkT K R T):=by
 unfold wkR wkT
 by_cases e:R=0
 ·subst e; rw [if_pos rfl,if_pos rfl]; exact wideT_ok (d:=1) h (by decide)
 ·rw [if_neg e,if_neg e]; exact h
theorem wk_pos (R:Nat):1≤wkR R:=by unfold wkR; split<;>omega
theorem wk_small {K R:Nat} {T:List Int} (h:RuleOk K R T) (hl:T.length≤256):(wkT K R T).length≤256:=by
 unfold wkT
 by_cases e:R=0
 ·subst e; rw [if_pos rfl,wideT_length]
  have h4:=h.k4
  have:pw K 3≤pw 4 3:=Nat.pow_le_pow_left h4 3
  have e4:pw 4 3=64:=by decide
  have:pw K (2*(0+1)+1)=pw K 3:=rfl
  omega
 ·rw [if_neg e]; exact hl
theorem nodes_le {K R:Nat} {T:List Int} (h:RuleOk K R T) (hR:1≤R) (hl:T.length≤256):pw K (2*R)≤81:=by
 have h1:=h.k1
 have h4:=h.k4
 have h3:=h.r3
 rw [h.len] at hl
 have hK:K=1∨K=2∨K=3∨K=4:=by omega
 have hR':R=1∨R=2∨R=3:=by omega
 rcases hK with rfl | rfl | rfl | rfl<;>rcases hR' with rfl | rfl | rfl<;>revert hl<;>decide
theorem working_bad (r:Nat→Addr) (k R:Int) (va:Option Addr) (vn vc:Nat) (T:List Int) (t:Int×List (ByteArray×Int)) (w:World) (hg:Glob r w) (h:IntsAt w (.slice va vn vc) T) (hc:smallP k R T=some t) :
 Calls Tryz.prog 96 #[.agg #[.int .i64 k,.int .i64 R,.slice va vn vc]] w (Ret2 (fun x y w'=>x=zR∧ErrIs r w' (under sPairs 0 (some t)) y) w):=by
 have b0:=Below.step (belowAlloc w (.cells #[.int .i64 k,.int .i64 R,.slice va vn vc] 24)) (belowAlloc _ (.cells #[.int .i64 0,.int .i64 0,.slice none 0 0] 24))
 have q2:Box3 ((w.alloc (.cells #[.int .i64 k,.int .i64 R,.slice va vn vc] 24)).alloc (.cells #[.int .i64 0,.int .i64 0,.slice none 0 0] 24)) (w.heap.size+1) (.int .i64 0) (.int .i64 0) (.slice none 0 0):=by simp [Box3,go_sem]
 replace hg:=Hd (hg.below b0)
 replace h:=Hd (h.below b0)
 replace hc:=Hd hc
 replace q2:=Hd q2
 go_enter Tryz.func96,Tryz.ntmps96
 go_wp2_with fail
 refine (small_any r k R va vn vc T _ hg.out h.out).mono ?_
 rintro e w1 ⟨x,rfl,b1,he⟩
 rw [hc.out] at he
 have he':=he
 obtain ⟨T1,a1,rfl⟩:=ErrIs.some_shape he
 replace he:=Hd he
 replace he':=Hd he'
 go_wp2_with fail
 refine (under_any r _ 0 _ _ w1 he'.out).mono ?_
 rintro e w2 ⟨y,rfl,b2,hy⟩
 obtain ⟨T2,a2,rfl⟩:∃ T a,y=.iface T (.pointer (some a)):=by
  unfold under at hy
  exact ErrIs.some_shape hy
 obtain ⟨⟨y0,y1,y2⟩,f0,f1,f2⟩:=q2.out.below (Below.step b1 b2)
 replace hy:=Hd hy
 go_wp2
 rw [setCell_self3 y0 y1 y2]
 exact bodyPost_ret (v:=.tuple #[zR,.iface T2 (.pointer (some a2))]) (by simp [results,Tryz.results96,go_sem,y0,y1,y2]) rfl ⟨_,_,rfl,Below.step b0 (Below.step b1 b2),rfl,hy.out⟩
theorem working_ok (r:Nat→Addr) (K R:Nat) (va:Option Addr) (vn vc:Nat) (T:List Int) (w:World) (hg:Glob r w) (h:IntsAt w (.slice va vn vc) T) (hr:RuleOk K R T) (hl:T.length≤256) :
 Calls Tryz.prog 96 #[.agg #[.int .i64 K,.int .i64 R,.slice va vn vc]] w (Ret2 (fun x y w'=>y=.nilIface∧∃ a n c,x=.agg #[.int .i64 K,.int .i64 (wkR R),.slice a n c]∧IntsAt w' (.slice a n c) (wkT K R T)) w):=by
 have b0:=Below.step (belowAlloc w (.cells #[.int .i64 K,.int .i64 R,.slice va vn vc] 24)) (belowAlloc _ (.cells #[.int .i64 0,.int .i64 0,.slice none 0 0] 24))
 have q2:Box3 ((w.alloc (.cells #[.int .i64 K,.int .i64 R,.slice va vn vc] 24)).alloc (.cells #[.int .i64 0,.int .i64 0,.slice none 0 0] 24)) (w.heap.size+1) (.int .i64 0) (.int .i64 0) (.slice none 0 0):=by simp [Box3,go_sem]
 have q1:Box3 ((w.alloc (.cells #[.int .i64 K,.int .i64 R,.slice va vn vc] 24)).alloc (.cells #[.int .i64 0,.int .i64 0,.slice none 0 0] 24)) w.heap.size (.int .i64 K) (.int .i64 R) (.slice va vn vc):=by simp [Box3,go_sem]
 have hs:=Hd (smallP_small hr hl)
 have h0:=Hd h
 have hs0:w.heap.size+1<((w.alloc (.cells #[.int .i64 K,.int .i64 R,.slice va vn vc] 24)).alloc (.cells #[.int .i64 0,.int .i64 0,.slice none 0 0] 24)).heap.size:=by simp
 replace hg:=Hd (hg.below b0)
 replace h:=Hd (h.below b0)
 replace hr:=Hd hr
 replace q1:=Hd q1
 replace q2:=Hd q2
 replace hs0:=Hd hs0
 by_cases hR:R=0
 ·have e1:wkR R=R+1:=by unfold wkR; rw [if_pos hR,hR]
  have e2:wkT K R T=wideT K R 1 T:=by unfold wkT; rw [if_pos hR,hR]
  have hRq:((R:Int)==0)=true:=by simp [hR]
  rw [e1,e2]
  replace hR:=Hd hR
  clear e1 e2
  go_enter Tryz.func96,Tryz.ntmps96
  go_wp2_with fail
  refine (small_any r K R va vn vc T _ hg.out h.out).mono ?_
  rintro e w1 ⟨x,rfl,b1,he⟩
  rw [hs.out] at he
  obtain rfl:=ErrIs.none_eq he
  have q11:=q1.out.below b1
  obtain ⟨⟨z0,z1,z2⟩,-,-,-⟩:=q11
  go_wp2_with fail
  refine (fwiden_ok r K R 1 va vn vc T w1 (hg.out.below b1) (h.out.below b1) hr.out (by have:=hR.out; omega) 1 (by have:=hR.out; simp [this])).mono ?_
  rintro e w2 ⟨x,y,rfl,b2,rfl,a,n,c,rfl,ho⟩
  obtain ⟨⟨y0,y1,y2⟩,f0,f1,f2⟩:=q2.out.below (Below.step b1 b2)
  replace ho:=Hd ho
  clear z0 z1 z2
  go_wp2
  refine bodyPost_ret (v:=.tuple #[.agg #[.int .i64 K,.int .i64 ((R+1:Nat):Int),.slice a n c],.nilIface]) (by simp [results,Tryz.results96,go_sem,y0,y1,y2]) rfl ⟨_,_,rfl,below_set3 (Below.step b0 (Below.step b1 b2)) (Nat.le_succ _) _ _ _,rfl,a,n,c,rfl,?_⟩
  have s1:=hs0.out
  have s2:=b1.size
  exact (((ho.out.setBelowBase (a:=⟨w.heap.size+1,0,none⟩) (Nat.lt_of_lt_of_le s1 s2) _).setBelowBase (a:=⟨w.heap.size+1,1,none⟩) (Nat.lt_of_lt_of_le s1 s2) _).setBelowBase (a:=⟨w.heap.size+1,2,none⟩) (Nat.lt_of_lt_of_le s1 s2) _).at
 ·have e1:wkR R=R:=by unfold wkR; rw [if_neg hR]
  have e2:wkT K R T=T:=by unfold wkT; rw [if_neg hR]
  have hRq:((R:Int)==0)=false:=by rw [beq_eq_false_iff_ne]; omega
  have hR':¬ (R:Int)=0:=by omega
  rw [e1,e2]
  clear e1 e2
  go_enter Tryz.func96,Tryz.ntmps96
  go_wp2_with fail
  refine (small_any r K R va vn vc T _ hg.out h.out).mono ?_
  rintro e w1 ⟨x,rfl,b1,he⟩
  rw [hs.out] at he
  obtain rfl:=ErrIs.none_eq he
  have q11:=q1.out.below b1
  obtain ⟨⟨z0,z1,z2⟩,-,-,-⟩:=q11
  obtain ⟨⟨y0,y1,y2⟩,f0,f1,f2⟩:=q2.out.below b1
  have b01:=Below.step b0 b1
  have hTW:=h0.out.below (below_set3 b01 (Nat.le_succ _) (.int .i64 K) (.int .i64 R) (.slice va vn vc))
  replace hTW:=Hd hTW
  go_wp2
  refine bodyPost_ret (v:=.tuple #[.agg #[.int .i64 K,.int .i64 R,.slice va vn vc],.nilIface]) (by simp [results,Tryz.results96,go_sem,y0,y1,y2]) rfl ⟨_,_,rfl,below_set3 b01 (Nat.le_succ _) _ _ _,rfl,va,vn,vc,rfl,hTW.out⟩
theorem dm (p N:Nat) (hp:p≤100000000):(p:Int).tdiv (N:Int)=((p/N:Nat):Int)∧(p:Int).tmod (N:Int)=((p%N:Nat):Int)∧(p:Int)/(N:Int)=((p/N:Nat):Int)∧(p:Int)%(N:Int)=((p%N:Nat):Int) ∧
 IntKind.i64.wrap ((p/N:Nat):Int)=((p/N:Nat):Int)∧IntKind.i64.wrap ((p%N:Nat):Int)=((p%N:Nat):Int):=by
 have h1:p/N≤p:=Nat.div_le_self _ _
 have h2:p%N≤p:=Nat.mod_le _ _
 refine ⟨by rw [Int.tdiv_eq_ediv_of_nonneg (by omega)]; simp,by rw [Int.tmod_eq_emod_of_nonneg (by omega)]; simp,by simp,by simp,?_,?_⟩
 ·generalize p/N=a at *; exact wrapK (by omega) (by omega)
 ·generalize p%N=a at *; exact wrapK (by omega) (by omega)
theorem words1_any (x:Int) (b N:Nat) (w:World) (hN:N≤10000) (hb:w.cell? ⟨b,0,none⟩=some (.int .i64 N)) :
 Calls Tryz.prog 151 #[.int .i64 x,.pointer (some ⟨b,0,none⟩)] w fun e w'=>e=.returned (.bool (odd1 ((N*N:Nat):Int) x))∧w=w':=by
 have hM:(N:Int)*(N:Int)=((N*N:Nat):Int):=by simp
 have hM2:=Nat.mul_le_mul hN hN
 by_cases h:x<0
 ·have e:odd1 ((N*N:Nat):Int) x=true:=by simp [odd1,h]
  rw [e]
  clear hM hM2
  go_enter Tryz.func151,Tryz.ntmps151
  go_wp2
  go_ret
  exact ⟨rfl,rfl⟩
 ·have e:odd1 ((N*N:Nat):Int) x=decide (((N*N:Nat):Int)≤x):=by simp [odd1,h]
  rw [e]
  generalize N*N=M at *
  clear e
  go_enter Tryz.func151,Tryz.ntmps151
  go_wp2
  go_ret
  exact ⟨ret_bool (by simp),rfl⟩
theorem eg_words1 (args:Array Value) (w:World):(callFunc 151 args).run Tryz.prog w=.ok (.enter 151 args) w:=by kernel_rfl
theorem words2_any (K R x q:Nat) (w:World) (hk1:1≤K) (hk4:K≤4) (hR:R≤3) (hx:x≤100000) (q0:w.cell? ⟨q,0,none⟩=some (.int .i64 K)) (q1:w.cell? ⟨q,1,none⟩=some (.int .i64 R)) :
 Calls Tryz.prog 153 #[.int .i64 x,.pointer (some ⟨q,0,none⟩)] w (Ret1 (fun y w'=>OwnI w.heap.size w' y (digs K (2*R) x)) w):=by
 obtain ⟨ov,w1,mk,ho,hb1⟩:=run_makeI (2*(R:Int)) (2*R) w (by omega) (by omega)
 have lo:=ho.at.len
 rw [List.length_replicate] at lo
 obtain ⟨oa,on,oc,rfl⟩:=ho.at.shape
 have hql:=World.block_lt_of_cell? _ _ q0
 have hK0:((K:Int)==0)=false:=by rw [beq_eq_false_iff_ne]; omega
 have hK1:¬ (K:Int)=0:=by omega
 have hK2:(0:Int)<K:=by omega
 have hK3:¬ K=0:=by omega
 obtain ⟨N,hN⟩:∃ N,2*R=N:=⟨_,rfl⟩
 have hN6:N≤6:=by omega
 rw [hN] at ho lo ⊢
 have hNi:2*(R:Int)=(N:Int):=by omega
 have hNw:IntKind.i64.wrap (N:Int)=N:=wrapK (by omega) (by omega)
 rw [hNi] at mk
 replace ho:=Hd ho
 replace hN:=Hd hN
 go_enter Tryz.func153,Tryz.ntmps153
 go_wp2_with fail
 clear mk
 go_loopw [0,12] (fun xv jv wr=>∃ j:Nat,j≤N∧jv=.int .i64 j∧xv=.int .i64 (x/pw K j:Nat)∧OwnI w.heap.size wr (.slice oa on oc) ((List.replicate N (0:Int)).take (N-j)++(digs K N x).drop (N-j))∧Below w.heap.size w wr) (fun _ jv _=>N-(intOf jv).toNat)
 case atStart=>exact ⟨0,by omega,rfl,by simp [pw],by rw [Nat.sub_zero,List.drop_of_length_le (by rw [digs_length]; exact Nat.le_refl _),List.append_nil,List.take_of_length_le (by simp)]; exact ho.out,hb1⟩
 case round =>
  obtain ⟨j,hj,rfl,rfl,hO,hbI⟩:=hrel
  obtain ⟨wi,rfl⟩:∃ wi:World,wi=wr:=⟨_,rfl⟩
  by_cases hjl:j<N
  ·have hXl:((List.replicate N (0:Int)).take (N-j)++(digs K N x).drop (N-j)).length=N:=by simp only [List.length_append,List.length_take,List.length_replicate,List.length_drop,digs_length]; omega
   have i1:∀ w',(Instr.indexAt 22 (.slice oa on oc) (.int .i64 ((N:Int)-1-(j:Int)))).run Tryz.prog w'=.ok (.pointer (some (valAt (.slice oa on oc) (N-1-j)))) w':=by
    intro w'
    have:=hO.at.idxI ((N:Int)-1-(j:Int)) (by omega) (by rw [hXl]; omega) w'
    rwa [show ((N:Int)-1-(j:Int)).toNat=N-1-j by omega] at this
   have c1:=hO.at.cellD (N-1-j) (by rw [hXl]; omega)
   have f1:=hO.frz (N-1-j) (by rw [hXl]; omega)
   have hS:=hO.set (N-1-j) (by rw [hXl]; omega) ((x/pw K j%K:Nat):Int)
   have hbS:=hO.setBelow hbI (N-1-j) (by rw [hXl]; omega) (.int .i64 ((x/pw K j%K:Nat):Int))
   rw [digs_fill K N x j hjl _ (by simp)] at hS
   have hqd:x/pw K j/K=x/pw K (j+1):=by rw [Nat.div_div_eq_div_mul,← pw_succ]
   have hql:x/pw K j≤100000:=Nat.le_trans (Nat.div_le_self _ _) hx
   have y0:=(hbI.cell (p:=⟨q,0,none⟩) (World.block_lt_of_cell? _ _ q0)).trans q0
   have hbe:=hO.blkB (N-1-j) (by rw [hXl]; omega)
   generalize ((List.replicate N (0:Int)).take (N-j)++(digs K N x).drop (N-j)).getD (N-1-j) 0=y at c1
   have y0':(wi.setCell (valAt (.slice oa on oc) (N-1-j)) (.int .i64 ((x/pw K j%K:Nat):Int))).cell? ⟨q,0,none⟩=some (.int .i64 K):=(hbS.cell (p:=⟨q,0,none⟩) (World.block_lt_of_cell? _ _ q0)).trans q0
   have hlen':=lo
   generalize valAt (.slice oa on oc) (N-1-j)=ya at *
   generalize x/pw K j=z at *
   obtain ⟨a1,a2,a3,a4,a5,a6⟩:=dm z K (by omega)
   obtain ⟨d,hd⟩:∃ d,z%K=d:=⟨_,rfl⟩
   obtain ⟨e,he⟩:∃ e,z/K=e:=⟨_,rfl⟩
   rw [hd] at a2 a4 a6 hS hbS y0'
   rw [he] at a1 a3 a5 hqd
   replace hS:=Hd hS
   replace hbS:=Hd hbS
   replace hqd:=Hd hqd
   replace hO:=Hd hO
   replace hd:=Hd hd
   replace he:=Hd he
   clear hXl
   go_wp2
   go_roundw
   case rel=>exact ⟨j+1,by omega,by go_num,by rw [← hqd.out],hS.out,hbS.out⟩
   case measure=>simp [intOf]; omega
  ·obtain rfl:j=N:=by omega
   rw [Nat.sub_self,List.take_zero,List.drop_zero,List.nil_append] at hO
   replace hO:=Hd hO
   go_wp2
   go_ret
   exact ⟨_,rfl,hbI,hO.out⟩
end Go.Proofs.YtkaoebokbfcmhaaGreatDoor
namespace Go.Proofs.YtkaoebokbfcmhaaGreatDoor
open Go.RowKit
set_option maxRecDepth 100000
def TwoInts (T E:TypeId):Prop:=Tryz.prog.underlying T=some (.slice E)∧∃ i,Tryz.prog.info? E=some i∧i.zero=some (.agg #[.int .i64 0,.int .i64 0])∧i.size=2∧i.bytes=16
theorem twoInts_mk {T E:TypeId} (h1:Tryz.prog.underlying T=some (.slice E)) (h2:(Tryz.prog.info? E).map (fun i=>(i.zero,i.size,i.bytes))=some (some (.agg #[.int .i64 0,.int .i64 0]),2,16)):TwoInts T E:=by
 refine ⟨h1,?_⟩
 cases h:Tryz.prog.info? E with
 | none=>rw [h] at h2; cases h2
 | some i=>rw [h] at h2; simp at h2; exact ⟨i,rfl,h2.1,h2.2.1,h2.2.2⟩
theorem run_app2 {T E:TypeId} (tc:TwoInts T E) (w:World) (B:Nat) (ty:TypeId) (v:Value) (m:Nat) (xs:List Value) (hown:w.ownsRow B E 2 v m xs)
 (b:Nat) (y0 y1:Int) (hys:∀ (j:Nat) (u:Value),([Value.int .i64 y0,.int .i64 y1]:List Value)[j]?=some u→w.cell? ((⟨b,0,none⟩:Addr).add j)=some u) (hlen:m<1000000) (hB:B≤w.heap.size) :
 ∃ g n' c' w',(Builtin.append_ #[T,T] ty #[v,.slice (some ⟨b,0,none⟩) 1 1]).run Tryz.prog w=.ok (.slice (some ⟨g,0,none⟩) n' c') w'∧n'=m+1∧w'.ownsRow B E 2 (.slice (some ⟨g,0,none⟩) (m+1) c') (m+1) (xs++[.int .i64 y0,.int .i64 y1]) ∧
  ((v.ownBlock=some g∧w.grownBy w' v.ownBlock)∨(g=w.heap.size∧w.grownBy w' none)):=by
 obtain ⟨ht,i,hi,hz0,hz1,hz2⟩:=tc
 have hzc:(Value.agg #[.int .i64 0,.int .i64 0]).cells=#[.int .i64 0,.int .i64 0]:=by rfl
 have hxl:=hown.1
 have big:∀ (old:Nat),old<m+1 →
  (w.drew.alloc (.cells (xs.toArray++[Value.int .i64 y0,.int .i64 y1].toArray++Builtin.zeroCells (Value.agg #[.int .i64 0,.int .i64 0]).cells (grownCap w (m+1) old E-(m+1))) E)).ownsRow B E 2 (.slice (some ⟨w.heap.size,0,none⟩) (m+1) (grownCap w (m+1) old E)) (m+1) (xs++[.int .i64 y0,.int .i64 y1]):=by
  intro old ho
  have hge:=grownCap_ge w (m+1) old E
  have hcm:grownCap w (m+1) old E≤maxLen:=grownCap_le_maxLen w _ old E (by unfold maxLen; omega)
  refine ⟨by simp [hxl]; omega,.inr ⟨w.heap.size,_,_,rfl,hB,heap_alloc_new w.drew _,hge,hcm,?_,?_⟩⟩
  ·simp only [Array.size_append,List.size_toArray,size_zeroCells,hzc,hxl]
   simp
   omega
  ·simp only [Array.toList_append]
   exact List.take_left' (by simp [hxl]; omega)
 have grw:∀ (oo:Obj),w.grownBy (w.drew.alloc oo) none:=fun oo=>⟨rfl,rfl,rfl,by simp,fun k hk _=>Below.heap_alloc w.drew oo k hk⟩
 rcases hown.2 with ⟨rfl,hn⟩ | ⟨g,cap,cur,rfl,hbg,hg,hnc,hcm,hcs,htake⟩
 ·subst hn
  obtain rfl:=List.length_eq_zero_iff.1 (show xs.length=0 by omega)
  have hr:=run_append_nil (P:=Tryz.prog) w T ty E i _ ht hi hz0 ⟨b,0,none⟩ 1 1 [.int .i64 y0,.int .i64 y1] (by rw [hz1]; rfl) hys (by omega) (by omega) (by rw [hz2]; decide)
  have hbg:=big 0 (by omega)
  simp only [List.nil_append,Array.empty_append,Nat.zero_add] at hbg hr
  exact ⟨_,_,_,_,hr,rfl,by simpa using hbg,.inr ⟨rfl,grw _⟩⟩
 ·by_cases hroom:m+1≤cap
  ·have hr:=run_append_room (P:=Tryz.prog) w T ty E i ht hi g m cap cur hg ⟨b,0,none⟩ 1 1 [.int .i64 y0,.int .i64 y1] (by rw [hz1]; rfl) hys (by simp [Value.oneCell']) hroom (by rw [hz1,hcs]; simp; omega)
   refine ⟨_,_,_,_,hr,rfl,⟨by simp [hxl]; omega,.inr ⟨g,cap,_,rfl,hbg,setRow_heap w g cur _ E _ hg,hroom,hcm,?_,?_⟩⟩,.inl ⟨rfl,⟨rfl,rfl,rfl,by simp,fun k _ hk=>setRow_other w g k _ (fun e=>hk (by simp [Value.ownBlock,e]))⟩⟩⟩
   ·simp only [List.size_toArray,List.length_append,List.length_take,List.length_drop,Array.length_toList,hz1,hcs]
    simp
    omega
   ·rw [hz1,htake]
    exact List.take_left' (by simp [hxl]; omega)
  ·have holds:∀ j u,xs[j]?=some u→w.cell? ((⟨g,0,none⟩:Addr).add j)=some u:=World.ownsRow.cells hown (g:=g) rfl
   have hr:=run_append_grow (P:=Tryz.prog) w T ty E i _ ht hi hz0 ⟨g,0,none⟩ m cap xs (by rw [hz1]; exact hxl) holds ⟨b,0,none⟩ 1 1 [.int .i64 y0,.int .i64 y1] (by rw [hz1]; rfl) hys (by omega) (by omega) (by
    rw [hz2]
    exact growslice_fits (by omega) (by
     calc (m+1)*16≤1000000*16:=Nat.mul_le_mul_right _ hlen
      _≤_:=by decide))
   exact ⟨_,_,_,_,hr,rfl,big cap (by omega),.inr ⟨rfl,grw _⟩⟩
theorem wpl_app2 {T E:TypeId} (tc:TwoInts T E) {w:World} {ops:Array Oper} {rest:List Oper} {o:Oper} {a:Act} {Q:Exit→Act→World→Prop} (hgd:o.guard=none) (s x:Operand)
 (ho:o.op=.call { callee:=.builtin .append,args:=#[s,x],argTypes:=#[T,T] })
 (B:Nat) (v:Value) (m:Nat) (xs:List Value) (y0 y1:Int) (b:Nat) (hown:w.ownsRow B E 2 v m xs) (hs:a.eval s=v) (hx:a.eval x=.slice (some ⟨b,0,none⟩) 1 1) (hb:b=w.heap.size)
 (hlen:m<1000000) (hB:B≤w.heap.size)
 (h:∀ g c w',w'.ownsRow B E 2 (.slice (some ⟨g,0,none⟩) (m+1) c) (m+1) (xs++[.int .i64 y0,.int .i64 y1])→((v.ownBlock=some g∧w.grownBy w' v.ownBlock)∨(w.heap.size≤g∧w.grownBy w' none))→wpList Tryz.prog ops Q rest (a.put o.dst (.slice (some ⟨g,0,none⟩) (m+1) c)) w') :
 wpList Tryz.prog ops Q (o::rest) a (w.alloc (.cells #[.int .i64 y0,.int .i64 y1] E)):=by
 subst hb
 refine wpList_plain hgd fun K hK=>?_
 have hcells:∀ (j:Nat) (u:Value),([Value.int .i64 y0,.int .i64 y1]:List Value)[j]?=some u→(w.alloc (.cells #[.int .i64 y0,.int .i64 y1] E)).cell? ((⟨w.heap.size,0,none⟩:Addr).add j)=some u:=by
  intro j u hj
  have hn:=heap_alloc_new w (.cells #[.int .i64 y0,.int .i64 y1] E)
  match j,hj with
  | 0,hj=>simp at hj; subst hj; simp only [World.cell?,Addr.add,if_true]; rw [hn]; rfl
  | 1,hj=>simp at hj; subst hj; simp only [World.cell?,Addr.add,show ¬ (1=0) by decide,if_false]; rw [hn]; rfl
  | j+2,hj=>simp at hj
 obtain ⟨g,n',c',w',hr,rfl,h2,h3⟩:=run_app2 tc (w.alloc (.cells #[.int .i64 y0,.int .i64 y1] E)) B o.type v m xs (World.ownsRow.alloc hown _) w.heap.size y0 y1 hcells hlen (by simp; omega)
 unfold Oper.wp execOp
 simp only [ho,resolve,invoke,builtin,Sem.run_bind,Sem.run_pure,Result.andThen_ok,List.map_toArray,List.map_cons,List.map_nil,hs,hx]
 rw [hr]
 have hal:∀ row,w.grownBy (w.alloc (.cells #[.int .i64 y0,.int .i64 y1] E)) row:=fun row=>World.grownBy_alloc w _ row
 rcases h3 with ⟨hv,hg⟩ | ⟨hk,hg⟩
 ·exact hK _ _ (h g c' w' h2 (.inl ⟨hv,(hal v.ownBlock).trans hg⟩))
 ·exact hK _ _ (h g c' w' h2 (.inr ⟨by rw [hk]; simp,(hal none).trans hg⟩))
def flat2 (l:List (Int×Int)):List Value:=l.flatMap fun p=>[.int .i64 p.1,.int .i64 p.2]
theorem flat2_snoc (l:List (Int×Int)) (a b:Int):flat2 (l++[(a,b)])=flat2 l++[.int .i64 a,.int .i64 b]:=by simp [flat2]
theorem flat2_get (l:List (Int×Int)) (s:Nat) (h:s<l.length):(flat2 l)[s*2]?=some (.int .i64 l[s].1)∧(flat2 l)[s*2+1]?=some (.int .i64 l[s].2):=by
 induction l generalizing s with
 | nil=>simp at h
 | cons p l ih =>
  cases s with
  | zero=>exact ⟨rfl,rfl⟩
  | succ s =>
   have:=ih s (by simpa using h)
   rw [show (s+1)*2=s*2+1+1 by omega]
   simpa [flat2] using this
set_option maxHeartbeats 8000000
def arrL (K N:Nat) (T:List Int) (u n:Nat):List (Int×Int):=(List.range n).map fun s=>((toN K N u s:Int),labN K T u s)
theorem arrL_len (K N:Nat) (T:List Int) (u n:Nat):(arrL K N T u n).length=n:=by simp [arrL]
theorem arrL_succ (K N:Nat) (T:List Int) (u n:Nat):arrL K N T u (n+1)=arrL K N T u n++[((toN K N u n:Int),labN K T u n)]:=by simp [arrL,List.range_succ]
def arrTo (K N:Nat) (T:List Int) (k j:Nat) (u:Nat):List (Int×Int):=if u<k then arrL K N T u K else if u=k then arrL K N T u j else []
theorem arrTo_zero (K N:Nat) (T:List Int):arrTo K N T 0 0=fun _=>[]:=by
 funext u; unfold arrTo
 rw [if_neg (by omega)]
 split
 ·simp [arrL]
 ·rfl
theorem arrTo_next (K N:Nat) (T:List Int) (k:Nat):arrTo K N T k K=arrTo K N T (k+1) 0:=by
 funext u; unfold arrTo
 by_cases h:u<k
 ·rw [if_pos h,if_pos (by omega)]
 ·rw [if_neg h]
  by_cases e:u=k
  ·rw [if_pos e,if_pos (by omega)]
  ·rw [if_neg e,if_neg (by omega)]
   split
   ·simp [arrL]
   ·rfl
theorem arrTo_at (K N:Nat) (T:List Int) (k j:Nat):arrTo K N T k j k=arrL K N T k j:=by unfold arrTo; rw [if_neg (by omega),if_pos rfl]
theorem arrTo_step (K N:Nat) (T:List Int) (k j:Nat):updN (arrTo K N T k j) k (arrL K N T k (j+1))=arrTo K N T k (j+1):=by
 funext u
 by_cases e:u=k
 ·subst e; rw [updN_same,arrTo_at]
 ·rw [updN_other _ _ _ e]; unfold arrTo
  by_cases h:u<k
  ·rw [if_pos h,if_pos h]
  ·rw [if_neg h,if_neg h,if_neg e,if_neg e]
theorem twoArrow:TwoInts 158 160:=twoInts_mk (by kernel_rfl) (by kernel_rfl)
theorem oneArrows:OneCell 156 158 (.slice none 0 0) 24:=⟨by kernel_rfl,by kernel_rfl,rfl,by decide,fun _=>by kernel_rfl⟩
structure AN (f:Names) (ov:Value) (vals:List Value) (n:Nat) (F:Nat→List (Int×Int)):Prop where
 outer:f (1,0)=some (rowV 158 ov vals)
 len:vals.length=n
 rows:∀ u,u<n→f (2,u)=some ⟨160,2,vAt vals u,(F u).length,flat2 (F u)⟩
section
variable {B:Nat} {w:World} {f:Names} {ov:Value} {vals:List Value} {n:Nat} {F:Nat→List (Int×Int)}
def nils2 (n:Nat):Names:=fun i=>if i.1=2∧i.2<n then some ⟨160,2,.slice none 0 0,0,[]⟩ else none
theorem rows_nils2 (B:Nat) (w:World) (n:Nat):Rows B w (nils2 n):=by
 refine ⟨fun i r hi=>?_,fun i j r s hi _ _=>?_⟩
 ·unfold nils2 at hi
  split at hi
  ·injection hi with hi; subst hi; exact World.ownsRow_nil w B _ 2
  ·cases hi
 ·left
  unfold nils2 at hi
  split at hi
  ·injection hi with hi; subst hi; rfl
  ·cases hi
theorem AN.made {w1:World} (n:Nat) (hb:Below w.heap.size w w1) (hB:B≤w.heap.size) (ho:OwnV 158 w.heap.size w1 ov (List.replicate n (.slice none 0 0))) :
 ∃ f,Rows B w1 f∧AN f ov (List.replicate n (.slice none 0 0)) n (fun _=>[]):=by
 refine ⟨_,(rows_nils2 B w n).add (i:=(1,0)) (r':=rowV 158 ov (List.replicate n (.slice none 0 0))) hb (ho.mono hB) (fun k hk=>(ho.lt k hk).1),⟨upd_same _ _ _,by simp,fun u hu=>?_⟩⟩
 rw [upd_ne _ _ (by simp)]
 show nils2 n (2,u)=_
 unfold nils2
 rw [if_pos ⟨rfl,hu⟩]
 simp [vAt,List.getD,hu,flat2]
theorem AN.app (h:AN f ov vals n F) (hr:Rows B w f) {w1:World} {u g c:Nat} (hu:u<n) (x y:Int)
 (ho:w1.ownsRow B 160 2 (.slice (some ⟨g,0,none⟩) ((F u).length+1) c) ((F u).length+1) (flat2 (F u)++[.int .i64 x,.int .i64 y]))
 (hal:((vAt vals u).ownBlock=some g∧w.grownBy w1 (vAt vals u).ownBlock)∨(w.heap.size≤g∧w.grownBy w1 none)) :
 w1.cell? (valAt ov u)=some (vAt vals u)∧w1.frozen? (valAt ov u)=false∧B≤(valAt ov u).block ∧
 ∃ f' vals',Rows B (w1.setCell (valAt ov u) (.slice (some ⟨g,0,none⟩) ((F u).length+1) c)) f'∧AN f' ov vals' n (updN F u (F u++[(x,y)])):=by
 have hrow:=h.rows u hu
 have hg:w.grownBy w1 (vAt vals u).ownBlock:=grown_via (hal.imp (·.2) (·.2))
 have hob:(Value.slice (some ⟨g,0,none⟩) ((F u).length+1) c).ownBlock=(vAt vals u).ownBlock∨∃ k,(Value.slice (some ⟨g,0,none⟩) ((F u).length+1) c).ownBlock=some k∧w.heap.size≤k:=by
  rcases hal with ⟨q,_⟩ | ⟨q,_⟩
  ·exact .inl q.symm
  ·exact .inr ⟨g,rfl,q⟩
 have h1:=hr.grown (r':=⟨160,2,.slice (some ⟨g,0,none⟩) ((F u).length+1) c,(F u).length+1,flat2 (F u)++[Value.int .i64 x,Value.int .i64 y]⟩) hrow hg (show Row.own B w1 ⟨_,_,_,_,_⟩ from ho) hob
 have ho':upd f (2,u) (some ⟨160,2,.slice (some ⟨g,0,none⟩) ((F u).length+1) c,(F u).length+1,flat2 (F u)++[Value.int .i64 x,Value.int .i64 y]⟩) (1,0)=some (rowV 158 ov vals):=by rw [upd_ne _ _ (by simp)]; exact h.outer
 have hl:u<vals.length:=by rw [h.len]; exact hu
 have hO:=h1.ownV ho'
 refine ⟨hO.at.cellV u hl,hO.frz u hl,(hO.blkB u hl).2,_,_,h1.setV ho' u hl _,⟨upd_same _ _ _,by simpa using h.len,fun t ht=>?_⟩⟩
 rw [upd_ne _ _ (by simp)]
 by_cases e:t=u
 ·subst e
  rw [upd_same,vAt_set_same hl,updN_same,flat2_snoc]; simp
 ·rw [upd_ne _ _ (by simpa using e),vAt_set_ne e,updN_other _ _ _ e]
  exact h.rows t ht
end
def ArrowsAt (w:World) (v:Value) (K N:Nat) (T:List Int):Prop :=
 ∃ vs,ValsAt w v vs∧vs.length=N∧∀ u,u<N→∃ g c,vAt vs u=.slice (some ⟨g,0,none⟩) K c∧K≤c∧∀ s,s<K→w.cell? ⟨g,s*2,none⟩=some (.int .i64 (toN K N u s))∧w.cell? ⟨g,s*2+1,none⟩=some (.int .i64 (labN K T u s))
theorem ArrowsAt.below {w w':World} {v:Value} {K N:Nat} {T:List Int} (h:ArrowsAt w v K N T) (hb:Below w.heap.size w w'):ArrowsAt w' v K N T:=by
 obtain ⟨vs,h1,h2,h3⟩:=h
 refine ⟨vs,h1.below hb,h2,fun u hu=>?_⟩
 obtain ⟨g,c,e,hc,h4⟩:=h3 u hu
 exact ⟨g,c,e,hc,fun s hs=>⟨cell_keep hb (h4 s hs).1,cell_keep hb (h4 s hs).2⟩⟩
theorem AN.reads {B:Nat} {w:World} {f:Names} {ov:Value} {vals:List Value} {K N:Nat} {T:List Int} (hK:1≤K) (h:AN f ov vals N (arrTo K N T N 0)) (hr:Rows B w f):ArrowsAt w ov K N T:=by
 refine ⟨vals,(hr.ownV h.outer).at,h.len,fun u hu=>?_⟩
 have hrow:=h.rows u hu
 have hF:arrTo K N T N 0 u=arrL K N T u K:=by unfold arrTo; rw [if_pos hu]
 rw [hF,arrL_len] at hrow
 obtain ⟨g,c,e,hc⟩:=row_shape (hr.1 _ _ hrow) hK
 refine ⟨g,c,e,hc,fun s hs=>?_⟩
 have c0:=hr.cell hrow (g:=g) (cap:=c) e (s*2) (by simp; omega)
 have c1:=hr.cell hrow (g:=g) (cap:=c) e (s*2+1) (by simp; omega)
 have:=flat2_get (arrL K N T u K) s (by rw [arrL_len]; exact hs)
 have ea:(arrL K N T u K)[s]'(by rw [arrL_len]; exact hs)=((toN K N u s:Int),labN K T u s):=by simp [arrL]
 rw [ea] at this
 exact ⟨c0.trans this.1,c1.trans this.2⟩
theorem arrows_any (r:Nat→Addr) (K R:Nat) (va:Option Addr) (vn vc:Nat) (T:List Int) (w:World) (hg:Glob r w) (h:IntsAt w (.slice va vn vc) T) (hok:RuleOk K R T) (hl:T.length≤256) :
 Calls Tryz.prog 97 #[.agg #[.int .i64 K,.int .i64 R,.slice va vn vc]] w (Ret1 (fun x w'=>ArrowsAt w' x K (T.length/K) T) w):=by
 have b0:=belowAlloc w (.cells #[.int .i64 K,.int .i64 R,.slice va vn vc] 24)
 have q:Box3 (w.alloc (.cells #[.int .i64 K,.int .i64 R,.slice va vn vc] 24)) w.heap.size (.int .i64 K) (.int .i64 R) (.slice va vn vc):=by simp [Box3,go_sem]
 have hk1:=hok.k1
 have hk4:=hok.k4
 have hN0:T.length/K≤256:=Nat.le_trans (Nat.div_le_self _ _) hl
 have hEdge:=fun (u s:Nat) (w':World) (hgl:Glob r w') (hT:IntsAt w' (.slice va vn vc) T) (hu:u<T.length/K) (hs:s<K)=>over_Edge r K R va vn vc T u s w' hgl hT hok hl hu hs
 have hNodes:=fun (w':World) (hgl:Glob r w') (hT:IntsAt w' (.slice va vn vc) T)=>over_Nodes r K R va vn vc T w' hgl hT hok hl
 generalize T.length/K=N at *
 replace hEdge:=Hd hEdge
 replace hNodes:=Hd hNodes
 replace hg:=Hd (hg.below b0)
 replace h:=Hd (h.below b0)
 replace hok:=Hd hok
 go_enter Tryz.func97,Tryz.ntmps97
 go_wp2_with fail
 refine (hNodes.out _ hg.out h.out).mono ?_
 rintro e w1 ⟨x,y,rfl,b1,rfl,rfl⟩
 have q1:=q.below b1
 have b01:=Below.step b0 b1
 have hg1:=hg.out.below b1
 have hT1:=h.out.below b1
 clear q
 go_wp2_with fail
 obtain ⟨ov,w2,mk,ho,hb2⟩:=run_makeW oneArrows (N:Int) N w1 rfl (by omega)
 obtain ⟨f1,hr1,h1⟩:=AN.made N hb2 (Nat.le_refl _) ho
 obtain ⟨oa,on,oc,rfl⟩:=ho.shape
 have lo:=fun w'=>(ho.at).len oneArrows 3 w'
 rw [List.length_replicate] at lo
 rw [mk]
 simp only [Result.andThen]
 rw [← arrTo_zero K N T] at h1
 replace hr1:=Hd hr1
 replace ho:=Hd ho
 replace q1:=Hd q1
 replace hg1:=Hd hg1
 replace hT1:=Hd hT1
 clear mk
 go_wp2_with fail
 clear lo
 go_loopw [20] (fun kv wr=>∃ (k:Nat) (f:Names) (vals:List Value),k≤N∧kv=.int .i64 k∧Rows w1.heap.size wr f∧Below w1.heap.size w1 wr∧AN f (.slice oa on oc) vals N (arrTo K N T k 0)) (fun kv _=>N-(intOf kv).toNat)
 case atStart=>exact ⟨0,f1,_,by omega,rfl,hr1.out,hb2,h1⟩
 case round =>
  clear h1 ho hr1 hb2
  obtain ⟨k,f2,vals,hk,rfl,hr2,b2,h2⟩:=hrel
  obtain ⟨wo,rfl⟩:∃ wo:World,wo=wr:=⟨_,rfl⟩
  by_cases hlt:k<N
  ·have z0:=(q1.out.below b2).1.1
   replace hr2:=Hd hr2
   go_wp2_with fail
   clear z0
   go_loopw [25] (fun jv wr=>∃ (j:Nat) (f:Names) (vals:List Value),j≤K∧jv=.int .i64 j∧Rows w1.heap.size wr f∧Below w1.heap.size w1 wr∧AN f (.slice oa on oc) vals N (arrTo K N T k j)) (fun jv _=>K-(intOf jv).toNat)
   case atStart=>exact ⟨0,f2,vals,by omega,rfl,hr2.out,b2,h2⟩
   case round =>
    clear hr2 h2 b2
    obtain ⟨j,f3,vals,hj,rfl,hr3,b3,h3⟩:=hrel
    obtain ⟨wo,rfl⟩:∃ wo:World,wo=wr:=⟨_,rfl⟩
    by_cases hjl:j<K
    ·obtain ⟨z0,z1,z2⟩:=(q1.out.below b3).1
     replace hr3:=Hd hr3
     go_wp2_with fail
     refine (hEdge.out k j _ (hg1.out.below b3) (hT1.out.below b3) hlt hjl).mono ?_
     rintro e w4 ⟨x,y,z,rfl,b4,rfl,rfl,rfl⟩
     have hr4:=hr3.out.below b4
     have b34:=Below.trans b3 (b4.mono b3.size)
     clear z0 z1 z2
     have hOV:=(hr4.ownV h3.outer).at
     have iO:=fun w'=>hOV.idx oneArrows k (by rw [h3.len]; exact hlt) w'
     have cO:=hOV.cellV k (by rw [h3.len]; exact hlt)
     have hT:=hr4.1 _ _ (h3.rows k hlt)
     have hB4:w1.heap.size≤w4.heap.size:=b34.size
     have happ:=fun (w5:World) (g c:Nat)=>h3.app hr4 (w1:=w5) (g:=g) (c:=c) hlt (toN K N k j) (labN K T k j)
     rw [arrTo_at,← arrL_succ,arrTo_step] at happ
     rw [arrTo_at] at hT
     unfold Row.own at hT
     simp only [arrL_len] at hT
     generalize vAt vals k=tv at *
     generalize valAt (.slice oa on oc) k=ua at *
     obtain ⟨X,hX⟩:∃ X,toN K N k j=X:=⟨_,rfl⟩
     obtain ⟨Y,hY⟩:∃ Y,labN K T k j=Y:=⟨_,rfl⟩
     rw [hX,hY] at happ ⊢
     replace happ:=Hd happ
     replace hr4:=Hd hr4
     replace hOV:=Hd hOV
     replace hX:=Hd hX
     replace hY:=Hd hY
     go_wp2_with (at_builtin; go_loud (refine wpl_app2 twoArrow rfl _ _ rfl w1.heap.size tv j (flat2 (arrL K N T k j)) X Y _ hT rfl rfl (by simp) (by omega) hB4 ?_))
     intro g c w7 ho7 hal7
     obtain ⟨y1,y2,y3,f8,vals8,hr8,h8⟩:=happ.out w7 g c (by rw [arrL_len]; exact ho7) hal7
     rw [arrL_len] at hr8
     replace hr8:=Hd hr8
     replace ho7:=Hd ho7
     have b7:Below w1.heap.size w4 w7:=by
      rcases hal7 with ⟨hv,hgr⟩ | ⟨_,hgr⟩
      ·exact (Below.refl _ _).grown hgr hB4 (fun m hm=>(World.ownsRow.lt hT m hm).1)
      ·exact (Below.refl _ _).grown hgr hB4 (fun m hm=>by cases hm)
     clear hal7 hT cO
     go_wp2
     go_roundw
     case measure=>simp [intOf]; omega
     case rel=>exact ⟨j+1,f8,vals8,by omega,by go_num,hr8.out,(b34.trans b7).setCell y3 _,h8⟩
    ·obtain rfl:j=K:=by omega
     rw [arrTo_next] at h3
     replace hr3:=Hd hr3
     go_wp2
     go_roundw
     case measure=>simp [intOf]; omega
     case rel=>exact ⟨k+1,f3,vals,by omega,by go_num,hr3.out,b3,h3⟩
  ·obtain rfl:k=N:=by omega
   have hA:=h2.reads hk1 hr2
   replace hA:=Hd hA
   replace hr2:=Hd hr2
   have bE:=Below.step b01 b2
   go_wp2
   go_ret
   exact ⟨_,rfl,bE,hA.out⟩
end Go.Proofs.YtkaoebokbfcmhaaGreatDoor
namespace Go.Proofs.YtkaoebokbfcmhaaGreatDoor
def ded (zs:List Int):Nat→List Int
 | 0=>[]
 | m+1=>ded zs m++if m=0∨zs.getD m 0≠zs.getD (m-1) 0 then [zs.getD m 0] else []
theorem ded_len (zs:List Int):∀ m,(ded zs m).length≤m
 | 0=>Nat.le_refl _
 | m+1=>by
  have:=ded_len zs m
  rw [ded,List.length_append]
  split<;>simp<;>omega
theorem sorted_getD {zs:List Int} (h:zs.Pairwise (·≤·)) {i j:Nat} (hij:i≤j) (hj:j<zs.length):zs.getD i 0≤zs.getD j 0:=by
 simp only [List.getD_eq_getElem?_getD,List.getElem?_eq_getElem hj,List.getElem?_eq_getElem (show i<zs.length by omega),Option.getD_some]
 by_cases e:i=j
 ·subst e; exact Int.le_refl _
 ·exact List.pairwise_iff_getElem.1 h i j (by omega) hj (by omega)
theorem ded_spec {zs:List Int} (h:zs.Pairwise (·≤·)):∀ m,m≤zs.length→(ded zs m).Pairwise (·<·)∧(∀ x,x∈ded zs m↔x∈zs.take m)
 | 0,_=>by simp [ded]
 | m+1,hm=>by
  obtain ⟨h1,h2⟩:=ded_spec h m (by omega)
  have ht:zs.take (m+1)=zs.take m++[zs.getD m 0]:=by
   rw [List.take_add_one,List.getElem?_eq_getElem (show m<zs.length by omega)]
   simp [List.getD,show m<zs.length by omega]
  have top:∀ x∈zs.take m,m≠0∧x≤zs.getD (m-1) 0:=fun x hx=>by
   obtain ⟨i,hi,e⟩:=List.mem_iff_getElem.1 hx
   have hi':i<m:=by rw [List.length_take] at hi; omega
   have:=sorted_getD h (show i≤m-1 by omega) (by omega)
   rw [List.getElem_take] at e
   rw [List.getD_eq_getElem?_getD,List.getElem?_eq_getElem (show i<zs.length by omega),Option.getD_some,e] at this
   exact ⟨by omega,this⟩
  rw [ded,ht]
  by_cases c:m=0∨zs.getD m 0≠zs.getD (m-1) 0
  ·rw [if_pos c]
   refine ⟨List.pairwise_append.2 ⟨h1,by simp,fun a ha b hb=>?_⟩,fun x=>by simp [h2]⟩
   rw [List.mem_singleton] at hb
   subst hb
   obtain ⟨t1,t2⟩:=top a ((h2 a).1 ha)
   have:=sorted_getD h (show m-1≤m by omega) (by omega)
   rcases c with c | c<;>omega
  ·rw [if_neg c,List.append_nil]
   refine ⟨h1,fun x=>?_⟩
   rw [h2,List.mem_append,List.mem_singleton]
   constructor
   ·exact .inl
   ·rintro (q | q)
    ·exact q
    ·have c2:m≠0∧zs.getD m 0=zs.getD (m-1) 0:=by
      refine ⟨fun e=>c (.inl e),?_⟩
      apply Classical.byContradiction
      intro e; exact c (.inr e)
     rw [q,c2.2,List.mem_iff_getElem]
     refine ⟨m-1,by rw [List.length_take]; omega,?_⟩
     rw [List.getElem_take]
     simp [List.getD,show m-1<zs.length by omega]
theorem sorted_eqI:∀ {L M:List Int},L.Pairwise (·<·)→M.Pairwise (·<·)→(∀ v,v∈L↔v∈M)→L=M
 | [],[],_,_,_=>rfl
 | [],b::M,_,_,h=>absurd ((h b).2 List.mem_cons_self) (by simp)
 | a::L,[],_,_,h=>absurd ((h a).1 List.mem_cons_self) (by simp)
 | a::L,b::M,hL,hM,h=>by
  obtain ⟨a1,a2⟩:=List.pairwise_cons.1 hL
  obtain ⟨b1,b2⟩:=List.pairwise_cons.1 hM
  have hab:a=b:=by
   rcases List.mem_cons.1 ((h a).1 List.mem_cons_self) with e | e
   ·exact e
   ·rcases List.mem_cons.1 ((h b).2 List.mem_cons_self) with e2 | e2
    ·exact e2.symm
    ·have:=b1 a e; have:=a1 b e2; omega
  subst hab
  rw [sorted_eqI a2 b2 fun v=>?_]
  have:=h v
  simp only [List.mem_cons] at this
  constructor
  ·intro hv
   rcases this.1 (.inr hv) with e | e
   ·subst e; exact absurd (a1 v hv) (Int.lt_irrefl _)
   ·exact e
  ·intro hv
   rcases this.2 (.inr hv) with e | e
   ·subst e; exact absurd (b1 v hv) (Int.lt_irrefl _)
   ·exact e
theorem ded_pair {K N:Nat} {T:List Int} (hN:0<N) {p:Nat} {zs:List Int} (hs:zs.Pairwise (·≤·)) (hm:∀ x,x∈zs↔x∈(rawP K N T (p/N) (p%N) K).map fun (n:Nat)=>(n:Int)) :
 ded zs zs.length=(pairL K N T p).map fun (n:Nat)=>(n:Int):=by
 obtain ⟨h1,h2⟩:=ded_spec hs zs.length (Nat.le_refl _)
 refine sorted_eqI h1 (List.pairwise_map.2 ((pairL_sorted K N T p).imp fun h=>by omega)) fun v=>?_
 rw [h2,List.take_length,hm]
 simp only [List.mem_map]
 constructor
 ·rintro ⟨q,hq,rfl⟩; exact ⟨q,(mem_pairL hN).2 (mem_rawP.1 hq),rfl⟩
 ·rintro ⟨q,hq,rfl⟩; exact ⟨q,mem_rawP.2 ((mem_pairL hN).1 hq),rfl⟩
open Go.RowKit Go.Shelf
set_option maxRecDepth 100000
def Tryz.laysCompact_ren:Go.Shelf.Ren:=⟨fun | 20=>99 | n=>n,fun | 22=>22 | 3=>3 | 4=>4 | 0=>0 | n=>n,fun | n=>n⟩
theorem Tryz.laysCompact:Go.Proofs.Lays2.n20 Tryz.prog Tryz.laysCompact_ren:={
 mixed:=by kernel_rfl
 f20:=Tryz.func99.trans (congrArg some (by kernel_rfl))
 t0:=Tryz.underlying0
 a0:=Tryz.isAgg0
 z0:=Tryz.sizeOf0
 v0:=Tryz.zeroValue0
 t3:=Tryz.underlying3
 a3:=Tryz.isAgg3
 z3:=Tryz.sizeOf3
 v3:=Tryz.zeroValue3
 t4:=Tryz.underlying4
 a4:=Tryz.isAgg4
 z4:=Tryz.sizeOf4
 v4:=Tryz.zeroValue4
 t22:=Tryz.underlying22
 a22:=Tryz.isAgg22
 z22:=Tryz.sizeOf22
 v22:=Tryz.zeroValue22
 i3:=by kernel_rfl }
theorem compact_ded (zs:List Int):Lib.compact zs=ded zs zs.length:=by
 have:∀ m,m≤zs.length→Lib.compactUpTo zs.toArray m=ded zs m:=by
  intro m
  induction m with
  | zero=>intro _; rfl
  | succ m ih =>
   intro hm
   rw [Lib.compactUpTo_succ,ih (by omega),ded]
   have e1:zs.toArray[m]! = zs.getD m 0:=by
    rw [getElem!_pos zs.toArray m (by simp; omega)]; simp [List.getD,show m<zs.length by omega]
   have e2:zs.toArray[m-1]! = zs.getD (m-1) 0:=by
    rw [getElem!_pos zs.toArray (m-1) (by simp; omega)]; simp [List.getD,show m-1<zs.length by omega]
   unfold Lib.keeps
   rw [e1,e2]
   by_cases c:m=0∨zs.getD m 0≠zs.getD (m-1) 0
   ·rw [if_pos c,if_pos (by simpa using c)]
   ·rw [if_neg c,if_neg (by simpa using c)]
 exact this _ (Nat.le_refl _)
theorem OwnI.cutTo {B:Nat} {w:World} {a:Option Addr} {n c:Nat} {xs:List Int} (h:OwnI B w (.slice a n c) xs) (m:Nat) (hm:m≤xs.length):OwnI B w (.slice a m c) (xs.take m):=by
 rcases h.2 with ⟨e,e2⟩ | ⟨g,cap,cur,e,hB,hg,hn,hcm,hs,ht⟩
 ·injection e with e1 e3 e4
  subst e1 e4
  obtain rfl:=List.length_eq_zero_iff.1 e2
  obtain rfl:m=0:=by simpa using hm
  exact OwnI.nil B w
 ·injection e with e1 e3 e4
  subst e1 e4
  have hl:(xs.take m).length=m:=by simp; omega
  refine ⟨by simp,.inr ⟨g,c,cur,by rw [hl],hB,hg,by rw [hl]; omega,hcm,hs,?_⟩⟩
  rw [hl,List.map_take,← ht,List.take_take]
  congr 1
  omega
theorem compact_own (B:Nat) (v:Value) (xs:List Int) (w:World) (h:OwnI B w v xs) (hl:xs.length≤9223372036854775807) :
 Calls Tryz.prog 99 #[v] w fun e w'=>∃ x,e=.returned x∧x.ownBlock=v.ownBlock∧OwnI B w' x (ded xs xs.length)∧Below B w w':=by
 rcases h.2 with ⟨rfl,hn⟩ | ⟨g,cap,cur,rfl,hb,hg,hn,hm,hs,ht⟩
 ·obtain rfl:=List.length_eq_zero_iff.1 hn
  refine Calls.mono (Any.slices_Compact_int_empty Tryz.laysCompact none 0 w) ?_
  rintro e w' ⟨rfl,rfl⟩
  exact ⟨_,rfl,rfl,h,Below.refl _ _⟩
 ·refine Calls.mono (Any.slices_Compact_int_cells Tryz.laysCompact g 0 xs.length cap xs w (Nat.le_refl _) hl hn (fun j hj=>?_) (fun j hj=>?_)) ?_
  ·have:=h.at.cellD j hj
   rw [valAt_row] at this
   simpa using this
  ·have:=h.frz j hj
   rw [valAt_row] at this
   simpa using this
  ·rintro e w' ⟨rfl,q,rfl⟩
   rw [List.take_length,compact_ded]
   have hd:=ded_len xs xs.length
   have hL:(ded xs xs.length++List.replicate (xs.length-(ded xs xs.length).length) (0:Int)).length=xs.length:=by simp; omega
   have:=setCells_own (w0:=w) (ded xs xs.length++List.replicate (xs.length-(ded xs xs.length).length) 0) 0 xs (w.drewN q) rfl (by rw [hL]; omega) (h.drewN q) (below_drewN (Below.refl _ _) q)
   rw [hL,List.take_zero,List.nil_append,Nat.zero_add,List.drop_length,List.append_nil] at this
   have ho:=this.1.cutTo (ded xs xs.length).length (by rw [hL]; exact hd)
   rw [List.take_left'  rfl] at ho
   exact ⟨_,rfl,rfl,ho,this.2⟩
end Go.Proofs.YtkaoebokbfcmhaaGreatDoor
namespace Go.Proofs.YtkaoebokbfcmhaaGreatDoor
open Go.RowKit
set_option maxRecDepth 100000
set_option maxHeartbeats 8000000
theorem lenArr (g K c:Nat) (w:World):(Builtin.len_ #[158] 3 #[.slice (some ⟨g,0,none⟩) K c]).run Tryz.prog w=.ok (.int .i64 K) w:=by
 rw [run_len_slice _ _ _ _ _ _ (by kernel_rfl)]; rfl
theorem idxArr (g K c s:Nat) (hs:s<K) (w:World):(Instr.indexAt 158 (.slice (some ⟨g,0,none⟩) K c) (.int .i64 s)).run Tryz.prog w=.ok (.pointer (some ⟨g,s*2,none⟩)) w:=by
 have e:Tryz.prog.elem 158=160:=by kernel_rfl
 have hz:∀ w:World,(sizeOf 160).run Tryz.prog w=.ok 2 w:=fun w=>by kernel_rfl
 rw [run_indexAt_slice _ _ _ _ _ _ _ (by rw [e]; kernel_rfl),if_pos (by omega),e,hz]
 simp only [Result.andThen,Addr.add,Int.toNat_natCast]
 by_cases e:s*2=0
 ·rw [if_pos e]
  simp only [e]
 ·rw [if_neg e]
  simp
def pairTo (K N:Nat) (T:List Int) (k p:Nat):List Int:=if p<k then castI (pairL K N T p) else []
theorem pairTo_zero (K N:Nat) (T:List Int):pairTo K N T 0=fun _=>[]:=by funext p; unfold pairTo; rw [if_neg (by omega)]
theorem pairTo_step (K N:Nat) (T:List Int) (k:Nat):updN (pairTo K N T k) k (castI (pairL K N T k))=pairTo K N T (k+1):=by
 funext p
 unfold pairTo
 by_cases e:p=k
 ·subst e; rw [updN_same,if_pos (by omega)]
 ·rw [updN_other _ _ _ e]
  by_cases h:p<k
  ·rw [if_pos h,if_pos (by omega)]
  ·rw [if_neg h,if_neg (by omega)]
def pairG (K N:Nat) (T:List Int):List (List Int):=rowsOf (N*N) fun p=>castI (pairL K N T p)
theorem cell_grown {w w':World} {row:Option Nat} {p:Addr} {v:Value} (hg:w.grownBy w' row) (h:w.cell? p=some v) (hne:row≠some p.block):w'.cell? p=some v :=
 (World.cell?_of_block (hg.block _ (World.block_lt_of_cell? _ _ h) (fun e=>hne e.symm))).trans h
theorem Rows.monoB {B B':Nat} {w:World} {f:Names} (h:Rows B w f) (hB:B'≤B):Rows B' w f :=
 ⟨fun i r hi=>by
   have ho:=h.1 i r hi
   refine ⟨ho.1,?_⟩
   rcases ho.2 with h2 | ⟨g,cap,cur,e,hb,r⟩
   ·exact .inl h2
   ·exact .inr ⟨g,cap,cur,e,Nat.le_trans hB hb,r⟩,h.2⟩
theorem pgraph_ok (r:Nat→Addr) (K R:Nat) (va:Option Addr) (vn vc:Nat) (T:List Int) (w:World) (hg:Glob r w) (h:IntsAt w (.slice va vn vc) T) (hr:RuleOk K R T) (hl:T.length≤256) :
 Calls Tryz.prog 51 #[.agg #[.int .i64 K,.int .i64 R,.slice va vn vc]] w (Ret2 (fun x y w'=>y=.nilIface∧∃ f vals,Rows w.heap.size w' f∧WN f x vals (pw K (2*wkR R)*pw K (2*wkR R)) (fun p=>castI (pairL K (pw K (2*wkR R)) (wkT K R T) p))) w):=by
 have b0:=belowAlloc w (.cells #[.int .i64 K,.int .i64 R,.slice va vn vc] 24)
 have q:Box3 (w.alloc (.cells #[.int .i64 K,.int .i64 R,.slice va vn vc] 24)) w.heap.size (.int .i64 K) (.int .i64 R) (.slice va vn vc):=by simp [Box3,go_sem]
 have hk1:=hr.k1
 have hk4:=hr.k4
 have hokW:=wk_ok hr
 have hlW:=wk_small hr hl
 have hRW:=wk_pos R
 have hN81:=nodes_le hokW hRW hlW
 obtain ⟨hdiv,hlen⟩:=hokW.half
 have hN1:=pw_pos (K:=K) (2*wkR R) hk1
 have hwork:=fun (w':World) (hgl:Glob r w') (hT:IntsAt w' (.slice va vn vc) T)=>working_ok r K R va vn vc T w' hgl hT hr hl
 have harr:=fun (a:Option Addr) (n c:Nat) (w':World) (hgl:Glob r w') (hT:IntsAt w' (.slice a n c) (wkT K R T))=>arrows_any r K (wkR R) a n c (wkT K R T) w' hgl hT hokW hlW
 rw [hdiv] at harr
 generalize pw K (2*wkR R)=N at *
 generalize wkT K R T=T' at *
 generalize wkR R=R' at *
 replace hwork:=Hd hwork
 replace harr:=Hd harr
 replace hg:=Hd (hg.below b0)
 replace h:=Hd (h.below b0)
 replace hokW:=Hd hokW
 replace hr:=Hd hr
 replace hdiv:=Hd hdiv
 replace hlen:=Hd hlen
 go_enter Tryz.func51,Tryz.ntmps51
 go_wp2_with fail
 refine (hwork.out _ hg.out h.out).mono ?_
 rintro e w1 ⟨x,y,rfl,b1,rfl,a,n,c,rfl,hT1⟩
 have b01:=Below.step b0 b1
 have ba:=belowAlloc w1 (.cells #[.int .i64 K,.int .i64 R',.slice a n c] 24)
 have q1:Box3 (w1.alloc (.cells #[.int .i64 K,.int .i64 R',.slice a n c] 24)) w1.heap.size (.int .i64 K) (.int .i64 R') (.slice a n c):=by simp [Box3,go_sem]
 have b02:=Below.step b01 ba
 have b12:=Below.step b1 ba
 have hT2:=hT1.below ba
 clear q
 replace hT1:=Hd hT1
 replace hT2:=Hd hT2
 go_wp2_with fail
 refine (harr.out a n c _ (hg.out.below b12) hT2.out).mono ?_
 rintro e w3 ⟨lv,rfl,b3,hA⟩
 have b03:=Below.step b02 b3
 clear q1
 obtain ⟨vs,hvs,hvl,hrows⟩:=hA
 obtain ⟨la,ln,lc,rfl⟩:=hvs.shape
 have ll:=fun w'=>hvs.len oneArrows 3 w'
 rw [hvl] at ll
 have hNN:(N:Int)*(N:Int)=((N*N:Nat):Int):=by simp
 have hM6:N*N≤6561:=Nat.mul_le_mul hN81 hN81
 have hNz1:¬ (N:Int)=0:=by omega
 have hNz2:((N:Int)==0)=false:=by rw [beq_eq_false_iff_ne]; omega
 have hNz3:(0:Int)<N:=by omega
 have hNz4:¬ N=0:=by omega
 obtain ⟨M,hM⟩:∃ M,N*N=M:=⟨_,rfl⟩
 rw [hM] at hNN hM6
 have hwM:IntKind.i64.wrap (M:Int)=M:=wrapK (by omega) (by omega)
 obtain ⟨ov,w4,mk,ho,hb4⟩:=run_makeW oneLists (M:Int) M w3 rfl (by omega)
 obtain ⟨f1,hr1,h1⟩:=WN.made M hb4 (Nat.le_refl _) ho
 obtain ⟨oa,on,oc,rfl⟩:=ho.shape
 have lo:=fun w'=>(ho.at).len oneLists 3 w'
 rw [List.length_replicate] at lo
 rw [← pairTo_zero K N T'] at h1
 replace hvs:=Hd hvs
 replace hrows:=Hd hrows
 replace hr1:=Hd hr1
 replace ho:=Hd ho
 replace hM:=Hd hM
 go_wp2_with fail
 clear mk lo ll
 go_loopw [33] (fun kv wr=>∃ (k:Nat) (f:Names) (vals:List Value),k≤M∧kv=.int .i64 k∧Rows w3.heap.size wr f∧Below w3.heap.size w3 wr∧WN f (.slice oa on oc) vals M (pairTo K N T' k)) (fun kv _=>M-(intOf kv).toNat)
 case atStart=>exact ⟨0,f1,_,by omega,rfl,hr1.out,hb4,h1⟩
 case round =>
  clear h1 ho hr1 hb4
  obtain ⟨k,f2,vals,hk,rfl,hr2,b2,h2⟩:=hrel
  obtain ⟨wo,rfl⟩:∃ wo:World,wo=wr:=⟨_,rfl⟩
  by_cases hlt:k<M
  ·obtain ⟨u,hu⟩:∃ u,k/N=u:=⟨_,rfl⟩
   obtain ⟨v,hv⟩:∃ v,k%N=v:=⟨_,rfl⟩
   have hun:u<N:=by rw [← hu]; exact div_lt_of (by rw [hM.out]; exact hlt)
   have hvn:v<N:=by rw [← hv]; exact Nat.mod_lt _ (by omega)
   have hqu:(k:Int)/(N:Int)=(u:Int):=by rw [← hu]; simp
   have hqv:(k:Int)%(N:Int)=(v:Int):=by rw [← hv]; simp
   have hqu2:(k:Int).tdiv (N:Int)=(u:Int):=by rw [Int.tdiv_eq_ediv_of_nonneg (by omega)]; exact hqu
   have hqv2:(k:Int).tmod (N:Int)=(v:Int):=by rw [Int.tmod_eq_emod_of_nonneg (by omega)]; exact hqv
   have hwu:IntKind.i64.wrap (u:Int)=u:=wrapK (by omega) (by omega)
   have hwv:IntKind.i64.wrap (v:Int)=v:=wrapK (by omega) (by omega)
   obtain ⟨gu,cu,eu,hcu,hcellU⟩:=hrows.out u hun
   obtain ⟨gv,cv,ev,hcv,hcellV⟩:=hrows.out v hvn
   have iU:=fun w'=>hvs.out.idx oneArrows u (by omega) w'
   have iV:=fun w'=>hvs.out.idx oneArrows v (by omega) w'
   have cU3:=hvs.out.cellV u (by omega)
   have cV3:=hvs.out.cellV v (by omega)
   rw [eu] at cU3
   rw [ev] at cV3
   have cU:=(b2.cell (World.block_lt_of_cell? _ _ cU3)).trans cU3
   generalize valAt (.slice la ln lc) u=ua at *
   have lenU:=lenArr gu K cu
   have lenV:=lenArr gv K cv
   have idxU:=fun s (hs:s<K) w'=>idxArr gu K cu s hs w'
   have idxV:=fun s (hs:s<K) w'=>idxArr gv K cv s hs w'
   have hcU:=fun (w':World) (hb:Below w3.heap.size w3 w') s (hs:s<K)=>(⟨cell_keep hb (hcellU s hs).1,cell_keep hb (hcellU s hs).2⟩:w'.cell? ⟨gu,s*2,none⟩=some (.int .i64 (toN K N u s))∧w'.cell? ⟨gu,s*2+1,none⟩=some (.int .i64 (labN K T' u s)))
   have hcV:=fun (w':World) (hb:Below w3.heap.size w3 w') s (hs:s<K)=>(⟨cell_keep hb (hcellV s hs).1,cell_keep hb (hcellV s hs).2⟩:w'.cell? ⟨gv,s*2,none⟩=some (.int .i64 (toN K N v s))∧w'.cell? ⟨gv,s*2+1,none⟩=some (.int .i64 (labN K T' v s)))
   have cVk:=fun (w':World) (hb:Below w3.heap.size w3 w')=>(hb.cell (World.block_lt_of_cell? _ _ cV3)).trans cV3
   generalize valAt (.slice la ln lc) v=va' at *
   replace hcU:=Hd hcU
   replace hcV:=Hd hcV
   replace cVk:=Hd cVk
   replace idxU:=Hd idxU
   replace idxV:=Hd idxV
   replace hcellU:=Hd hcellU
   replace hcellV:=Hd hcellV
   replace hr2:=Hd hr2
   replace hu:=Hd hu
   replace hv:=Hd hv
   replace eu:=Hd eu
   replace ev:=Hd ev
   clear cU3 cV3
   go_wp2_with fail
   clear cU iU
   go_loopw [10,43] (fun tv sv wr=>∃ (s:Nat) (tw:Value),s≤K∧sv=.int .i64 s∧tw=tv∧OwnI wo.heap.size wr tw (castI (rawP K N T' u v s))∧Below wo.heap.size wo wr) (fun _ sv _=>K-(intOf sv).toNat)
   case atStart=>exact ⟨0,_,by omega,rfl,rfl,OwnI.nil _ _,Below.refl _ _⟩
   case round =>
    obtain ⟨s,tv,hs,rfl,rfl,hoT,bT⟩:=hrel
    obtain ⟨wt,rfl⟩:∃ wt:World,wt=wr:=⟨_,rfl⟩
    by_cases hsl:s<K
    ·have b3t:=b2.trans (bT.mono b2.size)
     have iS:=fun w'=>idxU.out s hsl w'
     obtain ⟨cS0,cS1⟩:=hcU.out wt b3t s hsl
     obtain ⟨X,hX⟩:∃ X,toN K N u s=X:=⟨_,rfl⟩
     obtain ⟨Y,hY⟩:∃ Y,labN K T' u s=Y:=⟨_,rfl⟩
     rw [hX] at cS0
     rw [hY] at cS1
     have hXN:X<N:=by rw [← hX]; exact toN_lt (by omega)
     have bA:=belowAlloc wt (.cells #[.int .i64 X,.int .i64 Y] 160)
     have bTA:=bT.trans (bA.mono bT.size)
     have b3A:=b3t.trans (bA.mono b3t.size)
     have cA0:(wt.alloc (.cells #[.int .i64 X,.int .i64 Y] 160)).cell? ⟨wt.heap.size,0,none⟩=some (.int .i64 X):=by simp [go_sem]
     have cA1:(wt.alloc (.cells #[.int .i64 X,.int .i64 Y] 160)).cell? ⟨wt.heap.size,1,none⟩=some (.int .i64 Y):=by simp [go_sem]
     have cV:=cVk.out _ b3A
     have hoA:=hoT.below bA
     have hneT:tv.ownBlock≠some wt.heap.size:=fun e=>by have:=(hoT.lt _ e).2; omega
     replace hoT:=Hd hoT
     replace hoA:=Hd hoA
     replace hX:=Hd hX
     replace hY:=Hd hY
     replace cA0:=Hd cA0
     replace cA1:=Hd cA1
     go_wp2_with fail
     obtain ⟨wa,hwa⟩:∃ wa:World,wa=wt.alloc (.cells #[.int .i64 X,.int .i64 Y] 160):=⟨_,rfl⟩
     rw [← hwa] at bA bTA b3A cA0 cA1 cV hoA ⊢
     replace hwa:=Hd hwa
     go_loopw [10,54] (fun tv' jv wr=>∃ (j:Nat) (tw:Value),j≤K∧jv=.int .i64 j∧tw=tv'∧OwnI wo.heap.size wr tw (castI (rawP K N T' u v s++rawS K N T' u v s j))∧Below wo.heap.size wo wr∧tw.ownBlock≠some wt.heap.size∧wr.cell? ⟨wt.heap.size,0,none⟩=some (.int .i64 X)∧wr.cell? ⟨wt.heap.size,1,none⟩=some (.int .i64 Y)) (fun _ jv _=>K-(intOf jv).toNat)
     case atStart=>exact ⟨0,_,by omega,rfl,rfl,by simpa [rawS] using hoA.out,bTA,hneT,cA0.out,cA1.out⟩
     case round =>
      obtain ⟨j,tj,hj,rfl,rfl,hoJ,bJ,hne,y0,y1⟩:=hrel
      obtain ⟨wj,rfl⟩:∃ wj:World,wj=wr:=⟨_,rfl⟩
      by_cases hjl:j<K
      ·have b3j:=b2.trans (bJ.mono b2.size)
       have iJ:=fun w'=>idxV.out j hjl w'
       obtain ⟨cJ0,cJ1⟩:=hcV.out wj b3j j hjl
       obtain ⟨X2,hX2⟩:∃ X,toN K N v j=X:=⟨_,rfl⟩
       obtain ⟨Y2,hY2⟩:∃ Y,labN K T' v j=Y:=⟨_,rfl⟩
       rw [hX2] at cJ0
       rw [hY2] at cJ1
       have hXN2:X2<N:=by rw [← hX2]; exact toN_lt (by omega)
       have bA2:=belowAlloc wj (.cells #[.int .i64 X2,.int .i64 Y2] 160)
       have y0':=cell_keep bA2 y0
       have y1':=cell_keep bA2 y1
       have bJA:=bJ.trans (bA2.mono bJ.size)
       have hoJA:=hoJ.below bA2
       have hsz:=bJA.size
       have hwt:wt.heap.size<wj.heap.size:=World.block_lt_of_cell? _ _ y0
       have hlenJ:(castI (rawP K N T' u v s++rawS K N T' u v s j)).length≤100:=by
        rw [castI_len,List.length_append]
        have e1:=rawP_len K N T' u v s
        have e2:=rawS_len K N T' u v s j
        have e3:=Nat.mul_le_mul hs hk4
        omega
       replace hoJ:=Hd hoJ
       replace hX2:=Hd hX2
       replace hY2:=Hd hY2
       have cB0:(wj.alloc (.cells #[.int .i64 X2,.int .i64 Y2] 160)).cell? ⟨wj.heap.size,0,none⟩=some (.int .i64 X2):=by simp [go_sem]
       have cB1:(wj.alloc (.cells #[.int .i64 X2,.int .i64 Y2] 160)).cell? ⟨wj.heap.size,1,none⟩=some (.int .i64 Y2):=by simp [go_sem]
       go_upto_region 17 with fail
       obtain ⟨wb,hwb⟩:∃ wb:World,wb=wj.alloc (.cells #[.int .i64 X2,.int .i64 Y2] 160):=⟨_,rfl⟩
       rw [← hwb] at bA2 y0' y1' bJA hoJA hsz cB0 cB1 ⊢
       have hszb:wj.heap.size<wb.heap.size:=World.block_lt_of_cell? _ _ cB0
       replace hszb:=Hd hszb
       replace hwb:=Hd hwb
       by_cases hYY:Y=Y2
       ·have hYq:(Y==Y2)=true:=by rw [beq_iff_eq]; exact hYY
        have hraw:rawS K N T' u v s (j+1)=rawS K N T' u v s j++[X*N+X2]:=by
         rw [rawS_succ]; unfold rawT
         rw [hY.out,hY2.out,hX.out,hX2.out,if_pos hYY]
        obtain ⟨m,hm⟩:∃ m,X*N=m:=⟨_,rfl⟩
        have hm1:(X:Int)*(N:Int)=(m:Int):=by rw [← hm]; simp
        have hml:m≤6561:=by rw [← hm]; exact Nat.le_trans (Nat.mul_le_mul (show X≤81 by omega) hN81) (by decide)
        have hwm:IntKind.i64.wrap (m:Int)=m:=wrapK (by omega) (by omega)
        have hsum:(m:Int)+(X2:Int)=((m+X2:Nat):Int):=by simp
        rw [hm] at hraw
        obtain ⟨z,hz⟩:∃ z,m+X2=z:=⟨_,rfl⟩
        rw [hz] at hsum hraw
        have hzl:z≤7000:=by omega
        have hwz:IntKind.i64.wrap (z:Int)=z:=wrapK (by omega) (by omega)
        replace hraw:=Hd hraw
        replace hm:=Hd hm
        replace hz:=Hd hz
        replace hYY:=Hd hYY
        go_wp2_with (at_builtin; go_loud (refine wpl_app1 rfl _ _ rfl wo.heap.size tj _ z hoJA rfl rfl (by omega) hsz ?_))
        intro v' w7 ho7 b7 hal
        have hne':v'.ownBlock≠some wt.heap.size:=by
         rcases hal with ⟨q1,_⟩ | ⟨m,q1,q2,_⟩
         ·rw [ownBlock_eq hoJA ho7 q1]; exact hne
         ·rw [q1]; intro e; injection e with e; have:=hszb.out; omega
        have y07:w7.cell? ⟨wt.heap.size,0,none⟩=some (.int .i64 X)∧w7.cell? ⟨wt.heap.size,1,none⟩=some (.int .i64 Y):=by
         rcases hal with ⟨_,q2⟩ | ⟨_,_,_,q2⟩
         ·exact ⟨cell_grown q2 y0' hne,cell_grown q2 y1' hne⟩
         ·exact ⟨cell_grown q2 y0' (by simp),cell_grown q2 y1' (by simp)⟩
        obtain ⟨ta,tn,tc,rfl⟩:=ho7.at.shape
        replace ho7:=Hd ho7
        replace y07:=Hd y07
        clear hal
        go_wp2
        go_roundw
        case measure=>simp [intOf]; omega
        case rel=>exact ⟨j+1,_,by omega,by go_num,rfl,by rw [hraw.out,← List.append_assoc,castI_snoc]; exact ho7.out,bJA.trans b7,hne',y07.out.1,y07.out.2⟩
       ·have hYq:(Y==Y2)=false:=by rw [beq_eq_false_iff_ne]; exact hYY
        have hraw:rawS K N T' u v s (j+1)=rawS K N T' u v s j:=by
         rw [rawS_succ]; unfold rawT
         rw [hY.out,hY2.out,if_neg hYY,List.append_nil]
        replace hraw:=Hd hraw
        replace hoJA:=Hd hoJA
        replace hYY:=Hd hYY
        go_wp2
        go_roundw
        case measure=>simp [intOf]; omega
        case rel=>exact ⟨j+1,_,by omega,by go_num,rfl,by rw [hraw.out]; exact hoJA.out,bJA,hne,y0',y1'⟩
      ·obtain rfl:j=K:=by omega
       rw [← rawP_succ] at hoJ
       replace hoJ:=Hd hoJ
       go_wp2
       go_roundw
       case measure=>simp [intOf]; omega
       case rel=>exact ⟨s+1,_,by omega,by go_num,rfl,hoJ.out,bJ⟩
    ·obtain rfl:s=K:=by omega
     have hlT:(castI (rawP s N T' u v s)).length≤17592186044416:=by
      rw [castI_len]
      have e1:=rawP_len s N T' u v s
      have e3:=Nat.mul_le_mul hk4 hk4
      omega
     have hsz:=bT.size
     replace hoT:=Hd hoT
     go_wp2_with fail
     refine (sort_own wo.heap.size tv _ wt hoT.out hlT hsz).mono ?_
     rintro e w8 ⟨rfl,ho8,b8⟩
     have bT8:=bT.trans b8
     replace ho8:=Hd ho8
     go_wp2_with fail
     refine (compact_own wo.heap.size tv _ w8 ho8.out (by rw [srt_length]; omega)).mono ?_
     rintro e w9 ⟨x,rfl,_,ho9,b9⟩
     have bT9:=bT8.trans b9
     have hded:ded (srt (castI (rawP s N T' u v s))) (srt (castI (rawP s N T' u v s))).length=castI (pairL s N T' k):=by
      refine ded_pair (by omega) (srt_sorted _) (fun x=>?_)
      rw [srt_mem,hu.out,hv.out]; rfl
     rw [hded] at ho9
     have hnew:=h2.new hr2.out k bT9 b2.size ho9
     obtain ⟨y1,y2,y3,f8,hr8,h8,_⟩:=h2.put hlt hnew
     rw [pairTo_step] at h8
     have iO:=fun w'=>((hr2.out.ownV h2.outer).at).idx oneLists k (by rw [h2.len]; exact hlt) w'
     generalize valAt (.slice oa on oc) k=ka at *
     obtain ⟨xa,xn,xc,rfl⟩:=ho9.at.shape
     have b39:=b2.trans (bT9.mono b2.size)
     replace hr8:=Hd hr8
     replace ho9:=Hd ho9
     replace hded:=Hd hded
     replace hnew:=Hd hnew
     go_wp2
     go_roundw
     case measure=>simp [intOf]; omega
     case rel=>exact ⟨k+1,f8,_,by omega,by go_num,hr8.out,b39.setCell y3 _,h8⟩
  ·obtain rfl:k=M:=by omega
   have hR:=hr2.monoB (Nat.le_trans b03.size (Nat.le_refl _))
   have hW:WN f2 (.slice oa on oc) vals (N*N) (fun p=>castI (pairL K N T' p)):=by
    rw [hM.out]
    exact ⟨h2.outer,h2.len,fun u hu=>by rw [h2.rows u hu]; unfold pairTo; rw [if_pos hu]⟩
   have bE:=Below.step b03 b2
   replace hR:=Hd hR
   replace hr2:=Hd hr2
   go_wp2
   go_ret2
   exact ⟨_,_,rfl,bE,rfl,_,_,hR.out,hW⟩
end Go.Proofs.YtkaoebokbfcmhaaGreatDoor
namespace Go.Proofs.YtkaoebokbfcmhaaGreatDoor
open Go.RowKit
set_option maxRecDepth 100000
theorem Rows.push {B:Nat} {w w1:World} {f:Names} {i:Nat×Nat} {v v':Value} {xs:List Int} (h:Rows B w f) (hi:f i=some (rowI v xs)) (x:Int) (ho:OwnI B w1 v' (xs++[x]))
 (hg:w.grownBy w1 v.ownBlock) (hal:v'.ownBlock=v.ownBlock∨∃ k,v'.ownBlock=some k∧w.heap.size≤k):Rows B w1 (upd f i (some (rowI v' (xs++[x])))) :=
 h.grown (r':=rowI v' (xs++[x])) hi hg ho hal
theorem alongW_snoc (K m:Nat) (F:Nat→Nat) (l:List Nat) (p:Nat) (hl:l≠[]):alongW K m F (l++[p])=alongW K m F l++[((F p%K:Nat):Int)]:=by
 cases l with
 | nil=>exact absurd rfl hl
 | cons a l=>simp [alongW,List.getD]
theorem alongW_one (K m:Nat) (F:Nat→Nat) (p:Nat):alongW K m F [p]=digs K m (F p):=by simp [alongW,List.getD]
theorem pairs_wrong (r:Nat→Addr) (at_ n:Int) (w:World) (hg:Glob r w) (h1:1≤n) (h2:n≤11) :
 Calls Tryz.prog 152 #[.int .i64 at_,.int .i64 n] w (Ret1 (fun v w'=>ErrIs r w' (fresh sPairs at_ n) v) w):=by
 go_enter Tryz.func152,Tryz.ntmps152
 go_wp2_with fail
 refine (new_any r _ at_ n w hg h1 h2).mono ?_
 rintro e w' ⟨v,rfl,hb,he⟩
 go_wp2
 go_ret
 exact ⟨_,rfl,hb,he⟩
def AllFit (K N:Nat) (T:List Int) (ns:List Nat):Prop:=∀ i,i+1<ns.length→StepFits K N T (ns.getD i 0) (ns.getD (i+1) 0)
end Go.Proofs.YtkaoebokbfcmhaaGreatDoor
