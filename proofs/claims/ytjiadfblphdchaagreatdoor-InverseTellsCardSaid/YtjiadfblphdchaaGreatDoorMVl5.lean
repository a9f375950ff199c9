/-
  Walk: graph.Live.
  Walks: edenref03.Bad, edenref04.Power, Digits, Check.
  Walk: edenref12.Check.
  Plain mathematics: how far it is; the first of the shortest ways by going down; the first of the shortest loops.
  Plain mathematics: what stays where again and again vertices are taken away to which, or from which, no arrow leads.
  Walk: edenref12.turned: the arrows the other way round, each as often.
  Walk: edenref12.far: how far it is from a vertex.
  Walk: edenref12.way: the first of the shortest ways, by going down.
  Walks: package additive.
  Walks: edenref18.Fault.
  Plain law of AddParts: a table is a sum just if each window is the sum of two.
  Plain mathematics of AddSums: a product may be turned; the factors of a sum at one symbol alone; factors taken modulo k.
  Plain mathematics: the reference's sums, window by window; what it tells by the factors; its products.
  Walk: edenref18.Sum.
  What the document's answers of layer 12 share: the error's box.
  Plain mathematics: what stands on a loop.
  Plain mathematics: the peeling of a graph, step by step; what it leaves are the live vertices.
-/
import Derived.Test.YtjiadfblphdchaaGreatDoorMVl4
import Derived.BigQuiet
import Derived.Deep.RegionHeld3
namespace Go.Proofs.YtjiadfblphdchaaGreatDoor
open Go.RowKit
set_option maxRecDepth 100000
/-- u stands on a loop. -/
def OnLoop (adj : Nat → List Nat) (u : Nat) : Prop:=∃ t ∈ adj u,Goes adj t u
/-- v stands between two loops. -/
def IsLive (n : Nat) (adj : Nat → List Nat) (v : Nat) : Prop:=(∃ u,u < n ∧ OnLoop adj u ∧ Goes adj u v) ∧ ∃ u,u < n ∧ OnLoop adj u ∧ Goes adj v u
structure LiveList (n : Nat) (adj : Nat → List Nat) (L : List Nat) : Prop where
 sorted : L.Pairwise (· < ·)
 mem : ∀ v,v ∈ L ↔ v < n ∧ IsLive n adj v
theorem turned_adj {G H : List (List Int)} (h : TurnedOf G H) (hok : GraphOk G) {t v : Nat} (ht : t < G.length) : v ∈ adjOf H t ↔ v < G.length ∧ t ∈ adjOf G v:=by
 unfold adjOf
 simp only [List.mem_map]
 constructor
 ·rintro ⟨y,hy,rfl⟩
  obtain ⟨x,rfl,hx,hm⟩:=(h.2.2 t ht y).1 hy
  exact ⟨by simpa using hx,(t : Int),by simpa using hm,by simp⟩
 ·rintro ⟨hv,y,hy,rfl⟩
  have:=hok v hv y hy
  exact ⟨(v : Int),(h.2.2 y.toNat ht v).2 ⟨v,rfl,hv,by rw [Int.toNat_of_nonneg this.1]; exact hy⟩,by simp⟩
theorem turned_ok {G H : List (List Int)} (h : TurnedOf G H) : GraphOk H:=by
 intro t ht y hy
 rw [h.1] at ht ⊢
 obtain ⟨x,rfl,hx,_⟩:=(h.2.2 t ht y).1 hy
 omega
theorem goes_lt {G : List (List Int)} (hok : GraphOk G) {x y : Nat} (h : Goes (adjOf G) x y) (hx : x < G.length) : y < G.length :=
 Goes.closed (P:=fun z => z < G.length) (fun z hz t ht => hok.lt z hz t ht) h hx
theorem turned_goes {G H : List (List Int)} (h : TurnedOf G H) (hok : GraphOk G) {x y : Nat} (hg : Goes (adjOf H) x y) (hx : x < G.length) : Goes (adjOf G) y x:=by
 induction hg with
 | refl => exact .refl _
 | @step y z hg hz ih =>
  have hy : y < G.length:=by have:=goes_lt (turned_ok h) hg (by rw [h.1]; exact hx); rwa [h.1] at this
  exact (Goes.one ((turned_adj h hok hy).1 hz).2).trans ih
theorem goes_turned {G H : List (List Int)} (h : TurnedOf G H) (hok : GraphOk G) {x y : Nat} (hg : Goes (adjOf G) x y) (hx : x < G.length) : Goes (adjOf H) y x:=by
 induction hg with
 | refl => exact .refl _
 | @step y z hg hz ih =>
  have hy:=goes_lt hok hg hx
  exact (Goes.one ((turned_adj h hok (hok.lt y hy z hz)).2 ⟨hy,hz⟩)).trans ih
theorem onLoop_parts {G : List (List Int)} (hok : GraphOk G) {ps : List Int} (hp : PartsOf G.length (adjOf G) ps) {x : Nat} (hx : x < G.length) : OnLoop (adjOf G) x ↔ ∃ t ∈ adjOf G x,ps.getD t 0 = ps.getD x 0:=by
 constructor
 ·rintro ⟨t,ht,hg⟩
  exact ⟨t,ht,(hp.eq (hok.lt x hx t ht) hx).2 ⟨hg,.one ht⟩⟩
 ·rintro ⟨t,ht,he⟩
  exact ⟨t,ht,((hp.eq (hok.lt x hx t ht) hx).1 he).1⟩
/-- What Live leaves. -/
def LivePost (r : Nat → Addr) (w : World) (G : List (List Int)) (x y : Value) (w' : World) : Prop :=
 ErrIs r w' (checkG G) y ∧ (checkG G = none → ∃ L,LiveList G.length (adjOf G) L ∧ OwnI w.heap.size w' x (castI L)) ∧ (checkG G ≠ none → x = .slice none 0 0)
/-- The marks of the vertices on loops: of the first k, and of the next by its first j arrows. -/
def LoopTo (G : List (List Int)) (ps : List Int) (k j : Nat) (m : Nat → Bool) : Prop :=
 ∀ x,x < G.length → (m x = true ↔ (x < k ∧ ∃ t ∈ adjOf G x,ps.getD t 0 = ps.getD x 0) ∨ (x = k ∧ ∃ t ∈ (adjOf G k).take j,ps.getD t 0 = ps.getD k 0))
theorem LoopTo.next {G : List (List Int)} {ps : List Int} {k : Nat} {m : Nat → Bool} (h : LoopTo G ps k (adjOf G k).length m) : LoopTo G ps (k + 1) 0 m:=by
 intro x hx
 rw [h x hx,List.take_length]
 constructor
 ·rintro (⟨a,b⟩ | ⟨rfl,b⟩)
  ·exact .inl ⟨by omega,b⟩
  ·exact .inl ⟨by omega,b⟩
 ·rintro (⟨a,b⟩ | ⟨_,t,ht,_⟩)
  ·by_cases e : x = k
   ·subst e; exact .inr ⟨rfl,b⟩
   ·exact .inl ⟨by omega,b⟩
  ·simp at ht
theorem LoopTo.add {G : List (List Int)} {ps : List Int} {k j t : Nat} {m : Nat → Bool} (h : LoopTo G ps k j m) (ht : (adjOf G k)[j]? = some t) (m' : Nat → Bool)
 (hm : m' = if ps.getD t 0 = ps.getD k 0 then updN m k true else m) : LoopTo G ps k (j + 1) m':=by
 intro x hx
 have htk : (adjOf G k).take (j + 1) = (adjOf G k).take j ++ [t]:=by rw [List.take_add_one,ht]; rfl
 by_cases hp : ps.getD t 0 = ps.getD k 0
 ·rw [if_pos hp] at hm
  subst hm
  by_cases e : x = k
  ·subst e
   rw [updN_same]
   exact ⟨fun _ => .inr ⟨rfl,t,by rw [htk]; simp,hp⟩,fun _ => rfl⟩
  ·rw [updN_other _ _ _ e,h x hx]
   exact ⟨fun q => q.imp id (fun q => absurd q.1 e),fun q => q.imp id (fun q => absurd q.1 e)⟩
 ·rw [if_neg hp] at hm
  subst hm
  rw [h x hx,htk]
  constructor
  ·rintro (q | ⟨e,s,hs,hq⟩)
   ·exact .inl q
   ·exact .inr ⟨e,s,List.mem_append_left _ hs,hq⟩
  ·rintro (q | ⟨e,s,hs,hq⟩)
   ·exact .inl q
   ·rcases List.mem_append.1 hs with hs | hs
    ·exact .inr ⟨e,s,hs,hq⟩
    ·cases List.mem_singleton.1 hs; exact absurd hq hp
set_option maxHeartbeats 4000000 in
theorem live_any (r : Nat → Addr) (na : Option Addr) (nc : Nat) (G : List (List Int)) (w : World) (hg : Glob r w) (h : ListsAt w (.slice na G.length nc) G) (hsz : ∀ k,k < G.length → (G.getD k []).length ≤ 17592186044416) :
 Calls Tryz.prog 79 #[.slice na G.length nc] w (Ret2 (LivePost r w G) w):=by
 have hP:=parts_any r na nc G w hg h hsz
 replace h:=Lib.hid h
 replace hg:=Lib.hid hg
 replace hsz:=Lib.hid hsz
 cases hck : checkG G with
 | some t =>
  replace hck:=Lib.hid hck
  go_enter Tryz.func79,Tryz.ntmps79
  go_wp2_with fail
  refine hP.mono ?_
  rintro e w1 ⟨x,y,rfl,b1,he,_,hx⟩
  rw [hck.out] at he hx
  obtain rfl:=hx (by simp)
  obtain ⟨T,a,rfl⟩:=he.some_shape
  replace he:=Lib.hid he
  clear hx hP
  go_wp2
  go_ret2
  exact ⟨_,_,rfl,b1,⟨by rw [hck.out]; exact he.out,⟨fun q => (by rw [hck.out] at q; cases q),fun _ => rfl⟩⟩⟩
 | none =>
  obtain ⟨hn,harr,hok⟩:=checkG_none hck
  replace hck:=Lib.hid hck
  replace hok:=Lib.hid hok
  go_enter Tryz.func79,Tryz.ntmps79
  go_wp2_with fail
  refine hP.mono ?_
  rintro e w1 ⟨pv,y,rfl,b1,he,hps0,_⟩
  rw [hck.out] at he hps0
  obtain rfl:=he.none_eq
  obtain ⟨ps,hps,hpo⟩:=hps0 rfl
  clear hps0
  have hpl:=hps.len
  obtain ⟨pa,pn,pc,rfl⟩:=hpo.at.shape
  have hp1:=hpo.at
  clear he hP hpo
  obtain ⟨lv,w2,mk,hl2,hb2⟩:=run_makeW oneBoolG (G.length : Int) G.length w1 rfl (by omega)
  have hz : tabB G.length (fun _ => false) = List.replicate G.length (.bool false):=by
   unfold tabB; apply List.ext_getElem <;> simp
  rw [← hz] at hl2
  obtain ⟨la,ln,lc,rfl⟩:=hl2.shape
  have hz0 : LoopTo G ps 0 0 (fun _ => false):=by
   intro x hx
   simp
  replace hz0:=Lib.hid hz0
  replace hz:=Lib.hid hz
  replace hl2:=Lib.hid hl2
  replace hp1:=Lib.hid hp1
  replace hps:=Lib.hid hps
  replace hpl:=Lib.hid hpl
  go_wp2_with fail
  clear mk
  go_loopw [28] (fun kv wr => ∃ (k : Nat) (m : Nat → Bool),k ≤ G.length ∧ kv = .int .i64 k ∧ OwnV 4 w1.heap.size wr (.slice la ln lc) (tabB G.length m) ∧ Below w1.heap.size w1 wr ∧ LoopTo G ps k 0 m) (fun kv _ => G.length - (intOf kv).toNat)
  case atStart => exact ⟨0,_,by omega,rfl,hl2.out,hb2,hz0.out⟩
  case round =>
   clear hl2
   obtain ⟨k,m,hk,rfl,hlo,b3,hm⟩:=hrel
   obtain ⟨wo,rfl⟩ : ∃ wo : World,wo = wr:=⟨_,rfl⟩
   by_cases hlt : k < G.length
   ·obtain ⟨mv,iR,cR0,hM0⟩:=h.out.row k hlt
    have hbw : Below w.heap.size w wo:=b1.trans (b3.mono b1.size)
    have cR:=(hbw.cell (World.block_lt_of_cell? _ _ cR0)).trans cR0
    have hM:=hM0.below hbw
    have hgp:=hok.out k hlt
    have hal:=adjOf_len G k
    have hag : ∀ j (hj : j < (G.getD k []).length),(adjOf G k)[j]? = some ((G.getD k [])[j]).toNat:=fun j hj => by
     show ((G.getD k []).map Int.toNat)[j]? = _
     rw [List.getElem?_map,List.getElem?_eq_getElem hj]; rfl
    have hglen:=hsz.out k hlt
    generalize G.getD k [] = gk at *
    have lM:=hM.len
    generalize valAt (.slice na G.length nc) k = ra at *
    replace hm:=Lib.hid hm
    replace hlo:=Lib.hid hlo
    replace hM:=Lib.hid hM
    replace hM0:=Lib.hid hM0
    replace hgp:=Lib.hid hgp
    replace hag:=Lib.hid hag
    replace hal:=Lib.hid hal
    go_wp2_with fail
    clear iR cR cR0 lM hbw
    go_loopw [35] (fun jv wr => ∃ (j : Nat) (m : Nat → Bool),j ≤ gk.length ∧ jv = .int .i64 j ∧ OwnV 4 w1.heap.size wr (.slice la ln lc) (tabB G.length m) ∧ Below w1.heap.size w1 wr ∧ LoopTo G ps k j m) (fun jv _ => gk.length - (intOf jv).toNat)
    case atStart => exact ⟨0,m,by omega,rfl,hlo.out,b3,hm.out⟩
    case round =>
     clear hlo b3 hm hM
     obtain ⟨j,m,hj,rfl,hlo,b3,hm⟩:=hrel
     obtain ⟨wo,rfl⟩ : ∃ wo : World,wo = wr:=⟨_,rfl⟩
     by_cases hjl : j < gk.length
     ·have hMj:=hM0.out.below (b1.trans (b3.mono b1.size))
      have hgj:=hgp.out gk[j] (List.getElem_mem hjl)
      obtain ⟨t,hu⟩ : ∃ t : Nat,gk[j] = t:=Int.eq_ofNat_of_zero_le hgj.1
      have htn : t < G.length:=by rw [hu] at hgj; omega
      have hgd : gk.getD j 0 = (t : Int):=by rw [List.getD_eq_getElem?_getD,List.getElem?_eq_getElem hjl,hu]; rfl
      have hta : (adjOf G k)[j]? = some t:=by rw [hag.out j hjl,hu]; rfl
      have iJ:=fun w' => hMj.idx j hjl w'
      have cJ:=hMj.cellD j hjl
      rw [hgd] at cJ
      have hPt:=hp1.out.below b3
      have iT:=fun w' => hPt.idx t (by rw [hpl.out]; exact htn) w'
      have cT:=hPt.cellD t (by rw [hpl.out]; exact htn)
      have iK:=fun w' => hPt.idx k (by rw [hpl.out]; exact hlt) w'
      have cK:=hPt.cellD k (by rw [hpl.out]; exact hlt)
      have hadd:=hm.add hta
      have iL:=fun w' => hlo.at.idx oneBoolG k (by rw [tabB_len]; exact hlt) w'
      have cL:=hlo.at.cellV k (by rw [tabB_len]; exact hlt)
      rw [tabB_get _ _ _ hlt] at cL
      have fL:=hlo.frz k (by rw [tabB_len]; exact hlt)
      have kL:=(hlo.blkB k (by rw [tabB_len]; exact hlt)).2
      have hset:=hlo.set k (by rw [tabB_len]; exact hlt) (.bool true)
      rw [tabB_upd] at hset
      generalize valAt mv j = ja at *
      generalize valAt (.slice pa pn pc) t = ta at *
      generalize valAt (.slice pa pn pc) k = ka at *
      generalize valAt (.slice la ln lc) k = qa at *
      obtain ⟨pt,hpt⟩ : ∃ pt,ps.getD t 0 = pt:=⟨_,rfl⟩
      obtain ⟨pk,hpk⟩ : ∃ pk,ps.getD k 0 = pk:=⟨_,rfl⟩
      rw [hpt] at cT hadd
      rw [hpk] at cK hadd
      generalize m k = mk at cL
      replace hm:=Lib.hid hm
      replace hlo:=Lib.hid hlo
      replace hset:=Lib.hid hset
      replace hPt:=Lib.hid hPt
      replace hMj:=Lib.hid hMj
      replace hpt:=Lib.hid hpt
      replace hpk:=Lib.hid hpk
      replace hgd:=Lib.hid hgd
      replace hgj:=Lib.hid hgj
      replace hu:=Lib.hid hu
      replace hta:=Lib.hid hta
      by_cases he : pt = pk
      ·have hq : (pt == pk) = true:=by simp [he]
       have hn2:=hadd _ (if_pos he).symm
       replace hn2:=Lib.hid hn2
       replace he:=Lib.hid he
       clear hadd
       go_upto_region 11 with fail
       go_quiet (fail)
       go_wp2
       go_roundw
       case measure => simp [intOf]; omega
       case rel =>
        refine ⟨j + 1,_,by omega,by go_num,?_,?_,hn2.out⟩
        ·exact hset.out
        ·exact (below_drewN b3 nq).setCell kL _
      ·have hq : (pt == pk) = false:=by simp [he]
       have hn2:=hadd _ (if_neg he).symm
       replace hn2:=Lib.hid hn2
       replace he:=Lib.hid he
       clear hadd
       go_upto_region 11 with fail
       go_quiet (fail)
       go_wp2
       go_roundw
       case measure => simp [intOf]; omega
       case rel => exact ⟨j + 1,m,by omega,by go_num,hlo.out,b3.trans ⟨rfl,rfl,rfl,Nat.le_refl _,fun _ _ => rfl⟩,hn2.out⟩
     ·obtain rfl : j = gk.length:=by omega
      have hnext:=(hal.out ▸ hm : LoopTo G ps k (adjOf G k).length m).next
      replace hnext:=Lib.hid hnext
      replace hm:=Lib.hid hm
      replace hlo:=Lib.hid hlo
      go_wp2
      go_roundw
      case measure => simp [intOf]; omega
      case rel => exact ⟨k + 1,m,by omega,by go_num,hlo.out,b3,hnext.out⟩
   ·obtain rfl : k = G.length:=by omega
    have hbw : Below w.heap.size w wo:=b1.trans (b3.mono b1.size)
    have hR1:=reach_any na nc G (.slice la ln lc) m wo (h.out.below hbw) hok.out (by omega) hlo.at
    have hon : ∀ x,x < G.length → (m x = true ↔ OnLoop (adjOf G) x):=fun x hx => by
     rw [hm x hx,onLoop_parts hok.out hps.out hx]
     constructor
     ·rintro (⟨_,q⟩ | ⟨e,_⟩)
      ·exact q
      ·omega
     ·intro q; exact .inl ⟨hx,q⟩
    replace hm:=Lib.hid hm
    replace hon:=Lib.hid hon
    replace hR1:=Lib.hid hR1
    have hlo':=Lib.hid hlo
    clear hlo
    go_wp2_with fail
    refine hR1.out.mono ?_
    rintro e w4 ⟨bv,rfl,b4,bm,hbo,hbm⟩
    have hb4:=Below.step hbw b4
    have hBk:=graph_back na nc G w4 (h.out.below hb4) hok.out (by omega) harr
    replace hBk:=Lib.hid hBk
    go_wp2_with fail
    refine hBk.out.mono ?_
    rintro e w5 ⟨hv,rfl,b5,H,hT,hHl⟩
    obtain ⟨ha,hc,rfl⟩:=hHl.shape
    have hHn:=hT.1
    have hR2:=reach_any ha hc H (.slice la ln lc) m w5 hHl (turned_ok hT) (by omega) (by rw [hHn]; exact (hlo'.out.at.below b4).below b5)
    replace hR2:=Lib.hid hR2
    replace hHn:=Lib.hid hHn
    replace hT:=Lib.hid hT
    replace hHl:=Lib.hid hHl
    go_wp2_with fail
    refine hR2.out.mono ?_
    rintro e w6 ⟨av,rfl,b6,am,hao,ham⟩
    rw [hHn.out] at hao ham
    have hboth : ∀ x,x < G.length → ((bm x && am x) = true ↔ IsLive G.length (adjOf G) x):=fun x hx => by
     rw [Bool.and_eq_true,hbm x hx,ham x hx]
     unfold IsLive
     constructor
     ·rintro ⟨⟨u,hu,h1,h2⟩,v,hv,h3,h4⟩
      exact ⟨⟨u,hu,(hon.out u hu).1 h1,h2⟩,v,hv,(hon.out v hv).1 h3,turned_goes hT.out hok.out h4 hv⟩
     ·rintro ⟨⟨u,hu,h1,h2⟩,v,hv,h3,h4⟩
      exact ⟨⟨u,hu,(hon.out u hu).2 h1,h2⟩,v,hv,(hon.out v hv).2 h3,goes_turned hT.out hok.out h4 hx⟩
    have hbv:=hbo.at.below (Below.step b5 b6)
    have hav:=hao.at
    have hw6:=Below.step hb4 (Below.step b5 b6)
    replace hboth:=Lib.hid hboth
    replace hbm:=Lib.hid hbm
    replace ham:=Lib.hid ham
    replace hbv:=Lib.hid hbv
    replace hav:=Lib.hid hav
    replace hbo:=Lib.hid hbo
    replace hao:=Lib.hid hao
    clear hR1 hR2 hBk
    go_wp2_with fail
    go_loopw [13,62] (fun qv kv wr => ∃ (k : Nat) (L : List Nat) (qw : Value),qw = qv ∧ kv = .int .i64 k ∧ k ≤ G.length ∧ L.length ≤ k ∧ OwnI w6.heap.size wr qw (castI L) ∧ Below w6.heap.size w6 wr ∧ L.Pairwise (· < ·) ∧ ∀ v,v ∈ L ↔ (v < k ∧ (bm v && am v) = true)) (fun _ kv _ => G.length - (intOf kv).toNat)
    case atStart => exact ⟨0,[],_,rfl,rfl,by omega,by simp,OwnI.nil _ _,Below.refl _ _,List.Pairwise.nil,fun v => ⟨fun q => (by cases q),fun q => by omega⟩⟩
    case round =>
     obtain ⟨k,L,qv,rfl,rfl,hk,hLk,hLo,b7,hLs,hLm⟩:=hrel
     obtain ⟨wo,rfl⟩ : ∃ wo : World,wo = wr:=⟨_,rfl⟩
     by_cases hlt : k < G.length
     ·have hB:=hbv.out.below b7
      have hA:=hav.out.below b7
      have iB:=fun w' => hB.idx oneBoolG k (by rw [tabB_len]; exact hlt) w'
      have cB:=hB.cellV k (by rw [tabB_len]; exact hlt)
      rw [tabB_get _ _ _ hlt] at cB
      have iA:=fun w' => hA.idx oneBoolG k (by rw [tabB_len]; exact hlt) w'
      have cA:=hA.cellV k (by rw [tabB_len]; exact hlt)
      rw [tabB_get _ _ _ hlt] at cA
      generalize valAt bv k = qb at *
      generalize valAt av k = qa at *
      have hyes : (bm k && am k) = true → ∀ v,v ∈ L ++ [k] ↔ (v < k + 1 ∧ (bm v && am v) = true):=fun hq v => by
       rw [List.mem_append,hLm v,List.mem_singleton]
       constructor
       ·rintro (⟨a,b⟩ | rfl)
        ·exact ⟨by omega,b⟩
        ·exact ⟨by omega,hq⟩
       ·rintro ⟨a,b⟩
        by_cases e : v = k
        ·exact .inr e
        ·exact .inl ⟨by omega,b⟩
      have hno : (bm k && am k) = false → ∀ v,v ∈ L ↔ (v < k + 1 ∧ (bm v && am v) = true):=fun hq v => by
       rw [hLm v]
       constructor
       ·rintro ⟨a,b⟩; exact ⟨by omega,b⟩
       ·rintro ⟨a,b⟩
        by_cases e : v = k
        ·subst e; rw [hq] at b; cases b
        ·exact ⟨by omega,b⟩
      have hsrt2 : (L ++ [k]).Pairwise (· < ·):=by
       rw [List.pairwise_append]
       refine ⟨hLs,List.pairwise_singleton _ _,fun x hx y hy => ?_⟩
       cases List.mem_singleton.1 hy
       exact ((hLm x).1 hx).1
      obtain ⟨bk,hbk⟩ : ∃ bk,bm k = bk:=⟨_,rfl⟩
      obtain ⟨ak,hak⟩ : ∃ ak,am k = ak:=⟨_,rfl⟩
      rw [hbk] at cB hyes hno
      rw [hak] at cA hyes hno
      replace hB:=Lib.hid hB
      replace hA:=Lib.hid hA
      replace hLm:=Lib.hid hLm
      replace hLs:=Lib.hid hLs
      replace hsrt2:=Lib.hid hsrt2
      replace hbk:=Lib.hid hbk
      replace hak:=Lib.hid hak
      cases bk with
      | false =>
       have hn:=hno rfl
       replace hn:=Lib.hid hn
       replace hLo:=Lib.hid hLo
       clear hyes hno
       go_wp2
       go_roundw
       case measure => simp [intOf]; omega
       case rel => exact ⟨k + 1,L,qv,rfl,by go_num,by omega,by omega,hLo.out,b7,hLs.out,hn.out⟩
      | true =>
       cases ak with
       | false =>
        have hn:=hno rfl
        replace hn:=Lib.hid hn
        replace hLo:=Lib.hid hLo
        clear hyes hno
        go_wp2
        go_roundw
        case measure => simp [intOf]; omega
        case rel => exact ⟨k + 1,L,qv,rfl,by go_num,by omega,by omega,hLo.out,b7,hLs.out,hn.out⟩
       | true =>
        have hy:=hyes rfl
        replace hy:=Lib.hid hy
        clear hyes hno
        have hB7 : w6.heap.size ≤ wo.heap.size:=b7.size
        go_wp2_with (at_builtin; refine wpl_app1 rfl _ _ rfl w6.heap.size qv (castI L) k hLo rfl rfl (by rw [castI_len]; omega) hB7 ?_)
        intro qv' w8 ho8 b8 hal8
        replace ho8:=Lib.hid ho8
        clear hal8 hLo
        go_wp2
        go_roundw
        case measure => simp [intOf]; omega
        case rel => exact ⟨k + 1,L ++ [k],qv',rfl,by go_num,by omega,by rw [List.length_append]; simp only [List.length_cons,List.length_nil]; omega,by rw [castI_snoc]; exact ho8.out,b7.trans b8,hsrt2.out,hy.out⟩
     ·obtain rfl : k = G.length:=by omega
      have hLL : LiveList G.length (adjOf G) L:=⟨hLs,fun v => by
       rw [hLm v]
       constructor
       ·rintro ⟨a,b⟩; exact ⟨a,(hboth.out v a).1 b⟩
       ·rintro ⟨a,b⟩; exact ⟨a,(hboth.out v a).2 b⟩⟩
      obtain ⟨qa,qn,qc,rfl⟩:=hLo.at.shape
      replace hLL:=Lib.hid hLL
      replace hLo:=Lib.hid hLo
      replace hLm:=Lib.hid hLm
      replace hLs:=Lib.hid hLs
      go_wp2
      go_ret2
      exact ⟨_,_,rfl,Below.step hw6 b7,⟨by rw [hck.out]; rfl,⟨fun _ => ⟨L,hLL.out,hLo.out.mono hw6.size⟩,fun q => absurd hck.out q⟩⟩⟩
end Go.Proofs.YtjiadfblphdchaaGreatDoor
namespace Go.Proofs.YtjiadfblphdchaaGreatDoor
open Go.RowKit
set_option maxRecDepth 100000
theorem ref_bad (k : Int) (v : Value) (xs : List Int) (w : World) (h : IntsAt w v xs) :
 Calls Tryz.prog 52 #[.int .i64 k,v] w fun e w' => e = .returned (.int .i64 (idxOf (odd1 k) xs)) ∧ w = w':=by
 have hlen:=h.len
 have hm:=h.len_le
 go_enter Tryz.func52,Tryz.ntmps52
 go_wp2
 go_loop [5] (fun i => ∃ j : Nat,j ≤ xs.length ∧ i = .int .i64 j ∧ ∀ t (ht : t < xs.length),t < j → odd1 k xs[t] = false) (fun i => xs.length - (intOf i).toNat)
 case atStart => exact ⟨0,by omega,rfl,by omega⟩
 case round =>
  obtain ⟨j,hj,rfl,hp⟩:=hrel
  replace hp:=Lib.hid hp
  by_cases hlt : j < xs.length
  ·have hi:=h.idx j hlt
   have hc:=h.cell j hlt
   by_cases ho : odd1 k xs[j] = true
   ·have ho':=ho
    simp only [odd1,Bool.or_eq_true,decide_eq_true_eq] at ho'
    have hres:=Lib.hid (idxOf_at (p:=odd1 k) j hlt ho fun t ht h => hp.out t ht h)
    clear ho
    generalize xs[j] = x at hc ho'
    by_cases h0 : x < 0
    ·clear ho'
     go_wp2
     go_ret
     exact ⟨ret_int hres.out.symm,rfl⟩
    ·have h1 : k ≤ x:=by omega
     clear ho'
     go_wp2
     go_ret
     exact ⟨ret_int hres.out.symm,rfl⟩
   ·have ho' : odd1 k xs[j] = false:=by simpa using ho
    have hH:=Lib.hid ho'
    have ho2:=odd1_false.1 ho'
    clear ho ho'
    have hh : ∀ x,xs[j] = x → x = xs[j]:=fun x e => e.symm
    generalize hx : xs[j] = x at hc ho2
    replace hx:=Lib.hid hx
    obtain ⟨g0,g1⟩:=ho2
    clear hh
    go_wp2
    go_round
    case rel =>
     refine ⟨j + 1,by omega,by go_num,?_⟩
     intro t ht htj
     by_cases e : t = j
     ·subst e; exact hH.out
     ·exact hp.out t ht (by omega)
    case measure => simp [intOf]; omega
  ·go_wp2
   go_ret
   refine ⟨ret_int (idxOf_neg fun x hx => ?_).symm,rfl⟩
   obtain ⟨t,ht,rfl⟩:=List.mem_iff_getElem.1 hx
   exact hp.out t ht (by omega)
theorem ref_power0 (K n : Nat) (w : World) (h1 : 1 ≤ K) (h4 : K ≤ 4) (hn : n ≤ 7) :
 Calls Tryz.prog 58 #[.int .i64 K,.int .i64 n] w fun e w' => e = .returned (.int .i64 (pw K n)) ∧ w = w':=by
 go_enter Tryz.func58,Tryz.ntmps58
 go_wp2
 go_loop [5,6] (fun x i => ∃ j : Nat,j ≤ n ∧ i = .int .i64 j ∧ x = .int .i64 (pw K j)) (fun _ i => n - (intOf i).toNat)
 case atStart => exact ⟨0,by omega,rfl,rfl⟩
 case round =>
  obtain ⟨j,hj,rfl,rfl⟩:=hrel
  by_cases hlt : j < n
  ·have hb:=pw_le (i:=j + 1) h1 h4 (by omega)
   have hs : ((pw K (j + 1) : Nat) : Int) = (pw K j : Int) * (K : Int):=by rw [pw_succ]; simp
   have hb1 : 0 ≤ (pw K j : Int) * (K : Int):=by rw [← hs]; omega
   have hb2 : (pw K j : Int) * (K : Int) ≤ 16384:=by rw [← hs]; omega
   replace hs:=Lib.hid hs
   go_wp2
   go_round
   case rel => exact ⟨j + 1,by omega,by go_num,by rw [hs.out]⟩
   case measure => simp [intOf]; omega
  ·obtain rfl : j = n:=by omega
   go_wp2
   go_ret
   exact ⟨rfl,rfl⟩
theorem ref_power (k m : Int) (K n : Nat) (w : World) (hk : k = K) (hm : m = n) (h1 : 1 ≤ K) (h4 : K ≤ 4) (hn : n ≤ 7) :
 Calls Tryz.prog 58 #[.int .i64 k,.int .i64 m] w fun e w' => e = .returned (.int .i64 (pw K n)) ∧ w = w':=by
 subst hk hm
 exact ref_power0 K n w h1 h4 hn
set_option maxHeartbeats 400000 in
theorem ref_digits0 (K N X : Nat) (w : World) (hk1 : 1 ≤ K) (hk4 : K ≤ 4) (hN : N ≤ 7) (hX : X ≤ 16384) :
 Calls Tryz.prog 59 #[.int .i64 K,.int .i64 N,.int .i64 X] w (Ret1 (fun x w' => OwnI w.heap.size w' x (digs K N X)) w):=by
 have hK0 : ((K : Int) == 0) = false:=by rw [beq_eq_false_iff_ne]; omega
 have hK1 : ¬ (K : Int) = 0:=by omega
 have hK2 : (0 : Int) < K:=by omega
 go_enter Tryz.func59,Tryz.ntmps59
 go_wp2_with (at_make; refine wpl_make rfl _ _ rfl _ rfl rfl (by omega) (by omega) ?_)
 intro wv w1 ho b1
 go_wp2
 go_loopw [2,8] (fun x i wr => ∃ j : Nat,j ≤ N ∧ i = .int .i64 ((N : Int) - 1 - (j : Int)) ∧ x = .int .i64 (X / pw K j : Nat) ∧ OwnI w.heap.size wr wv ((List.replicate N (0 : Int)).take (N - j) ++ (digs K N X).drop (N - j)) ∧ Below w.heap.size w wr) (fun _ i _ => (intOf i + 1).toNat)
 case atStart => exact ⟨0,by omega,by simp,by simp [pw],by rw [Nat.sub_zero,List.drop_of_length_le (by simp [digs_length]),List.append_nil,List.take_of_length_le (by simp)]; exact ho,b1⟩
 case round =>
  obtain ⟨j,hj,rfl,rfl,hO,hbI⟩:=hrel
  obtain ⟨wi,rfl⟩ : ∃ wi : World,wi = wr:=⟨_,rfl⟩
  by_cases hjl : j < N
  ·have hXl : ((List.replicate N (0 : Int)).take (N - j) ++ (digs K N X).drop (N - j)).length = N:=by simp [digs_length]
   have i1 : ∀ w',(Instr.indexAt 22 wv (.int .i64 ((N : Int) - 1 - (j : Int)))).run Tryz.prog w' = .ok (.pointer (some (valAt wv (N - 1 - j)))) w':=by
    intro w'
    have:=hO.at.idxI ((N : Int) - 1 - (j : Int)) (by omega) (by rw [hXl]; omega) w'
    rwa [show ((N : Int) - 1 - (j : Int)).toNat = N - 1 - j by omega] at this
   have c1:=hO.at.cellD (N - 1 - j) (by rw [hXl]; omega)
   have f1:=hO.frz (N - 1 - j) (by rw [hXl]; omega)
   have hS:=hO.set (N - 1 - j) (by rw [hXl]; omega) ((X / pw K j % K : Nat) : Int)
   have hbS:=hO.setBelow hbI (N - 1 - j) (by rw [hXl]; omega) (.int .i64 ((X / pw K j % K : Nat) : Int))
   rw [digs_fill K N X j hjl (List.replicate N (0 : Int)) (by simp)] at hS
   replace hS:=Lib.hid hS
   replace hbS:=Lib.hid hbS
   have hqd : X / pw K j / K = X / pw K (j + 1):=by rw [Nat.div_div_eq_div_mul,← pw_succ]
   replace hqd:=Lib.hid hqd
   have hql : X / pw K j ≤ 16384:=Nat.le_trans (Nat.div_le_self _ _) (by omega)
   generalize ((List.replicate N (0 : Int)).take (N - j) ++ (digs K N X).drop (N - j)).getD (N - 1 - j) 0 = y at c1
   clear hXl hO
   generalize X / pw K j = q at *
   rw [Int.natCast_emod] at hS hbS
   have hd0 : 0 ≤ (q : Int) / (K : Int):=Int.ediv_nonneg (by omega) (by omega)
   have hd1 : (q : Int) / (K : Int) ≤ 16384:=by
    have h1 : q / K ≤ q:=Nat.div_le_self _ _
    have h2 : q / K ≤ 16384:=by omega
    exact_mod_cast h2
   have hdw : IntKind.i64.wrap ((q : Int) / (K : Int)) = (q : Int) / (K : Int):=wrapK (by omega) (by omega)
   go_wp2
   go_roundw
   case rel => exact ⟨j + 1,by omega,by congr 1; omega,by rw [← hqd.out]; simp,hS.out,hbS.out⟩
   case measure => simp [intOf]; omega
  ·obtain rfl : j = N:=by omega
   rw [Nat.sub_self,List.take_zero,List.drop_zero,List.nil_append] at hO
   replace hO:=Lib.hid hO
   go_wp2
   go_ret
   exact ⟨_,rfl,hbI,hO.out⟩
theorem ref_digits (k m x : Int) (K N X : Nat) (w : World) (hk : k = K) (hm : m = N) (hx : x = X) (hk1 : 1 ≤ K) (hk4 : K ≤ 4) (hN : N ≤ 7) (hX : X ≤ 16384) :
 Calls Tryz.prog 59 #[.int .i64 k,.int .i64 m,.int .i64 x] w (Ret1 (fun x w' => OwnI w.heap.size w' x (digs K N X)) w):=by
 subst hk hm hx
 exact ref_digits0 K N X w hk1 hk4 hN hX
theorem EOwn.shape {B : Nat} {w : World} {t : PErr} {v : Value} (h : EOwn B w t v) : ∃ n a1 n1 c1 a2 n2 c2,v = .agg #[.int .i64 n,.slice a1 n1 c1,.slice a2 n2 c2]:=h.at.shape
/-- Two boxes of three cells: they stay. -/
theorem cells6 {w w1 : World} {x0 x1 x2 x3 x4 x5 : Value} {T1 T2 : TypeId} (hb : Below ((w.alloc (.cells #[x0,x1,x2] T1)).alloc (.cells #[x3,x4,x5] T2)).heap.size ((w.alloc (.cells #[x0,x1,x2] T1)).alloc (.cells #[x3,x4,x5] T2)) w1) :
 (w1.cell? ⟨w.heap.size,0,none⟩ = some x0 ∧ w1.cell? ⟨w.heap.size,1,none⟩ = some x1 ∧ w1.cell? ⟨w.heap.size,2,none⟩ = some x2) ∧
 (w1.cell? ⟨w.heap.size + 1,0,none⟩ = some x3 ∧ w1.cell? ⟨w.heap.size + 1,1,none⟩ = some x4 ∧ w1.cell? ⟨w.heap.size + 1,2,none⟩ = some x5) ∧
 (w1.frozen? ⟨w.heap.size + 1,0,none⟩ = false ∧ w1.frozen? ⟨w.heap.size + 1,1,none⟩ = false ∧ w1.frozen? ⟨w.heap.size + 1,2,none⟩ = false):=by
 refine ⟨keep3 (n:=w.heap.size) hb ⟨by simp [go_sem],by simp [go_sem],by simp [go_sem]⟩,?_⟩
 have:=cells3 hb
 rw [show (w.alloc (.cells #[x0,x1,x2] T1)).heap.size = w.heap.size + 1 by simp] at this
 exact ⟨⟨this.1,this.2.1,this.2.2.1⟩,this.2.2.2⟩
theorem undraw {w w1 : World} {n : Nat} (h : Below (w.drewN n).heap.size (w.drewN n) w1) : Below w.heap.size w w1:=(below_drewN (Below.refl w.heap.size w) n).trans h
theorem below_set3 {B b : Nat} {w0 w : World} (h : Below B w0 w) (hb : B ≤ b) (x y z : Value) : Below B w0 (((w.setCell ⟨b,0,none⟩ x).setCell ⟨b,1,none⟩ y).setCell ⟨b,2,none⟩ z) :=
 ((h.setCell (p:=⟨b,0,none⟩) hb x).setCell (p:=⟨b,1,none⟩) hb y).setCell (p:=⟨b,2,none⟩) hb z
theorem ref_check_k (k R : Int) (va : Option Addr) (vn vc : Nat) (w : World) (h : k < 1 ∨ 4 < k) :
 Calls Tryz.prog 57 #[.agg #[.int .i64 k,.int .i64 R,.slice va vn vc]] w (Ret1 (fun x w' => EOwn w.heap.size w' (fresh sRule 0 1) x) w):=by
 have b0:=Below.step (belowAlloc w (.cells #[.int .i64 k,.int .i64 R,.slice va vn vc] 24)) (belowAlloc _ (.cells #[.int .i64 0,.slice none 0 0,.slice none 0 0] 37))
 have d : (decide (k < 1) || decide (4 < k)) = true:=by simpa using h
 by_cases h1 : k < 1
 ·clear h d
  go_enter Tryz.func57,Tryz.ntmps57
  go_wp2_with fail
  refine (raw_new _ _ _ _).mono ?_
  rintro e w1 ⟨x,rfl,b1,he⟩
  obtain ⟨q,a1,n1,c1,a2,n2,c2,rfl⟩:=he.shape
  obtain ⟨-,⟨y0,y1,y2⟩,f0,f1,f2⟩:=cells6 b1
  replace he:=Lib.hid he
  go_wp2
  exact bodyPost_ret (v:=.agg #[.int .i64 q,.slice a1 n1 c1,.slice a2 n2 c2]) (by simp [results,Tryz.results57,go_sem,y0,y1,y2]) rfl ⟨_,rfl,below_set3 (Below.step b0 b1) (by simp) _ _ _,(he.out.set3 (by simp) _ _ _).mono (by simp; omega)⟩
 ·have h2 : 4 < k:=by omega
  clear h d
  go_enter Tryz.func57,Tryz.ntmps57
  go_wp2_with fail
  refine (raw_new _ _ _ _).mono ?_
  rintro e w1 ⟨x,rfl,b1,he⟩
  obtain ⟨q,a1,n1,c1,a2,n2,c2,rfl⟩:=he.shape
  obtain ⟨-,⟨y0,y1,y2⟩,f0,f1,f2⟩:=cells6 b1
  replace he:=Lib.hid he
  go_wp2
  exact bodyPost_ret (v:=.agg #[.int .i64 q,.slice a1 n1 c1,.slice a2 n2 c2]) (by simp [results,Tryz.results57,go_sem,y0,y1,y2]) rfl ⟨_,rfl,below_set3 (Below.step b0 b1) (by simp) _ _ _,(he.out.set3 (by simp) _ _ _).mono (by simp; omega)⟩
set_option maxHeartbeats 400000 in
theorem ref_check_r (K : Nat) (R : Int) (va : Option Addr) (vn vc : Nat) (w : World) (h1 : 1 ≤ K) (h4 : K ≤ 4) (h : R < 0 ∨ 3 < R) :
 Calls Tryz.prog 57 #[.agg #[.int .i64 K,.int .i64 R,.slice va vn vc]] w (Ret1 (fun x w' => EOwn w.heap.size w' (fresh sRule 1 1) x) w):=by
 have b0:=Below.step (belowAlloc w (.cells #[.int .i64 K,.int .i64 R,.slice va vn vc] 24)) (belowAlloc _ (.cells #[.int .i64 0,.slice none 0 0,.slice none 0 0] 37))
 rcases h with h | h
 ·go_enter Tryz.func57,Tryz.ntmps57
  go_wp2_with fail
  refine (raw_new _ _ _ _).mono ?_
  rintro e w1 ⟨x,rfl,b1,he⟩
  obtain ⟨q,a1,n1,c1,a2,n2,c2,rfl⟩:=he.shape
  obtain ⟨-,⟨y0,y1,y2⟩,f0,f1,f2⟩:=cells6 b1
  replace he:=Lib.hid he
  go_wp2
  exact bodyPost_ret (v:=.agg #[.int .i64 q,.slice a1 n1 c1,.slice a2 n2 c2]) (by simp [results,Tryz.results57,go_sem,y0,y1,y2]) rfl ⟨_,rfl,below_set3 (Below.step b0 b1) (by simp) _ _ _,(he.out.set3 (by simp) _ _ _).mono (by simp; omega)⟩
 ·have h0 : 0 ≤ R:=by omega
  go_enter Tryz.func57,Tryz.ntmps57
  go_wp2_with fail
  refine (raw_new _ _ _ _).mono ?_
  rintro e w1 ⟨x,rfl,b1,he⟩
  obtain ⟨q,a1,n1,c1,a2,n2,c2,rfl⟩:=he.shape
  obtain ⟨-,⟨y0,y1,y2⟩,f0,f1,f2⟩:=cells6 b1
  replace he:=Lib.hid he
  go_wp2
  exact bodyPost_ret (v:=.agg #[.int .i64 q,.slice a1 n1 c1,.slice a2 n2 c2]) (by simp [results,Tryz.results57,go_sem,y0,y1,y2]) rfl ⟨_,rfl,below_set3 (Below.step b0 b1) (by simp) _ _ _,(he.out.set3 (by simp) _ _ _).mono (by simp; omega)⟩
set_option maxHeartbeats 400000 in
theorem ref_check_len (K R : Nat) (va : Option Addr) (vn vc : Nat) (xs : List Int) (w : World) (h : IntsAt w (.slice va vn vc) xs) (h1 : 1 ≤ K) (h4 : K ≤ 4) (h3 : R ≤ 3) (hl : xs.length ≠ pw K (2 * R + 1)) :
 Calls Tryz.prog 57 #[.agg #[.int .i64 K,.int .i64 R,.slice va vn vc]] w (Ret1 (fun x w' => EOwn w.heap.size w' (fresh sRule 2 1) x) w):=by
 have b0:=Below.step (belowAlloc w (.cells #[.int .i64 K,.int .i64 R,.slice va vn vc] 24)) (belowAlloc _ (.cells #[.int .i64 0,.slice none 0 0,.slice none 0 0] 37))
 have hlen:=h.len
 have hne : ((xs.length : Int) != (pw K (2 * R + 1) : Int)) = true:=by rw [bne_iff_ne]; omega
 clear h hl
 go_enter Tryz.func57,Tryz.ntmps57
 go_wp2
 go_quiet ((go_at_call 58; exact Calls.quiet_of_same ((ref_power _ _ K (2 * R + 1) _ rfl (by omega) h1 h4 (by omega)).mono fun _ _ ⟨a,b⟩ => ⟨a,b.symm⟩)))
 go_wp2_with fail
 refine (raw_new _ _ _ _).mono ?_
 rintro e w1 ⟨x,rfl,b1,he⟩
 replace b1:=undraw b1
 obtain ⟨q,a1,n1,c1,a2,n2,c2,rfl⟩:=he.shape
 obtain ⟨-,⟨y0,y1,y2⟩,f0,f1,f2⟩:=cells6 b1
 replace he : Hid (EOwn ((w.alloc (.cells #[.int .i64 K,.int .i64 R,.slice va vn vc] 24)).alloc (.cells #[.int .i64 0,.slice none 0 0,.slice none 0 0] 37)).heap.size w1 _ _):=Lib.hid he
 go_wp2
 exact bodyPost_ret (v:=.agg #[.int .i64 q,.slice a1 n1 c1,.slice a2 n2 c2]) (by simp [results,Tryz.results57,go_sem,y0,y1,y2]) rfl ⟨_,rfl,below_set3 (Below.step b0 b1) (by simp) _ _ _,(he.out.set3 (by simp) _ _ _).mono (by simp; omega)⟩
set_option maxHeartbeats 400000 in
theorem ref_check_odd (K R : Nat) (va : Option Addr) (vn vc : Nat) (xs : List Int) (i : Nat) (w : World) (h : IntsAt w (.slice va vn vc) xs) (h1 : 1 ≤ K) (h4 : K ≤ 4) (h3 : R ≤ 3) (hl : xs.length = pw K (2 * R + 1)) (hi : idxOf (odd1 K) xs = i) (hi' : i < xs.length) :
 Calls Tryz.prog 57 #[.agg #[.int .i64 K,.int .i64 R,.slice va vn vc]] w (Ret1 (fun x w' => EOwn w.heap.size w' (fresh sRule (3 + i) 1) x) w):=by
 have b0:=Below.step (belowAlloc w (.cells #[.int .i64 K,.int .i64 R,.slice va vn vc] 24)) (belowAlloc _ (.cells #[.int .i64 0,.slice none 0 0,.slice none 0 0] 37))
 have hlen:=h.len
 have hb3 : i ≤ 20000:=by have:=pw_le (i:=2 * R + 1) h1 h4 (by omega); omega
 have hne : ((xs.length : Int) != (pw K (2 * R + 1) : Int)) = false:=by rw [bne_eq_false_iff_eq]; omega
 replace h:=Lib.hid (h.below b0)
 clear hl hi'
 replace hi:=Lib.hid hi
 go_enter Tryz.func57,Tryz.ntmps57
 go_wp2
 go_quiet ((go_at_call 58; exact Calls.quiet_of_same ((ref_power _ _ K (2 * R + 1) _ rfl (by omega) h1 h4 (by omega)).mono fun _ _ ⟨a,b⟩ => ⟨a,b.symm⟩)))
 go_wp2_with fail
 refine (ref_bad K _ xs _ (by exact h.out.drewN _)).mono ?_
 rintro e w1 ⟨rfl,rfl⟩
 rw [hi.out]
 go_wp2_with fail
 refine (raw_new _ _ _ _).mono ?_
 rintro e w1 ⟨x,rfl,b1,he⟩
 replace b1:=undraw b1
 obtain ⟨q,a1,n1,c1,a2,n2,c2,rfl⟩:=he.shape
 obtain ⟨-,⟨y0,y1,y2⟩,f0,f1,f2⟩:=cells6 b1
 replace he : Hid (EOwn ((w.alloc (.cells #[.int .i64 K,.int .i64 R,.slice va vn vc] 24)).alloc (.cells #[.int .i64 0,.slice none 0 0,.slice none 0 0] 37)).heap.size w1 _ _):=Lib.hid he
 go_wp2
 exact bodyPost_ret (v:=.agg #[.int .i64 q,.slice a1 n1 c1,.slice a2 n2 c2]) (by simp [results,Tryz.results57,go_sem,y0,y1,y2]) rfl ⟨_,rfl,below_set3 (Below.step b0 b1) (by simp) _ _ _,(he.out.set3 (by simp) _ _ _).mono (by simp; omega)⟩
set_option maxHeartbeats 400000 in
theorem ref_check_ok (K R : Nat) (va : Option Addr) (vn vc : Nat) (xs : List Int) (w : World) (h : IntsAt w (.slice va vn vc) xs) (hr : RuleOk K R xs) :
 Calls Tryz.prog 57 #[.agg #[.int .i64 K,.int .i64 R,.slice va vn vc]] w (Ret1 (fun x _ => x = zErr) w):=by
 have b0:=Below.step (belowAlloc w (.cells #[.int .i64 K,.int .i64 R,.slice va vn vc] 24)) (belowAlloc _ (.cells #[.int .i64 0,.slice none 0 0,.slice none 0 0] 37))
 obtain ⟨h1,h4,h3,hl,hs⟩:=hr
 have hlen:=h.len
 have hne : ((xs.length : Int) != (pw K (2 * R + 1) : Int)) = false:=by rw [bne_eq_false_iff_eq]; omega
 replace h:=Lib.hid (h.below b0)
 clear hl
 have hi:=Lib.hid hs.odd
 clear hs
 go_enter Tryz.func57,Tryz.ntmps57
 go_wp2
 go_quiet ((go_at_call 58; exact Calls.quiet_of_same ((ref_power _ _ K (2 * R + 1) _ rfl (by omega) h1 h4 (by omega)).mono fun _ _ ⟨a,b⟩ => ⟨a,b.symm⟩)))
 go_wp2_with fail
 refine (ref_bad K _ xs _ (by exact h.out.drewN _)).mono ?_
 rintro e w1 ⟨rfl,rfl⟩
 rw [hi.out]
 go_wp2
 exact bodyPost_ret (v:=zErr) (by simp [results,Tryz.results57,go_sem]) rfl ⟨_,rfl,below_set3 (below_drewN b0 _) (by simp) _ _ _,rfl⟩
/-- edenref04.Check at every rule. -/
theorem ref_check (k R : Int) (va : Option Addr) (vn vc : Nat) (xs : List Int) (w : World) (h : IntsAt w (.slice va vn vc) xs) :
 Calls Tryz.prog 57 #[.agg #[.int .i64 k,.int .i64 R,.slice va vn vc]] w (Ret1 (fun x w' => EOwn w.heap.size w' (checkP k R xs) x) w):=by
 by_cases hk : k < 1 ∨ 4 < k
 ·rw [checkP,if_pos hk]; exact ref_check_k k R va vn vc w hk
 obtain ⟨K,rfl⟩:=Int.eq_ofNat_of_zero_le (show 0 ≤ k by omega)
 by_cases hr : R < 0 ∨ 3 < R
 ·rw [checkP,if_neg hk,if_pos hr]; exact ref_check_r K R va vn vc w (by omega) (by omega) hr
 obtain ⟨R,rfl⟩:=Int.eq_ofNat_of_zero_le (show 0 ≤ R by omega)
 by_cases hl : xs.length = pw K (2 * R + 1)
 ·rcases syms_or K xs with hs | ⟨i,hi,hlt⟩
  ·have hok : RuleOk K R xs:=⟨by omega,by omega,by omega,hl,hs⟩
   rw [hok.check]; exact (ref_check_ok K R va vn vc xs w h hok).mono fun _ _ ⟨x,a,b,c⟩ => ⟨x,a,b,c⟩
  ·have : checkP K R xs = fresh sRule (3 + i) 1:=by
    rw [checkP,if_neg hk,if_neg hr,if_neg (by simp [hl]),if_neg (by omega),hi]
   rw [this]
   exact ref_check_odd K R va vn vc xs i w h (by omega) (by omega) (by omega) hl hi hlt
 ·have : checkP K R xs = fresh sRule 2 1:=by
   rw [checkP,if_neg hk,if_neg hr,if_pos (by simpa using hl)]
  rw [this]
  exact ref_check_len K R va vn vc xs w h (by omega) (by omega) (by omega) hl
end Go.Proofs.YtjiadfblphdchaaGreatDoor
namespace Go.Proofs.YtjiadfblphdchaaGreatDoor
open Go.RowKit
set_option maxRecDepth 100000
theorem oddTo_keep (G : List (List Int)) (k : Nat) (h : 0 ≤ oddTo G k) : ∀ d,oddTo G (k + d) = oddTo G k
 | 0 => rfl
 | d + 1 => by
  have ih:=oddTo_keep G k h d
  show oddTo G (k + d + 1) = _
  simp only [oddTo]
  rw [if_neg (by omega),ih]
theorem oddTo_hit {G : List (List Int)} {k : Nat} (hk : oddTo G k < 0) {t : Int} (ht : t ∈ G.getD k []) (ho : oddT G.length t = true) : oddTo G (k + 1) = k:=by
 simp only [oddTo]
 rw [if_pos hk,if_pos]
 rcases idxOf_cases (oddT G.length) (G.getD k []) with ⟨_,q⟩ | ⟨i,q,_⟩
 ·rw [q t ht] at ho; cases ho
 ·omega
theorem oddTo_miss {G : List (List Int)} {k : Nat} (hk : oddTo G k < 0) (h : ∀ t ∈ G.getD k [],oddT G.length t = false) : oddTo G (k + 1) < 0:=by
 simp only [oddTo]
 rw [if_pos hk]
 rcases idxOf_cases (oddT G.length) (G.getD k []) with ⟨q,_⟩ | ⟨i,_,q1,q2⟩
 ·rw [if_neg (by omega)]; exact hk
 ·exfalso
  simp_all
set_option maxHeartbeats 2000000 in
theorem ref12_check (na : Option Addr) (nc : Nat) (G : List (List Int)) (w : World) (h : ListsAt w (.slice na G.length nc) G) (hsz : ∀ k,k < G.length → (G.getD k []).length ≤ 17592186044416) :
 Calls Tryz.prog 161 #[.slice na G.length nc] w (Ret1 (fun x w' => EOwn w.heap.size w' (checkG G) x) w):=by
 have b0:=belowAlloc w (.cells #[.int .i64 0,.slice none 0 0,.slice none 0 0] 37)
 have bx:=cells3 (Below.refl (w.alloc (.cells #[.int .i64 0,.slice none 0 0,.slice none 0 0] 37)).heap.size (w.alloc (.cells #[.int .i64 0,.slice none 0 0,.slice none 0 0] 37)))
 replace h:=h.below b0
 have hsW : (w.alloc (.cells #[.int .i64 0,.slice none 0 0,.slice none 0 0] 37)).heap.size = w.heap.size + 1:=by simp
 by_cases h8 : 8192 < G.length
 ·have hE : checkG G = fresh sGraph 0 4:=by unfold checkG; rw [if_pos h8]
  clear h hsz bx
  go_enter Tryz.func161,Tryz.ntmps161
  go_wp2_with fail
  refine (raw_new _ _ _ _).mono ?_
  rintro e w1 ⟨x,rfl,b1,he⟩
  obtain ⟨q,a1,n1,c1,a2,n2,c2,rfl⟩:=he.shape
  obtain ⟨y0,y1,y2,f0,f1,f2⟩:=cells3 b1
  replace he:=Lib.hid he
  replace hE:=Lib.hid hE
  go_wp2
  refine bodyPost_ret (v:=.agg #[.int .i64 q,.slice a1 n1 c1,.slice a2 n2 c2]) (by simp [results,Tryz.results161,go_sem,y0,y1,y2]) rfl ⟨_,rfl,below_set3 (Below.step b0 b1) (by simp) _ _ _,?_⟩
  rw [hE.out]
  exact (he.out.set3 (by simp) _ _ _).mono (by simp)
 ·replace h:=Lib.hid h
  replace hsz:=Lib.hid hsz
  go_enter Tryz.func161,Tryz.ntmps161
  go_wp2_with fail
  obtain ⟨W0,hW0⟩ : ∃ W0 : World,W0 = w.alloc (.cells #[.int .i64 0,.slice none 0 0,.slice none 0 0] 37):=⟨_,rfl⟩
  rw [← hW0] at b0 bx h hsW ⊢
  clear hW0
  go_loopw [3,4] (fun nv kv wr => ∃ k : Nat,k ≤ G.length ∧ kv = .int .i64 k ∧ nv = .int .i64 (arrowsTo G k) ∧ arrowsTo G k ≤ 262144 ∧ wr = W0) (fun _ kv _ => G.length - (intOf kv).toNat)
  case atStart => exact ⟨0,by omega,rfl,rfl,by simp [arrowsTo],rfl⟩
  case round =>
   obtain ⟨k,hk,rfl,rfl,hle,rfl⟩:=hrel
   by_cases hlt : k < G.length
   ·obtain ⟨mv,iR,cR,hM⟩:=h.out.row k hlt
    have hll:=hsz.out k hlt
    have ha1 : arrowsTo G (k + 1) = arrowsTo G k + (G.getD k []).length:=rfl
    have lenM:=hM.len
    generalize (G.getD k []).length = gl at *
    generalize valAt (.slice na G.length nc) k = ra at *
    have hwr : IntKind.i64.wrap ((arrowsTo G k : Int) + (gl : Int)) = (arrowsTo G k : Int) + (gl : Int):=wrapK (by omega) (by omega)
    by_cases hbig : 262144 < arrowsTo G k + gl
    ·have hE : checkG G = fresh sGraph 1 4:=by
      unfold checkG
      rw [if_neg h8,if_pos]
      have:=arrowsTo_mono G (show k + 1 ≤ G.length by omega)
      omega
     have hbig2 : decide ((262144 : Int) < (arrowsTo G k : Int) + (gl : Int)) = true:=by simp; omega
     obtain ⟨ak,hak⟩ : ∃ ak,arrowsTo G k = ak:=⟨_,rfl⟩
     rw [hak] at hle hwr hbig hbig2 ⊢
     replace hak:=Lib.hid hak
     replace ha1:=Lib.hid ha1
     replace hE:=Lib.hid hE
     replace hM:=Lib.hid hM
     go_wp2_with fail
     refine (raw_new _ _ _ _).mono ?_
     rintro e w1 ⟨x,rfl,b1,he⟩
     obtain ⟨q,a1,n1,c1,a2,n2,c2,rfl⟩:=he.shape
     obtain ⟨y0,y1,y2⟩:=keep3 b1 ⟨bx.1,bx.2.1,bx.2.2.1⟩
     have hlt0 : w.heap.size < wr.heap.size:=by omega
     have f0:=(b1.frozen (p:=⟨w.heap.size,0,none⟩) hlt0).trans bx.2.2.2.1
     have f1:=(b1.frozen (p:=⟨w.heap.size,1,none⟩) hlt0).trans bx.2.2.2.2.1
     have f2:=(b1.frozen (p:=⟨w.heap.size,2,none⟩) hlt0).trans bx.2.2.2.2.2
     replace he:=Lib.hid he
     clear bx iR cR lenM
     go_wp2
     refine bodyPost_ret (v:=.agg #[.int .i64 q,.slice a1 n1 c1,.slice a2 n2 c2]) (by simp [results,Tryz.results161,go_sem,y0,y1,y2]) rfl ⟨_,rfl,below_set3 (Below.step b0 b1) (by omega) _ _ _,?_⟩
     rw [hE.out]
     exact (he.out.set3 (by omega) _ _ _).mono (by omega)
    ·have hbig2 : decide ((262144 : Int) < (arrowsTo G k : Int) + (gl : Int)) = false:=by simp; omega
     obtain ⟨ak,hak⟩ : ∃ ak,arrowsTo G k = ak:=⟨_,rfl⟩
     rw [hak] at hle hwr hbig hbig2 ha1 ⊢
     replace hak:=Lib.hid hak
     replace ha1:=Lib.hid ha1
     replace hM:=Lib.hid hM
     replace bx:=Lib.hid bx
     go_wp2
     go_roundw
     case measure => simp [intOf]; omega
     case rel => exact ⟨k + 1,by omega,by go_num,by rw [ha1.out]; go_num,by rw [ha1.out]; omega,by trivial⟩
   ·obtain rfl : k = G.length:=by omega
    have hE2 : checkG G = if 0 ≤ oddTo G G.length then fresh sGraph (oddTo G G.length) 1 else none:=by
     unfold checkG; rw [if_neg h8,if_neg (by omega)]
    replace hE2:=Lib.hid hE2
    generalize arrowsTo G G.length = an at *
    replace bx:=Lib.hid bx
    go_wp2_with fail
    go_loopw [5] (fun kv w2 => ∃ k : Nat,k ≤ G.length ∧ kv = .int .i64 k ∧ oddTo G k < 0 ∧ w2 = wr) (fun kv _ => G.length - (intOf kv).toNat)
    case atStart => exact ⟨0,by omega,rfl,by simp [oddTo],rfl⟩
    case round =>
     obtain ⟨k,hk,rfl,hodd,rfl⟩:=hrel
     by_cases hlt : k < G.length
     ·obtain ⟨mv,iR,cR,hM⟩:=h.out.row k hlt
      have hll:=hsz.out k hlt
      have hhit:=fun (t : Int) => oddTo_hit (G:=G) (k:=k) hodd (t:=t)
      have hmiss:=oddTo_miss (G:=G) (k:=k) hodd
      generalize G.getD k [] = gx at *
      have lenM:=hM.len
      generalize valAt (.slice na G.length nc) k = ra at *
      replace hodd:=Lib.hid hodd
      replace hhit:=Lib.hid hhit
      replace hmiss:=Lib.hid hmiss
      replace hM:=Lib.hid hM
      go_wp2_with fail
      go_loopw [6] (fun jv w2 => ∃ j : Nat,j ≤ gx.length ∧ jv = .int .i64 j ∧ (∀ t ∈ gx.take j,oddT G.length t = false) ∧ w2 = wr) (fun jv _ => gx.length - (intOf jv).toNat)
      case atStart => exact ⟨0,by omega,rfl,fun t ht => by simp at ht,rfl⟩
      case round =>
       obtain ⟨j,hj,rfl,hnot,rfl⟩:=hrel
       by_cases hjl : j < gx.length
       ·obtain ⟨t,ht⟩ : ∃ t,gx[j]? = some t:=⟨_,List.getElem?_eq_getElem hjl⟩
        have htm:=List.mem_of_getElem? ht
        have htk : gx.take (j + 1) = gx.take j ++ [t]:=by rw [List.take_add_one,ht]; rfl
        have iT:=fun w' => hM.out.idx j hjl w'
        have cT:=hM.out.cellD j hjl
        rw [List.getD_eq_getElem?_getD,ht,Option.getD_some] at cT
        generalize valAt mv j = ja at *
        by_cases hot : oddT G.length t = true
        ·have hE : checkG G = fresh sGraph (k : Int) 1:=by
          have h1:=hhit.out t htm hot
          have h2:=oddTo_keep G (k + 1) (by omega) (G.length - (k + 1))
          rw [show k + 1 + (G.length - (k + 1)) = G.length by omega,h1] at h2
          rw [hE2.out,h2,if_pos (by omega)]
         replace hE:=Lib.hid hE
         replace hnot:=Lib.hid hnot
         replace htk:=Lib.hid htk
         replace ht:=Lib.hid ht
         obtain ⟨x0,x1,x2,g0,g1,g2⟩:=bx.out
         by_cases ht0 : t < 0
         ·replace hot:=Lib.hid hot
          go_wp2_with fail
          refine (raw_new _ _ _ _).mono ?_
          rintro e w1 ⟨x,rfl,b1,he⟩
          obtain ⟨q,a1,n1,c1,a2,n2,c2,rfl⟩:=he.shape
          obtain ⟨y0,y1,y2⟩:=keep3 b1 ⟨x0,x1,x2⟩
          have hlt0 : w.heap.size < wr.heap.size:=by omega
          have f0:=(b1.frozen (p:=⟨w.heap.size,0,none⟩) hlt0).trans g0
          have f1:=(b1.frozen (p:=⟨w.heap.size,1,none⟩) hlt0).trans g1
          have f2:=(b1.frozen (p:=⟨w.heap.size,2,none⟩) hlt0).trans g2
          replace he:=Lib.hid he
          clear x0 x1 x2 g0 g1 g2 iR cR lenM iT cT
          go_wp2
          refine bodyPost_ret (v:=.agg #[.int .i64 q,.slice a1 n1 c1,.slice a2 n2 c2]) (by simp [results,Tryz.results161,go_sem,y0,y1,y2]) rfl ⟨_,rfl,below_set3 (Below.step b0 b1) (by omega) _ _ _,?_⟩
          rw [hE.out]
          exact (he.out.set3 (by omega) _ _ _).mono (by omega)
         ·have hge : (G.length : Int) ≤ t:=by simp [oddT] at hot; omega
          replace hot:=Lib.hid hot
          go_wp2_with fail
          refine (raw_new _ _ _ _).mono ?_
          rintro e w1 ⟨x,rfl,b1,he⟩
          obtain ⟨q,a1,n1,c1,a2,n2,c2,rfl⟩:=he.shape
          obtain ⟨y0,y1,y2⟩:=keep3 b1 ⟨x0,x1,x2⟩
          have hlt0 : w.heap.size < wr.heap.size:=by omega
          have f0:=(b1.frozen (p:=⟨w.heap.size,0,none⟩) hlt0).trans g0
          have f1:=(b1.frozen (p:=⟨w.heap.size,1,none⟩) hlt0).trans g1
          have f2:=(b1.frozen (p:=⟨w.heap.size,2,none⟩) hlt0).trans g2
          replace he:=Lib.hid he
          clear x0 x1 x2 g0 g1 g2 iR cR lenM iT cT
          go_wp2
          refine bodyPost_ret (v:=.agg #[.int .i64 q,.slice a1 n1 c1,.slice a2 n2 c2]) (by simp [results,Tryz.results161,go_sem,y0,y1,y2]) rfl ⟨_,rfl,below_set3 (Below.step b0 b1) (by omega) _ _ _,?_⟩
          rw [hE.out]
          exact (he.out.set3 (by omega) _ _ _).mono (by omega)
        ·have ht0 : ¬ t < 0:=by simp [oddT] at hot; omega
         have hge : ¬ (G.length : Int) ≤ t:=by simp [oddT] at hot; omega
         have hnot2 : ∀ x ∈ gx.take (j + 1),oddT G.length x = false:=fun x hx => by
          rw [htk] at hx
          rcases List.mem_append.1 hx with hx | hx
          ·exact hnot x hx
          ·cases List.mem_singleton.1 hx; simpa using hot
         replace hnot2:=Lib.hid hnot2
         replace hnot:=Lib.hid hnot
         replace htk:=Lib.hid htk
         replace ht:=Lib.hid ht
         replace hot:=Lib.hid hot
         go_wp2
         go_roundw
         case measure => simp [intOf]; omega
         case rel => exact ⟨j + 1,by omega,by go_num,hnot2.out,by trivial⟩
       ·obtain rfl : j = gx.length:=by omega
        rw [List.take_length] at hnot
        have hm:=hmiss.out hnot
        replace hm:=Lib.hid hm
        replace hnot:=Lib.hid hnot
        go_wp2
        go_roundw
        case measure => simp [intOf]; omega
        case rel => exact ⟨k + 1,by omega,by go_num,hm.out,by trivial⟩
     ·obtain rfl : k = G.length:=by omega
      have hE : checkG G = none:=by rw [hE2.out,if_neg (by omega)]
      replace hE:=Lib.hid hE
      replace hodd:=Lib.hid hodd
      obtain ⟨y0,y1,y2,f0,f1,f2⟩:=bx.out
      go_wp2
      refine bodyPost_ret (v:=zErr) (by simp [results,Tryz.results161,go_sem,y0,y1,y2]) rfl ⟨_,rfl,below_set3 b0 (by omega) _ _ _,?_⟩
      rw [hE.out]
      exact rfl
end Go.Proofs.YtjiadfblphdchaaGreatDoor
namespace Go.Proofs.YtjiadfblphdchaaGreatDoor
/-- D tells how far it is from s. -/
def FarOf (n : Nat) (adj : Nat → List Nat) (s : Nat) (D : Nat → Int) : Prop :=
 ∀ t,t < n → (D t = -1 ∧ ¬ Goes adj s t) ∨ ∃ w,Way adj s t w ∧ (w.length : Int) = D t + 1 ∧ ∀ u,Way adj s t u → w.length ≤ u.length
/-- D tells how far it is to s. -/
def ToOf (n : Nat) (adj : Nat → List Nat) (s : Nat) (D : Nat → Int) : Prop :=
 ∀ t,t < n → (D t = -1 ∧ ¬ Goes adj t s) ∨ ∃ w,Way adj t s w ∧ (w.length : Int) = D t + 1 ∧ ∀ u,Way adj t s u → w.length ≤ u.length
theorem ToOf.low {n : Nat} {adj : Nat → List Nat} {s : Nat} {D : Nat → Int} (h : ToOf n adj s D) {t : Nat} (ht : t < n) : -1 ≤ D t:=by
 rcases h t ht with ⟨h1,_⟩ | ⟨w,h1,h2,_⟩
 ·omega
 ·have:=h1.pos; omega
theorem ToOf.pos {n : Nat} {adj : Nat → List Nat} {s : Nat} {D : Nat → Int} (h : ToOf n adj s D) {t : Nat} (ht : t < n) : 0 ≤ D t ↔ Goes adj t s:=by
 rcases h t ht with ⟨h1,h2⟩ | ⟨w,h1,h2,_⟩
 ·exact ⟨fun q => by omega,fun q => absurd q h2⟩
 ·exact ⟨fun _ => h1.goes,fun _ => by have:=h1.pos; omega⟩
theorem ToOf.le {n : Nat} {adj : Nat → List Nat} {s : Nat} {D : Nat → Int} (h : ToOf n adj s D) {t : Nat} (ht : t < n) {u : List Nat} (hu : Way adj t s u) : 0 ≤ D t ∧ D t + 1 ≤ u.length:=by
 rcases h t ht with ⟨_,h2⟩ | ⟨w,h1,h2,h3⟩
 ·exact absurd hu.goes h2
 ·have:=h1.pos; have:=h3 u hu; omega
theorem ToOf.first {n : Nat} {adj : Nat → List Nat} {s : Nat} {D : Nat → Int} (h : ToOf n adj s D) {t : Nat} (ht : t < n) {u : List Nat} (hu : IsFirst adj t s u) : (u.length : Int) = D t + 1:=by
 rcases h t ht with ⟨_,h2⟩ | ⟨w,h1,h2,h3⟩
 ·exact absurd hu.way.goes h2
 ·have:=h3 u hu.way; have:=hu.short w h1; omega
theorem FarOf.pos {n : Nat} {adj : Nat → List Nat} {s : Nat} {D : Nat → Int} (h : FarOf n adj s D) {t : Nat} (ht : t < n) : 0 ≤ D t ↔ Goes adj s t:=by
 rcases h t ht with ⟨h1,h2⟩ | ⟨w,h1,h2,_⟩
 ·exact ⟨fun q => by omega,fun q => absurd q h2⟩
 ·exact ⟨fun _ => h1.goes,fun _ => by have:=h1.pos; omega⟩
/-- Breadth first, how far only. -/
structure FBase (adj : Nat → List Nat) (s : Nat) (D : Nat → Int) (q : List Nat) (b i : Nat) : Prop where
 hd : q[0]? = some s
 nodup : q.Nodup
 there : ∀ x,0 ≤ D x ↔ x ∈ q
 low : ∀ x,-1 ≤ D x
 d0 : D s = 0
 sound : ∀ x ∈ q,∃ w,Way adj s x w ∧ (w.length : Int) = D x + 1
 par : ∀ x ∈ q,x = s ∨ ∃ p y,p < b ∧ q[p]? = some y ∧ D x = D y + 1
 mono : ∀ (j k x y : Nat),j ≤ k → q[j]? = some x → q[k]? = some y → D x ≤ D y
 closed : ∀ p x,p < i → q[p]? = some x → ∀ t ∈ adj x,0 ≤ D t ∧ D t ≤ D x + 1
structure FIn (adj : Nat → List Nat) (s : Nat) (D : Nat → Int) (q : List Nat) (i v : Nat) (l : List Nat) : Prop where
 base : FBase adj s D q (i + 1) i
 cur : q[i]? = some v
 sub : ∀ t ∈ l,t ∈ adj v
 seen : ∀ t ∈ adj v,t ∈ l ∨ (0 ≤ D t ∧ D t ≤ D v + 1)
section
variable {adj : Nat → List Nat} {s : Nat} {D : Nat → Int} {q : List Nat} {i v b : Nat} {l : List Nat}
theorem FBase.init (adj : Nat → List Nat) (s : Nat) : FBase adj s (updN (fun _ => (-1 : Int)) s 0) [s] 0 0:=by
 have hg : ∀ j x,[s][j]? = some x → j = 0 ∧ x = s:=fun j x hx => by
  cases j with
  | zero => simp at hx; exact ⟨rfl,hx.symm⟩
  | succ j => simp at hx
 refine ⟨rfl,by simp,fun x => ?_,fun x => ?_,updN_same _ _ _,fun x hx => ?_,fun x hx => ?_,fun j k x y _ hx hy => ?_,fun p x hp => by omega⟩
 ·by_cases e : x = s
  ·subst e; rw [updN_same]; simp
  ·rw [updN_other _ _ _ e]; simp [e]
 ·by_cases e : x = s
  ·subst e; rw [updN_same]; omega
  ·rw [updN_other _ _ _ e]; omega
 ·cases List.mem_singleton.1 hx; exact ⟨_,.one _,by rw [updN_same]; simp⟩
 ·exact .inl (List.mem_singleton.1 hx)
 ·rw [(hg j x hx).2,(hg k y hy).2]; exact Int.le_refl _
theorem FBase.enter (h : FBase adj s D q i i) (hv : q[i]? = some v) : FIn adj s D q i v (adj v) :=
 ⟨⟨h.hd,h.nodup,h.there,h.low,h.d0,h.sound,fun x hx => (h.par x hx).imp id (fun ⟨p,y,h1,h2⟩ => ⟨p,y,by omega,h2⟩),h.mono,h.closed⟩,hv,fun t ht => ht,fun t ht => .inl ht⟩
theorem FIn.leave (h : FIn adj s D q i v []) : FBase adj s D q (i + 1) (i + 1):=by
 refine ⟨h.base.hd,h.base.nodup,h.base.there,h.base.low,h.base.d0,h.base.sound,h.base.par,h.base.mono,fun p x hp hx t ht => ?_⟩
 by_cases e : p = i
 ·subst e
  rw [h.cur] at hx; cases hx
  exact (h.seen t ht).resolve_left (by simp)
 ·exact h.base.closed p x (by omega) hx t ht
theorem FIn.top (h : FIn adj s D q i v l) : ∀ x ∈ q,D x ≤ D v + 1:=by
 intro x hx
 have hv0:=(h.base.there v).2 (List.mem_of_getElem? h.cur)
 rcases h.base.par x hx with rfl | ⟨p,y,h1,h2,h3⟩
 ·have:=h.base.d0; omega
 ·have:=h.base.mono p i y v (by omega) h2 h.cur; omega
theorem FIn.old {t : Nat} (h : FIn adj s D q i v (t :: l)) (ht : 0 ≤ D t) : FIn adj s D q i v l:=by
 refine ⟨h.base,h.cur,fun x hx => h.sub x (List.mem_cons_of_mem _ hx),fun x hx => ?_⟩
 rcases h.seen x hx with q1 | q1
 ·rcases List.mem_cons.1 q1 with e | e
  ·subst e; exact .inr ⟨ht,h.top x ((h.base.there x).1 ht)⟩
  ·exact .inl e
 ·exact .inr q1
theorem FIn.add {t : Nat} (h : FIn adj s D q i v (t :: l)) (ht : D t < 0) : FIn adj s (updN D t (D v + 1)) (q ++ [t]) i v l:=by
 have hB:=h.base
 have htq : t ∉ q:=fun hm => by have:=(hB.there t).2 hm; omega
 have hil:=get_of h.cur
 have hvq:=List.mem_of_getElem? h.cur
 have hv0:=(hB.there v).2 hvq
 have hga : ∀ j x,(q ++ [t])[j]? = some x → q[j]? = some x ∧ j < q.length ∧ x ≠ t ∨ j = q.length ∧ x = t:=fun j x hx => by
  by_cases e : j < q.length
  ·rw [List.getElem?_append_left e] at hx
   exact .inl ⟨hx,e,fun e2 => htq (by rw [← e2]; exact List.mem_of_getElem? hx)⟩
  ·rw [List.getElem?_append_right (by omega)] at hx
   by_cases e2 : j = q.length
   ·rw [e2] at hx; simp at hx; exact .inr ⟨e2,hx.symm⟩
   ·rw [List.getElem?_eq_none (by simp; omega)] at hx; cases hx
 have hgo : ∀ {j x},q[j]? = some x → (q ++ [t])[j]? = some x:=fun {j x} hx => by rw [List.getElem?_append_left (get_of hx)]; exact hx
 have hne : ∀ x,x ∈ q → x ≠ t:=fun x hx e => htq (by rw [← e]; exact hx)
 have dq : ∀ x,x ∈ q → updN D t (D v + 1) x = D x:=fun x hx => updN_other _ _ _ (hne x hx)
 have hsq : s ∈ q:=List.mem_of_getElem? hB.hd
 have htop:=h.top
 refine ⟨⟨hgo hB.hd,?_,fun x => ?_,fun x => ?_,?_,fun x hx => ?_,fun x hx => ?_,fun j k x y hjk hx hy => ?_,fun p x hp hx t' ht' => ?_⟩,hgo h.cur,fun x hx => h.sub x (List.mem_cons_of_mem _ hx),fun x hx => ?_⟩
 ·exact List.nodup_append.2 ⟨hB.nodup,by simp,fun x hx y hy => by cases List.mem_singleton.1 hy; exact hne x hx⟩
 ·by_cases e : x = t
  ·subst e; rw [updN_same]; simp; omega
  ·rw [updN_other _ _ _ e,hB.there]; simp [e]
 ·by_cases e : x = t
  ·subst e; rw [updN_same]; omega
  ·rw [updN_other _ _ _ e]; exact hB.low x
 ·rw [dq s hsq]; exact hB.d0
 ·rcases List.mem_append.1 hx with hx | hx
  ·rw [dq x hx]; exact hB.sound x hx
  ·cases List.mem_singleton.1 hx
   obtain ⟨w,h1,h2⟩:=hB.sound v hvq
   refine ⟨w ++ [t],h1.snoc (h.sub _ List.mem_cons_self),?_⟩
   rw [updN_same,List.length_append,List.length_singleton]; omega
 ·rcases List.mem_append.1 hx with hx | hx
  ·rcases hB.par x hx with e | ⟨p,y,h1,h2,h3⟩
   ·exact .inl e
   ·exact .inr ⟨p,y,h1,hgo h2,by rw [dq x hx,dq y (List.mem_of_getElem? h2)]; exact h3⟩
  ·cases List.mem_singleton.1 hx
   exact .inr ⟨i,v,by omega,hgo h.cur,by rw [updN_same,dq v hvq]⟩
 ·rcases hga k y hy with ⟨k1,k2,k3⟩ | ⟨rfl,rfl⟩
  ·rcases hga j x hx with ⟨h1,h2,h3⟩ | ⟨rfl,rfl⟩
   ·rw [dq x (List.mem_of_getElem? h1),dq y (List.mem_of_getElem? k1)]; exact hB.mono j k x y hjk h1 k1
   ·omega
  ·rcases hga j x hx with ⟨h1,h2,h3⟩ | ⟨h1,rfl⟩
   ·rw [dq x (List.mem_of_getElem? h1),updN_same]; exact htop x (List.mem_of_getElem? h1)
   ·exact Int.le_refl _
 ·rcases hga p x hx with ⟨h1,h2,h3⟩ | ⟨h1,rfl⟩
  ·have:=hB.closed p x hp h1 t' ht'
   have e : t' ≠ t:=fun e => by subst e; omega
   rw [updN_other _ _ _ e,dq x (List.mem_of_getElem? h1)]
   exact this
  ·omega
 ·by_cases e : x = t
  ·subst e; right; rw [updN_same,dq v hvq]; omega
  ·rcases h.seen x hx with q1 | q1
   ·exact .inl ((List.mem_cons.1 q1).resolve_left e)
   ·right; rw [updN_other _ _ _ e,dq v hvq]; exact q1
theorem FBase.far (h : FBase adj s D q b i) (hi : q.length ≤ i) {x y : Nat} {u : List Nat} (hu : Way adj x y u) (hx : x ∈ q) : y ∈ q ∧ D y + 1 ≤ D x + u.length:=by
 induction hu with
 | one => exact ⟨hx,by simp⟩
 | @cons x t y w ht hu ih =>
  obtain ⟨j,hj⟩:=List.mem_iff_getElem?.1 hx
  have:=h.closed j x (by have:=get_of hj; omega) hj t ht
  have:=ih ((h.there t).1 this.1)
  exact ⟨this.1,by simp only [List.length_cons]; omega⟩
theorem FBase.end_ (h : FBase adj s D q b i) (hi : q.length ≤ i) (n : Nat) : FarOf n adj s D:=by
 intro t _
 by_cases ht : t ∈ q
 ·obtain ⟨w,h1,h2⟩:=h.sound t ht
  refine .inr ⟨w,h1,h2,fun u hu => ?_⟩
  have:=(h.far hi hu (List.mem_of_getElem? h.hd)).2
  have:=h.d0
  omega
 ·refine .inl ⟨?_,fun hg => ?_⟩
  ·have:=h.low t
   have : ¬ 0 ≤ D t:=fun q => ht ((h.there t).1 q)
   omega
  ·obtain ⟨u,hu⟩:=hg.way
   exact ht (h.far hi hu (List.mem_of_getElem? h.hd)).1
end
/-- Going down: the least of the neighbours that are nearer by one. -/
theorem step_first {n : Nat} {adj : Nat → List Nat} {s : Nat} {D : Nat → Int} (h : ToOf n adj s D) (hlt : ∀ v,v < n → ∀ t ∈ adj v,t < n) {v best : Nat} (hv : v < n)
 (hb : best ∈ adj v) (hd : D best = D v - 1) (h0 : 0 ≤ D best) (hm : ∀ t ∈ adj v,D t = D v - 1 → best ≤ t) {u : List Nat} (hu : IsFirst adj best s u) : IsFirst adj v s (v :: u):=by
 have hbn:=hlt v hv best hb
 have hul:=h.first hbn hu
 refine ⟨.cons hb hu.way,fun x hx => ?_,fun x hx hl => ?_⟩
 ·have:=h.le hv hx
  simp only [List.length_cons]; omega
 ·cases hx with
  | one => simp only [List.length_cons,List.length_nil] at hl; have:=hu.way.pos; omega
  | @cons _ t _ x' ht hx' =>
   have htn:=hlt v hv t ht
   have h1:=h.le htn hx'
   have h2:=h.le hv (.cons ht hx')
   simp only [List.length_cons] at hl h2
   have hdt : D t = D v - 1:=by
    rcases h t htn with ⟨_,q⟩ | ⟨w,w1,w2,w3⟩
    ·exact absurd hx'.goes q
    ·have:=h.le hv (.cons ht w1)
     simp only [List.length_cons] at this
     omega
   have hbt:=hm t ht hdt
   refine .inr ⟨rfl,?_⟩
   by_cases e : best = t
   ·subst e; exact hu.least x' hx' (by omega)
   ·obtain ⟨_,rfl⟩:=hx'.ne
    obtain ⟨_,rfl⟩:=hu.way.ne
    exact .inl (by omega)
theorem ToOf.next {n : Nat} {adj : Nat → List Nat} {s : Nat} {D : Nat → Int} (h : ToOf n adj s D) (hlt : ∀ v,v < n → ∀ t ∈ adj v,t < n) {v : Nat} (hv : v < n) (hne : v ≠ s) (h0 : 0 ≤ D v) : 1 ≤ D v ∧ ∃ t ∈ adj v,D t = D v - 1:=by
 rcases h v hv with ⟨q,_⟩ | ⟨w,w1,w2,w3⟩
 ·omega
 ·cases w1 with
  | one => exact absurd rfl hne
  | @cons _ t _ w' ht hw =>
   have htn:=hlt v hv t ht
   have:=hw.pos
   simp only [List.length_cons] at w2 w3
   refine ⟨by omega,t,ht,?_⟩
   rcases h t htn with ⟨_,q⟩ | ⟨x,x1,x2,x3⟩
   ·exact absurd hw.goes q
   ·have:=x3 w' hw
    have:=w3 _ (.cons ht x1)
    simp only [List.length_cons] at this
    omega
end Go.Proofs.YtjiadfblphdchaaGreatDoor
namespace Go.Proofs.YtjiadfblphdchaaGreatDoor
/-- The sum of F over the first n. -/
def sumN (F : Nat → Nat) : Nat → Nat
 | 0 => 0
 | n + 1 => sumN F n + F n
theorem sumN_congr {F F' : Nat → Nat} : ∀ {n},(∀ v,v < n → F v = F' v) → sumN F n = sumN F' n
 | 0,_ => rfl
 | n + 1,h => by
  show sumN F n + F n = sumN F' n + F' n
  rw [sumN_congr (n:=n) (fun v hv => h v (by omega)),h n (by omega)]
theorem sumN_pos {F : Nat → Nat} : ∀ {n},0 < sumN F n ↔ ∃ v,v < n ∧ 0 < F v
 | 0 => by simp [sumN]
 | n + 1 => by
  show 0 < sumN F n + F n ↔ _
  constructor
  ·intro h
   by_cases e : 0 < sumN F n
   ·obtain ⟨v,h1,h2⟩:=sumN_pos.1 e; exact ⟨v,by omega,h2⟩
   ·exact ⟨n,by omega,by omega⟩
  ·rintro ⟨v,h1,h2⟩
   by_cases e : v = n
   ·subst e; omega
   ·have:=sumN_pos.2 ⟨v,show v < n by omega,h2⟩; omega
theorem sumN_upd {F F' : Nat → Nat} {v : Nat} (h : ∀ u,u ≠ v → F' u = F u) : ∀ {n},v < n → sumN F' n + F v = sumN F n + F' v
 | 0,q => by omega
 | n + 1,q => by
  show sumN F' n + F' n + F v = sumN F n + F n + F' v
  by_cases e : v = n
  ·subst e
   rw [sumN_congr (n:=v) (fun u hu => h u (by omega))]; omega
  ·have:=sumN_upd h (n:=n) (by omega)
   rw [h n (fun q => e q.symm)]; omega
theorem sumN_zero : ∀ n,sumN (fun _ => 0) n = 0
 | 0 => rfl
 | n + 1 => by show sumN _ n + 0 = 0; rw [sumN_zero n]
theorem sumN_add (F F' : Nat → Nat) : ∀ n,sumN (fun v => F v + F' v) n = sumN F n + sumN F' n
 | 0 => rfl
 | n + 1 => by show sumN _ n + (F n + F' n) = sumN F n + F n + (sumN F' n + F' n); rw [sumN_add F F' n]; omega
theorem sumN_one (x : Nat) : ∀ n,sumN (fun v => if v = x then 1 else 0) n = if x < n then 1 else 0
 | 0 => rfl
 | n + 1 => by
  show sumN _ n + (if n = x then 1 else 0) = _
  rw [sumN_one x n]
  by_cases e : n = x
  ·subst e; simp
  ·rw [if_neg e]
   by_cases q : x < n
   ·rw [if_pos q,if_pos (by omega)]
   ·rw [if_neg q,if_neg (by omega)]
/-- A list of numbers below n: its length, counted number by number. -/
theorem length_counts (n : Nat) : ∀ (l : List Nat),(∀ x ∈ l,x < n) → l.length = sumN (fun v => l.count v) n
 | [],_ => by simp [sumN_zero]
 | x :: l,h => by
  have ih:=length_counts n l (fun y hy => h y (List.mem_cons_of_mem _ hy))
  have e : (fun v => (x :: l).count v) = fun v => l.count v + if v = x then 1 else 0:=by
   funext v
   rw [List.count_cons]
   by_cases q : x = v
   ·simp [q]
   ·rw [if_neg (by simpa using q),if_neg (fun r => q r.symm)]
  rw [e,sumN_add,sumN_one,if_pos (h x List.mem_cons_self),← ih,List.length_cons]
/-- inn tells how many arrows lead to t, of those not gone through: the first c v of v's are. -/
def Deg (n : Nat) (A : Nat → List Nat) (c inn : Nat → Nat) : Prop:=∀ t,t < n → inn t = sumN (fun v => ((A v).drop (c v)).count t) n
theorem Deg.init {n : Nat} {A B : Nat → List Nat} (hB : ∀ t,t < n → ∀ x ∈ B t,x < n) (hc : ∀ v t,v < n → t < n → (B t).count v = (A v).count t) : Deg n A (fun _ => 0) (fun t => (B t).length):=by
 intro t ht
 show (B t).length = _
 rw [length_counts n _ (hB t ht)]
 exact sumN_congr fun v hv => by rw [hc v t hv ht,List.drop_zero]
theorem Deg.step {n : Nat} {A : Nat → List Nat} {c inn : Nat → Nat} {v j t : Nat} (h : Deg n A c inn) (hv : v < n) (hj : c v = j) (ht : (A v)[j]? = some t) (htn : t < n) :
 0 < inn t ∧ Deg n A (updN c v (j + 1)) (updN inn t (inn t - 1)):=by
 have hjl : j < (A v).length:=get_of ht
 have hd : (A v).drop j = t :: (A v).drop (j + 1):=by
  rw [List.drop_eq_getElem_cons hjl]
  rw [List.getElem?_eq_getElem hjl] at ht; injection ht with ht; rw [ht]
 have key : ∀ x,sumN (fun u => ((A u).drop (updN c v (j + 1) u)).count x) n + (if x = t then 1 else 0) = sumN (fun u => ((A u).drop (c u)).count x) n:=by
  intro x
  have:=sumN_upd (F:=fun u => ((A u).drop (c u)).count x) (F':=fun u => ((A u).drop (updN c v (j + 1) u)).count x) (v:=v) (fun u hu => by simp only [updN_other _ _ _ hu]) hv
  simp only [updN_same,hj,hd,List.count_cons] at this
  by_cases e : x = t
  ·subst e; rw [if_pos rfl]; simp at this; omega
  ·rw [if_neg e]
   have e2 : (t == x) = false:=by simpa using fun q => e q.symm
   rw [e2] at this; simp at this; omega
 have h1:=key t
 rw [if_pos rfl,← h t htn] at h1
 refine ⟨by omega,fun x hx => ?_⟩
 have h2:=key x
 by_cases e : x = t
 ·subst e; rw [updN_same]; omega
 ·rw [updN_other _ _ _ e,h x hx]; rw [if_neg e] at h2; omega
/-- The peeling: what has gone stands in the queue; the first i of it have been gone through, and of the next the first j and k arrows. -/
structure Peel (n : Nat) (A B : Nat → List Nat) (inn out : Nat → Nat) (c d : Nat → Nat) (gone : Nat → Bool) (q : List Nat) (lives : Nat → Prop) : Prop where
 deg1 : Deg n A c inn
 deg2 : Deg n B d out
 nodup : q.Nodup
 goneq : ∀ x,gone x = true ↔ x ∈ q
 low : ∀ x ∈ q,x < n
 fresh : ∀ v,v ∉ q → c v = 0 ∧ d v = 0
 keep : ∀ t,t < n → lives t → gone t = false
/-- A live vertex has live neighbours on both sides. -/
structure LiveSet (n : Nat) (A B : Nat → List Nat) (lives : Nat → Prop) : Prop where
 behind : ∀ t,t < n → lives t → ∃ p,p < n ∧ lives p ∧ t ∈ A p
 ahead : ∀ t,t < n → lives t → ∃ p,p < n ∧ lives p ∧ t ∈ B p
section
variable {n : Nat} {A B : Nat → List Nat} {inn out c d : Nat → Nat} {gone : Nat → Bool} {q : List Nat} {lives : Nat → Prop}
theorem Peel.live_in (h : Peel n A B inn out c d gone q lives) (hL : LiveSet n A B lives) {t : Nat} (ht : t < n) (hl : lives t) : 0 < inn t ∧ 0 < out t:=by
 have aux : ∀ p,p < n → lives p → c p = 0 ∧ d p = 0:=fun p hp hlp => h.fresh p (fun q => by have:=(h.goneq p).2 q; rw [h.keep p hp hlp] at this; cases this)
 refine ⟨?_,?_⟩
 ·obtain ⟨p,hp,hlp,hm⟩:=hL.behind t ht hl
  rw [h.deg1 t ht]
  refine sumN_pos.2 ⟨p,hp,?_⟩
  rw [(aux p hp hlp).1,List.drop_zero]
  exact List.count_pos_iff.2 hm
 ·obtain ⟨p,hp,hlp,hm⟩:=hL.ahead t ht hl
  rw [h.deg2 t ht]
  refine sumN_pos.2 ⟨p,hp,?_⟩
  rw [(aux p hp hlp).2,List.drop_zero]
  exact List.count_pos_iff.2 hm
/-- A vertex goes. -/
theorem Peel.goes (h : Peel n A B inn out c d gone q lives) (hL : LiveSet n A B lives) {t : Nat} (ht : t < n) (hg : gone t = false) (h0 : inn t = 0 ∨ out t = 0) : Peel n A B inn out c d (updN gone t true) (q ++ [t]) lives:=by
 have htq : t ∉ q:=fun r => by have:=(h.goneq t).2 r; rw [hg] at this; cases this
 refine ⟨h.deg1,h.deg2,?_,fun x => ?_,fun x hx => ?_,fun v hv => h.fresh v (fun r => hv (List.mem_append_left _ r)),fun x hx hl => ?_⟩
 ·exact List.nodup_append.2 ⟨h.nodup,by simp,fun x hx y hy e => by cases List.mem_singleton.1 hy; subst e; exact htq hx⟩
 ·by_cases e : x = t
  ·subst e; rw [updN_same]; simp
  ·rw [updN_other _ _ _ e,h.goneq]; simp [e]
 ·rcases List.mem_append.1 hx with hx | hx
  ·exact h.low x hx
  ·cases List.mem_singleton.1 hx; exact ht
 ·by_cases e : x = t
  ·subst e
   have:=h.live_in hL hx hl; omega
  ·rw [updN_other _ _ _ e]; exact h.keep x hx hl
/-- An arrow of a vertex that has gone. -/
theorem Peel.arrow1 (h : Peel n A B inn out c d gone q lives) {v j t : Nat} (hv : v ∈ q) (hj : c v = j) (ht : (A v)[j]? = some t) (htn : t < n) :
 0 < inn t ∧ Peel n A B (updN inn t (inn t - 1)) out (updN c v (j + 1)) d gone q lives:=by
 obtain ⟨h1,h2⟩:=h.deg1.step (h.low v hv) hj ht htn
 exact ⟨h1,h2,h.deg2,h.nodup,h.goneq,h.low,fun u hu => by
  have e : u ≠ v:=fun e => hu (by rw [e]; exact hv)
  rw [updN_other _ _ _ e]; exact h.fresh u hu,h.keep⟩
/-- At the end each vertex that is left has neighbours that are left, on both sides. -/
theorem Peel.left (h : Peel n A B inn out c d gone q lives) (hall : ∀ v ∈ q,c v = (A v).length ∧ d v = (B v).length) (hpos : ∀ t,t < n → gone t = false → 0 < inn t ∧ 0 < out t) {t : Nat} (ht : t < n) (hg : gone t = false) :
 (∃ p,p < n ∧ gone p = false ∧ t ∈ A p) ∧ ∃ p,p < n ∧ gone p = false ∧ t ∈ B p:=by
 obtain ⟨h1,h2⟩:=hpos t ht hg
 rw [h.deg1 t ht] at h1
 rw [h.deg2 t ht] at h2
 obtain ⟨p,hp,hc⟩:=sumN_pos.1 h1
 obtain ⟨p2,hp2,hc2⟩:=sumN_pos.1 h2
 refine ⟨⟨p,hp,?_,List.mem_of_mem_drop (List.count_pos_iff.1 hc)⟩,⟨p2,hp2,?_,List.mem_of_mem_drop (List.count_pos_iff.1 hc2)⟩⟩
 ·cases hgp : gone p with
  | false => rfl
  | true => rw [(hall p ((h.goneq p).1 hgp)).1,List.drop_length] at hc; simp at hc
 ·cases hgp : gone p2 with
  | false => rfl
  | true => rw [(hall p2 ((h.goneq p2).1 hgp)).2,List.drop_length] at hc2; simp at hc2
end
/-- From a set that one never has to leave, a loop can be reached. -/
theorem set_loop {n : Nat} {A : Nat → List Nat} {S : Nat → Prop} (hS : ∀ x,S x → x < n) (hs : ∀ x,S x → ∃ t ∈ A x,S t) {x : Nat} (hx : S x) : ∃ u,u < n ∧ (∃ t ∈ A u,Goes A t u) ∧ Goes A x u:=by
 apply Classical.byContradiction
 intro hno
 have key : ∀ k,∃ w y,Way A x y w ∧ w.length = k + 1 ∧ w.Nodup ∧ (∀ z ∈ w,S z) ∧ S y:=by
  intro k
  induction k with
  | zero => exact ⟨[x],x,.one x,rfl,by simp,fun z hz => by cases List.mem_singleton.1 hz; exact hx,hx⟩
  | succ k ih =>
   obtain ⟨w,y,h1,h2,h3,h4,h5⟩:=ih
   obtain ⟨t,ht,hst⟩:=hs y h5
   have htw : t ∉ w:=fun hm => by
    obtain ⟨u,hu,_⟩:=h1.mem t hm
    exact hno ⟨y,hS y h5,⟨t,ht,hu.goes⟩,h1.goes⟩
   refine ⟨w ++ [t],t,h1.snoc ht,by simp [h2],List.nodup_append.2 ⟨h3,by simp,fun a ha b hb e => by cases List.mem_singleton.1 hb; subst e; exact htw ha⟩,fun z hz => ?_,hst⟩
   rcases List.mem_append.1 hz with hz | hz
   ·exact h4 z hz
   ·cases List.mem_singleton.1 hz; exact hst
 obtain ⟨w,y,h1,h2,h3,h4,_⟩:=key n
 have hl : ∀ (n : Nat) (l : List Nat),l.Nodup → (∀ x ∈ l,x < n) → l.length ≤ n:=by
  intro n
  induction n with
  | zero => intro l _ h; cases l with
   | nil => simp
   | cons a l => exact absurd (h a List.mem_cons_self) (by omega)
  | succ n ih =>
   intro l hl h
   have h1:=ih (l.erase n) (hl.erase n) (fun x hx => by
    have:=h x (List.mem_of_mem_erase hx)
    have : x ≠ n:=fun e => by subst e; exact (List.Nodup.not_mem_erase hl) hx
    omega)
   have:=List.length_erase (a:=n) (l:=l)
   split at this <;> omega
 have:=hl n w h3 (fun z hz => hS z (h4 z hz))
 omega
end Go.Proofs.YtjiadfblphdchaaGreatDoor
namespace Go.Proofs.YtjiadfblphdchaaGreatDoor
open Go.RowKit
set_option maxRecDepth 100000
/-- How often what is told stands there. -/
def CntTo (G : List (List Int)) (k j : Nat) (F : Nat → List Int) : Prop :=
 ∀ t,t < G.length → ∀ v : Nat,(F t).count (v : Int) = if v < k then (G.getD v []).count (t : Int) else if v = k then ((G.getD k []).take j).count (t : Int) else 0
theorem CntTo.zero (G : List (List Int)) : CntTo G 0 0 (fun _ => []):=by
 intro t _ v
 rw [if_neg (by omega)]
 split <;> simp
theorem CntTo.next {G : List (List Int)} {k : Nat} {F : Nat → List Int} (h : CntTo G k (G.getD k []).length F) : CntTo G (k + 1) 0 F:=by
 intro t ht v
 rw [h t ht v,List.take_length]
 by_cases e : v < k
 ·rw [if_pos e,if_pos (by omega)]
 ·rw [if_neg e]
  by_cases e2 : v = k
  ·subst e2; rw [if_pos rfl,if_pos (by omega)]
  ·rw [if_neg e2,if_neg (by omega)]
   split <;> simp
theorem CntTo.add {G : List (List Int)} {k j u : Nat} {F : Nat → List Int} (h : CntTo G k j F) (hj : (G.getD k [])[j]? = some (u : Int)) : CntTo G k (j + 1) (updN F u (F u ++ [(k : Int)])):=by
 have htk : (G.getD k []).take (j + 1) = (G.getD k []).take j ++ [(u : Int)]:=by
  rw [List.take_add_one,hj]; rfl
 intro t ht v
 have h1:=h t ht v
 rw [htk,List.count_append]
 by_cases e : t = u
 ·subst e
  rw [updN_same,List.count_append,h1]
  by_cases e1 : v < k
  ·rw [if_pos e1,if_pos e1]
   have : ([(k : Int)] : List Int).count (v : Int) = 0:=by
    rw [List.count_eq_zero]; simp; omega
   omega
  ·rw [if_neg e1,if_neg e1]
   by_cases e2 : v = k
   ·subst e2; rw [if_pos rfl,if_pos rfl]; simp
   ·rw [if_neg e2,if_neg e2]
    rw [Nat.zero_add,List.count_eq_zero]; simp; omega
 ·rw [updN_other _ _ _ e,h1]
  have : ([(u : Int)] : List Int).count (t : Int) = 0:=by
   rw [List.count_eq_zero]; simp; omega
  rw [this,Nat.add_zero]
/-- Turned, with how often. -/
structure TurnedX (G H : List (List Int)) : Prop where
 t : TurnedOf G H
 cnt : ∀ t v,t < G.length → v < G.length → (adjOf H t).count v = (adjOf G v).count t
theorem count_toNat : ∀ (l : List Int) (x : Nat),(∀ y ∈ l,0 ≤ y) → (l.map Int.toNat).count x = l.count (x : Int)
 | [],_,_ => rfl
 | a :: l,x,h => by
  rw [List.map_cons,List.count_cons,List.count_cons,count_toNat l x (fun y hy => h y (List.mem_cons_of_mem _ hy))]
  have ha:=h a List.mem_cons_self
  by_cases e : a = (x : Int)
  ·subst e; simp
  ·have : ¬ a.toNat = x:=by omega
   simp [e,this]
theorem TurnedX.of {G : List (List Int)} {F : Nat → List Int} (hok : GraphOk G) (h : BackTo G G.length 0 F) (hc : CntTo G G.length 0 F) : TurnedX G (rowsOf G.length F):=by
 have hT:=h.turned
 refine ⟨hT,fun t v ht hv => ?_⟩
 unfold adjOf
 rw [rowsOf_get _ _ _ ht,count_toNat,count_toNat,hc t ht v,if_pos hv]
 ·exact fun y hy => (hok v hv y hy).1
 ·intro y hy
  obtain ⟨v,rfl,_⟩:=((h t ht).2 y).1 hy
  omega
/-- Lists of which all was made from block B on. -/
def ListsFrom (B : Nat) (w : World) (v : Value) (G : List (List Int)) : Prop :=
 ∃ vs : List Value,OwnV 22 B w v vs ∧ vs.length = G.length ∧ ∀ i,i < G.length → OwnI B w (vAt vs i) (G.getD i [])
theorem ListsFrom.at {B : Nat} {w : World} {v : Value} {G : List (List Int)} (h : ListsFrom B w v G) : ListsAt w v G:=by
 obtain ⟨vs,h1,h2,h3⟩:=h
 exact ⟨vs,h1.at,h2,fun i hi => (h3 i hi).at⟩
theorem ListsFrom.below {B : Nat} {w w' : World} {v : Value} {G : List (List Int)} (h : ListsFrom B w v G) (hb : Below w.heap.size w w') : ListsFrom B w' v G:=by
 obtain ⟨vs,h1,h2,h3⟩:=h
 exact ⟨vs,h1.below hb,h2,fun i hi => (h3 i hi).below hb⟩
theorem ListsFrom.set {B : Nat} {w : World} {v : Value} {G : List (List Int)} (h : ListsFrom B w v G) {a : Addr} (ha : a.block < B) (u : Value) : ListsFrom B (w.setCell a u) v G:=by
 obtain ⟨vs,h1,h2,h3⟩:=h
 exact ⟨vs,OwnV.setBelowBase h1 ha u,h2,fun i hi => OwnV.toI (OwnV.setBelowBase (h3 i hi).toV ha u)⟩
theorem WN.from {B : Nat} {w : World} {f : Names} {ov : Value} {vals : List Value} {n : Nat} {F : Nat → List Int} (h : WN f ov vals n F) (hr : Rows B w f) : ListsFrom B w ov (rowsOf n F) :=
 ⟨vals,hr.ownV h.outer,by rw [h.len,rowsOf_len],fun i hi => by
   rw [rowsOf_len] at hi
   rw [rowsOf_get n F i hi]
   exact hr.ownI (h.rows i hi)⟩
set_option maxHeartbeats 4000000 in
theorem ref_turned (na : Option Addr) (nc : Nat) (G : List (List Int)) (w : World) (h : ListsAt w (.slice na G.length nc) G) (hok : GraphOk G) (hn : G.length ≤ 8200) (harr : arrowsTo G G.length ≤ 262144) :
 Calls Tryz.prog 162 #[.slice na G.length nc] w (Ret1 (fun x w' => ∃ H,TurnedX G H ∧ ListsFrom w.heap.size w' x H) w):=by
 obtain ⟨ov,w1,mk,ho,hb1⟩:=run_makeW oneLists (G.length : Int) G.length w rfl (by omega)
 obtain ⟨f1,hr1,h1⟩:=WN.made G.length hb1 (Nat.le_refl _) ho
 obtain ⟨oa,on,oc,rfl⟩:=ho.shape
 have hlen : ∀ k,k < G.length → (G.getD k []).length ≤ 262144:=fun k hk => by
  have:=arrowsTo_mono G (show k + 1 ≤ G.length by omega)
  simp only [arrowsTo] at this; omega
 replace h:=Lib.hid h
 replace hok:=Lib.hid hok
 replace hr1:=Lib.hid hr1
 replace ho:=Lib.hid ho
 replace hlen:=Lib.hid hlen
 go_enter Tryz.func162,Tryz.ntmps162
 go_wp2_with fail
 clear mk
 go_loopw [4] (fun kv wr => ∃ (k : Nat) (F : Nat → List Int) (f : Names) (vals : List Value),k ≤ G.length ∧ kv = .int .i64 k ∧ Rows w.heap.size wr f ∧ Below w.heap.size w wr ∧ WN f (.slice oa on oc) vals G.length F ∧ BackTo G k 0 F ∧ CntTo G k 0 F) (fun kv _ => G.length - (intOf kv).toNat)
 case atStart => exact ⟨0,_,f1,_,by omega,rfl,hr1.out,hb1,h1,BackTo.zero G,CntTo.zero G⟩
 case round =>
  clear h1 ho hr1
  obtain ⟨k,F,f2,vals,hk,rfl,hr2,b2,h2,hB,hC⟩:=hrel
  obtain ⟨wo,rfl⟩ : ∃ wo : World,wo = wr:=⟨_,rfl⟩
  by_cases hlt : k < G.length
  ·obtain ⟨mv,iR,cR0,hM0⟩:=h.out.row k hlt
   have hgl:=hlen.out k hlt
   have hgp:=hok.out k hlt
   have hBadd:=fun (j u : Nat) (F : Nat → List Int) (h : BackTo G k j F) => h.add (u:=u)
   have hBnext:=fun (F : Nat → List Int) (h : BackTo G k (G.getD k []).length F) => h.next
   have hCadd:=fun (j u : Nat) (F : Nat → List Int) (h : CntTo G k j F) => h.add (u:=u)
   have hCnext:=fun (F : Nat → List Int) (h : CntTo G k (G.getD k []).length F) => h.next
   have hBlen:=fun (j t : Nat) (F : Nat → List Int) (h : BackTo G k j F) (ht : t < G.length) => (h t ht).1
   have harrk:=arrowsTo_mono G hk
   generalize G.getD k [] = gk at *
   have lM:=hM0.len
   generalize valAt (.slice na G.length nc) k = ra at *
   have cR1:=Lib.hid cR0
   clear cR0
   replace hB:=Lib.hid hB
   replace hC:=Lib.hid hC
   replace hBadd:=Lib.hid hBadd
   replace hBnext:=Lib.hid hBnext
   replace hCadd:=Lib.hid hCadd
   replace hCnext:=Lib.hid hCnext
   replace hBlen:=Lib.hid hBlen
   replace hgp:=Lib.hid hgp
   replace hr2:=Lib.hid hr2
   replace hM0:=Lib.hid hM0
   go_wp2_with fail
   go_loopw [5] (fun jv wr => ∃ (j : Nat) (F : Nat → List Int) (f : Names) (vals : List Value),j ≤ gk.length ∧ jv = .int .i64 j ∧ Rows w.heap.size wr f ∧ Below w.heap.size w wr ∧ WN f (.slice oa on oc) vals G.length F ∧ BackTo G k j F ∧ CntTo G k j F) (fun jv _ => gk.length - (intOf jv).toNat)
   case atStart => exact ⟨0,F,f2,vals,by omega,rfl,hr2.out,b2,h2,hB.out,hC.out⟩
   case round =>
    clear hB hC hr2 h2 b2
    obtain ⟨j,F,f3,vals,hj,rfl,hr3,b3,h3,hB,hC⟩:=hrel
    obtain ⟨wo,rfl⟩ : ∃ wo : World,wo = wr:=⟨_,rfl⟩
    have cR:=(b3.cell (World.block_lt_of_cell? _ _ cR1.out)).trans cR1.out
    by_cases hjl : j < gk.length
    ·have hMj:=hM0.out.below b3
     have hgj:=hgp.out gk[j] (List.getElem_mem hjl)
     obtain ⟨u,hu⟩ : ∃ u : Nat,gk[j] = u:=Int.eq_ofNat_of_zero_le hgj.1
     have hun : u < G.length:=by rw [hu] at hgj; omega
     have hgu : gk[j]? = some (u : Int):=by rw [List.getElem?_eq_getElem hjl,hu]
     have hgd : gk.getD j 0 = (u : Int):=by rw [List.getD_eq_getElem?_getD,hgu]; rfl
     have iJ:=fun w' => hMj.idx j hjl w'
     have cJ:=hMj.cellD j hjl
     rw [hgd] at cJ
     have hadd:=hBadd.out j u F hB hgu
     have hcadd:=hCadd.out j u F hC hgu
     have hfl:=hBlen.out j u F hB hun
     have hOV:=(hr3.ownV h3.outer).at
     have iO:=fun w' => hOV.idx oneLists u (by rw [h3.len]; exact hun) w'
     have cO:=hOV.cellV u (by rw [h3.len]; exact hun)
     have hT:=hr3.ownI (h3.rows u hun)
     have happ:=fun (w1 : World) (v' : Value) => h3.app hr3 hun (w1:=w1) (v':=v') (k : Int)
     have hput:=fun (w1 : World) (v' : Value) (xs : List Int) => h3.put (B:=w.heap.size) (w1:=w1) hun (v':=v') (xs:=xs)
     have hB3 : w.heap.size ≤ wo.heap.size:=b3.size
     generalize valAt mv j = ja at *
     generalize vAt vals u = tv at *
     generalize valAt (.slice oa on oc) u = ua at *
     replace hadd:=Lib.hid hadd
     replace hcadd:=Lib.hid hcadd
     replace happ:=Lib.hid happ
     replace hput:=Lib.hid hput
     replace hB:=Lib.hid hB
     replace hC:=Lib.hid hC
     replace hr3:=Lib.hid hr3
     replace hOV:=Lib.hid hOV
     replace hgu:=Lib.hid hgu
     replace hgd:=Lib.hid hgd
     replace hu:=Lib.hid hu
     replace hgj:=Lib.hid hgj
     go_wp2_with (at_builtin; refine wpl_app1 rfl _ _ rfl w.heap.size tv (F u) k hT rfl rfl (by omega) hB3 ?_)
     intro v' w7 ho7 b7 hal7
     have hR7:=happ.out w7 v' ho7 hal7
     obtain ⟨y1,y2,y3,f8,hr8,h8,_⟩:=hput.out w7 v' _ hR7
     obtain ⟨va,vn,vc,rfl⟩:=ho7.at.shape
     replace hr8:=Lib.hid hr8
     replace ho7:=Lib.hid ho7
     replace hR7:=Lib.hid hR7
     clear hal7 hT iJ cJ cO
     go_wp2
     go_roundw
     case measure => simp [intOf]; omega
     case rel => exact ⟨j + 1,_,f8,_,by omega,by go_num,hr8.out,(b3.trans b7).setCell y3 _,h8,hadd.out,hcadd.out⟩
    ·obtain rfl : j = gk.length:=by omega
     have hnext:=hBnext.out F hB
     have hcnext:=hCnext.out F hC
     replace hnext:=Lib.hid hnext
     replace hcnext:=Lib.hid hcnext
     replace hB:=Lib.hid hB
     replace hC:=Lib.hid hC
     replace hr3:=Lib.hid hr3
     go_wp2
     go_roundw
     case measure => simp [intOf]; omega
     case rel => exact ⟨k + 1,F,f3,vals,by omega,by go_num,hr3.out,b3,h3,hnext.out,hcnext.out⟩
  ·obtain rfl : k = G.length:=by omega
   have hT:=TurnedX.of hok.out hB hC
   have hL:=h2.from hr2
   replace hB:=Lib.hid hB
   replace hC:=Lib.hid hC
   replace hT:=Lib.hid hT
   replace hL:=Lib.hid hL
   replace hr2:=Lib.hid hr2
   go_wp2
   go_ret
   exact ⟨_,rfl,b2,_,hT.out,hL.out⟩
end Go.Proofs.YtjiadfblphdchaaGreatDoor
namespace Go.Proofs.YtjiadfblphdchaaGreatDoor
open Go.RowKit
set_option maxRecDepth 100000
theorem run_makeN (n : Nat) (w : World) (hn : n ≤ 10000) :
 ∃ v w',(Instr.makeSlice 22 (.int .i64 n) (.int .i64 n)).run Tryz.prog w = .ok v w' ∧ OwnI w.heap.size w' v (List.replicate n 0) ∧ Below w.heap.size w w':=by
 obtain ⟨v,w',h1,h2,h3⟩:=run_makeW oneInts (n : Int) n w rfl (by omega)
 exact ⟨v,w',h1,OwnV.toI (by rw [List.map_replicate]; exact h2),h3⟩
end Go.Proofs.YtjiadfblphdchaaGreatDoor
namespace Go.Proofs.YtjiadfblphdchaaGreatDoor
open Go.RowKit
set_option maxRecDepth 100000
/-- The least of the first k neighbours that are nearer by one. -/
def BestTo (l : List Nat) (D : Nat → Int) (d : Int) (k : Nat) (b : Int) : Prop :=
 (b = -1 ∧ ∀ t ∈ l.take k,D t ≠ d) ∨ ∃ m : Nat,b = m ∧ m ∈ l.take k ∧ D m = d ∧ ∀ t ∈ l.take k,D t = d → m ≤ t
theorem BestTo.zero (l : List Nat) (D : Nat → Int) (d : Int) : BestTo l D d 0 (-1):=.inl ⟨rfl,fun t ht => by simp at ht⟩
theorem BestTo.low {l : List Nat} {D : Nat → Int} {d : Int} {k : Nat} {b : Int} (h : BestTo l D d k b) : -1 ≤ b:=by
 rcases h with ⟨h,_⟩ | ⟨m,h,_⟩ <;> omega
theorem take_mem {l : List Nat} {k t : Nat} (ht : l[k]? = some t) (x : Nat) : x ∈ l.take (k + 1) ↔ x ∈ l.take k ∨ x = t:=by
 rw [List.take_add_one,ht]; simp
theorem BestTo.skip {l : List Nat} {D : Nat → Int} {d : Int} {k : Nat} {b : Int} (h : BestTo l D d k b) {t : Nat} (ht : l[k]? = some t) (hd : D t ≠ d) : BestTo l D d (k + 1) b:=by
 rcases h with ⟨h1,h2⟩ | ⟨m,h1,h2,h3,h4⟩
 ·refine .inl ⟨h1,fun x hx => ?_⟩
  rcases (take_mem ht x).1 hx with hx | rfl
  ·exact h2 x hx
  ·exact hd
 ·refine .inr ⟨m,h1,(take_mem ht m).2 (.inl h2),h3,fun x hx hxd => ?_⟩
  rcases (take_mem ht x).1 hx with hx | rfl
  ·exact h4 x hx hxd
  ·exact absurd hxd hd
theorem BestTo.take {l : List Nat} {D : Nat → Int} {d : Int} {k : Nat} {b : Int} (h : BestTo l D d k b) {t : Nat} (ht : l[k]? = some t) (hd : D t = d) (hb : b < 0 ∨ (t : Int) < b) : BestTo l D d (k + 1) t:=by
 refine .inr ⟨t,rfl,(take_mem ht t).2 (.inr rfl),hd,fun x hx hxd => ?_⟩
 rcases (take_mem ht x).1 hx with hx | rfl
 ·rcases h with ⟨h1,h2⟩ | ⟨m,h1,h2,h3,h4⟩
  ·exact absurd hxd (h2 x hx)
  ·have:=h4 x hx hxd; omega
 ·exact Nat.le_refl _
theorem BestTo.stay {l : List Nat} {D : Nat → Int} {d : Int} {k : Nat} {b : Int} (h : BestTo l D d k b) {t : Nat} (ht : l[k]? = some t) (hb : 0 ≤ b) (hbt : b ≤ t) : BestTo l D d (k + 1) b:=by
 rcases h with ⟨h1,h2⟩ | ⟨m,h1,h2,h3,h4⟩
 ·omega
 ·refine .inr ⟨m,h1,(take_mem ht m).2 (.inl h2),h3,fun x hx hxd => ?_⟩
  rcases (take_mem ht x).1 hx with hx | rfl
  ·exact h4 x hx hxd
  ·omega
/-- Where the way stands. -/
structure Down (n : Nat) (adj : Nat → List Nat) (x y : Nat) (D : Nat → Int) (out : List Nat) (v : Nat) : Prop where
 low : v < n
 there : 0 ≤ D v
 len : (out.length : Int) + D v = D x + 1
 last : ∃ pre,out = pre ++ [v]
 ext : ∀ u,IsFirst adj v y u → ∀ pre,out = pre ++ [v] → IsFirst adj x y (pre ++ u)
theorem Down.start {n : Nat} {adj : Nat → List Nat} {x y : Nat} {D : Nat → Int} (hx : x < n) (h0 : 0 ≤ D x) : Down n adj x y D [x] x :=
 ⟨hx,h0,by simp; omega,⟨[],rfl⟩,fun u hu pre hp => by
   cases pre with
   | nil => exact hu
   | cons a pre => simp at hp⟩
theorem Down.next {n : Nat} {adj : Nat → List Nat} {x y : Nat} {D : Nat → Int} {out : List Nat} {v m : Nat} (h : Down n adj x y D out v) (hT : ToOf n adj y D) (hlt : ∀ v,v < n → ∀ t ∈ adj v,t < n) (hm : m ∈ adj v) (hd : D m = D v - 1) (h1 : 1 ≤ D v)
 (hmin : ∀ t ∈ adj v,D t = D v - 1 → m ≤ t) : Down n adj x y D (out ++ [m]) m:=by
 refine ⟨hlt v h.low m hm,by omega,by rw [List.length_append,List.length_singleton]; have:=h.len; omega,⟨out,rfl⟩,fun u hu pre hp => ?_⟩
 have hp2 : out = pre:=List.append_inj_left' hp rfl
 subst hp2
 obtain ⟨pre,hpre⟩:=h.last
 have:=h.ext (v :: u) (step_first hT hlt h.low hm hd (by omega) hmin hu) pre hpre
 rw [hpre,List.append_assoc]
 exact this
theorem IsFirst.one (adj : Nat → List Nat) (y : Nat) : IsFirst adj y y [y]:=by
 refine ⟨.one y,fun u hu => hu.pos,fun u hu hl => ?_⟩
 obtain ⟨w,rfl⟩:=hu.ne
 cases w with
 | nil => exact lexLe_refl _
 | cons a w => simp at hl
theorem Down.stop {n : Nat} {adj : Nat → List Nat} {x y : Nat} {D : Nat → Int} {out : List Nat} (h : Down n adj x y D out y) : IsFirst adj x y out:=by
 obtain ⟨pre,hpre⟩:=h.last
 rw [hpre]
 exact h.ext [y] (IsFirst.one adj y) pre hpre
theorem row_push {B : Nat} {w w1 : World} {f : Names} {i : Nat × Nat} {qv qv' : Value} {q : List Nat} (hr : Rows B w f) (hf : f i = some (rowI qv (castI q))) (t : Nat) (ho : OwnI B w1 qv' (castI q ++ [(t : Int)]))
 (hal : (roomOf qv' = roomOf qv ∧ w.grownBy w1 qv.ownBlock) ∨ (∃ k,qv'.ownBlock = some k ∧ w.heap.size ≤ k ∧ w.grownBy w1 none)) : Rows B w1 (upd f i (some (rowI qv' (castI (q ++ [t]))))):=by
 have hO:=hr.ownI hf
 have hg : w.grownBy w1 qv.ownBlock:=grown_via (hal.imp (·.2) (fun ⟨_,_,_,q⟩ => q))
 have hob : qv'.ownBlock = qv.ownBlock ∨ ∃ k,qv'.ownBlock = some k ∧ w.heap.size ≤ k:=by
  rcases hal with ⟨q,_⟩ | ⟨k,h1,h2,_⟩
  ·obtain ⟨a1,n1,c1,e1⟩:=hO.at.shape
   obtain ⟨a2,n2,c2,e2⟩:=ho.at.shape
   exact .inl (ownBlock_of_room e1 e2 q)
  ·exact .inr ⟨k,h1,h2⟩
 have:=hr.grown (r':=rowI qv' (castI q ++ [(t : Int)])) hf hg ho hob
 rwa [← castI_snoc] at this
end Go.Proofs.YtjiadfblphdchaaGreatDoor
namespace Go.Proofs.YtjiadfblphdchaaGreatDoor
open Go.RowKit
set_option maxRecDepth 100000
end Go.Proofs.YtjiadfblphdchaaGreatDoor
namespace Go.Proofs.YtjiadfblphdchaaGreatDoor
open Go.RowKit
set_option maxRecDepth 100000
end Go.Proofs.YtjiadfblphdchaaGreatDoor
namespace Go.Proofs.YtjiadfblphdchaaGreatDoor
end Go.Proofs.YtjiadfblphdchaaGreatDoor
namespace Go.Proofs.YtjiadfblphdchaaGreatDoor
end Go.Proofs.YtjiadfblphdchaaGreatDoor
namespace Go.Proofs.YtjiadfblphdchaaGreatDoor
end Go.Proofs.YtjiadfblphdchaaGreatDoor
namespace Go.Proofs.YtjiadfblphdchaaGreatDoor
open Go.RowKit
set_option maxRecDepth 100000
theorem Box3.belowB {B : Nat} {w w' : World} {b : Nat} {x0 x1 x2 : Value} (h : Box3 w b x0 x1 x2) (hb : Below B w w') (hlt : b < B) : Box3 w' b x0 x1 x2:=by
 obtain ⟨⟨h0,h1,h2⟩,f0,f1,f2⟩:=h
 exact ⟨⟨(hb.cell (p:=⟨b,0,none⟩) hlt).trans h0,(hb.cell (p:=⟨b,1,none⟩) hlt).trans h1,(hb.cell (p:=⟨b,2,none⟩) hlt).trans h2⟩,(hb.frozen (p:=⟨b,0,none⟩) hlt).trans f0,(hb.frozen (p:=⟨b,1,none⟩) hlt).trans f1,(hb.frozen (p:=⟨b,2,none⟩) hlt).trans f2⟩
theorem Box3.far {w : World} {b b' : Nat} {x0 x1 x2 : Value} (h : Box3 w b x0 x1 x2) (hne : b' ≠ b) (i : Nat) (u : Value) : Box3 (w.setCell ⟨b',i,none⟩ u) b x0 x1 x2:=by
 obtain ⟨⟨h0,h1,h2⟩,f0,f1,f2⟩:=h
 refine ⟨⟨?_,?_,?_⟩,?_,?_,?_⟩
 ·rw [World.cell?_setCell_far _ _ _ _ hne]; exact h0
 ·rw [World.cell?_setCell_far _ _ _ _ hne]; exact h1
 ·rw [World.cell?_setCell_far _ _ _ _ hne]; exact h2
 ·simpa using f0
 ·simpa using f1
 ·simpa using f2
theorem Box3.set2 {w : World} {b : Nat} {x0 x1 x2 : Value} (h : Box3 w b x0 x1 x2) (u : Value) : Box3 (w.setCell ⟨b,2,none⟩ u) b x0 x1 u:=by
 obtain ⟨⟨h0,h1,h2⟩,f0,f1,f2⟩:=h
 refine ⟨⟨?_,?_,World.cell?_setCell_same _ _ _ h2⟩,?_,?_,?_⟩
 ·rw [World.cell?_setCell_other _ _ _ _ (by simp)]; exact h0
 ·rw [World.cell?_setCell_other _ _ _ _ (by simp)]; exact h1
 ·simpa using f0
 ·simpa using f1
 ·simpa using f2
end Go.Proofs.YtjiadfblphdchaaGreatDoor
namespace Go.Proofs.YtjiadfblphdchaaGreatDoor
open Go.RowKit
set_option maxRecDepth 100000
theorem err_box (w1 : World) (x0 x1 x2 : Value) :
 Below w1.heap.size w1 (w1.alloc (.cells #[x0,x1,x2] 37)) ∧ Box3 (w1.alloc (.cells #[x0,x1,x2] 37)) w1.heap.size x0 x1 x2 ∧ (w1.alloc (.cells #[x0,x1,x2] 37)).heap.size = w1.heap.size + 1:=by
 obtain ⟨y0,y1,y2,f⟩:=cells3 (Below.refl (w1.alloc (.cells #[x0,x1,x2] 37)).heap.size (w1.alloc (.cells #[x0,x1,x2] 37)))
 exact ⟨belowAlloc w1 _,⟨⟨y0,y1,y2⟩,f⟩,by simp⟩
theorem checkG_num {G : List (List Int)} {n : Int} {l : List (ByteArray × Int)} (h : checkG G = some (n,l)) : (n != 0) = true:=by
 unfold checkG at h
 split at h
 ·injection h with h; injection h with h; subst h; rfl
 split at h
 ·injection h with h; injection h with h; subst h; rfl
 split at h
 ·injection h with h; injection h with h; subst h; rfl
 ·cases h
theorem OwnI.set3 {B b : Nat} {w : World} {v : Value} {xs : List Int} (h : OwnI B w v xs) (hb : b < B) (x y z : Value) : OwnI B (((w.setCell ⟨b,0,none⟩ x).setCell ⟨b,1,none⟩ y).setCell ⟨b,2,none⟩ z) v xs :=
 OwnV.toI (((h.toV.setBelowBase (a:=⟨b,0,none⟩) hb x).setBelowBase (a:=⟨b,1,none⟩) hb y).setBelowBase (a:=⟨b,2,none⟩) hb z)
theorem FirstPost.set3 {w w3 w4 : World} {adj : Nat → List Nat} {a b : Nat} {v : Value} (h : FirstPost w3 adj a b v w4) {c : Nat} (hb : c < w3.heap.size) (hs : w.heap.size ≤ w3.heap.size) (x y z : Value) : FirstPost w adj a b v (((w4.setCell ⟨c,0,none⟩ x).setCell ⟨c,1,none⟩ y).setCell ⟨c,2,none⟩ z):=by
 rcases h with ⟨u,h1,h2⟩ | h
 ·exact .inl ⟨u,h1,(h2.set3 hb x y z).mono hs⟩
 ·exact .inr h
/-- What an answer with an error leaves. -/
def RefPost (w : World) (t : PErr) (P : Value → World → Prop) (x y : Value) (w' : World) : Prop :=
 EOwn w.heap.size w' t y ∧ (t = none → P x w') ∧ (t ≠ none → x = .slice none 0 0)
end Go.Proofs.YtjiadfblphdchaaGreatDoor
namespace Go.Proofs.YtjiadfblphdchaaGreatDoor
theorem Goes.loop {adj : Nat → List Nat} {x y : Nat} (h : Goes adj x y) (ha : x ∈ adj y) : OnLoop adj x:=by
 obtain ⟨w,hw⟩:=h.way
 cases hw with
 | one => exact ⟨x,ha,.refl x⟩
 | @cons _ t _ w ht hw => exact ⟨t,ht,.step hw.goes ha⟩
end Go.Proofs.YtjiadfblphdchaaGreatDoor
namespace Go.Proofs.YtjiadfblphdchaaGreatDoor
theorem Peel.swap {n : Nat} {A B : Nat → List Nat} {inn out c d : Nat → Nat} {gone : Nat → Bool} {q : List Nat} {lives : Nat → Prop} (h : Peel n A B inn out c d gone q lives) : Peel n B A out inn d c gone q lives :=
 ⟨h.deg2,h.deg1,h.nodup,h.goneq,h.low,fun v hv => (h.fresh v hv).symm,h.keep⟩
theorem LiveSet.swap {n : Nat} {A B : Nat → List Nat} {lives : Nat → Prop} (h : LiveSet n A B lives) : LiveSet n B A lives:=⟨h.ahead,h.behind⟩
/-- Between two rounds. -/
structure PS (n : Nat) (A B : Nat → List Nat) (inn out c d : Nat → Nat) (gone : Nat → Bool) (q : List Nat) (lives : Nat → Prop) (i : Nat) : Prop where
 peel : Peel n A B inn out c d gone q lives
 pos : ∀ t,t < n → gone t = false → 0 < inn t ∧ 0 < out t
 done : ∀ j x,j < i → q[j]? = some x → c x = (A x).length ∧ d x = (B x).length
 rest : ∀ j x,i ≤ j → q[j]? = some x → c x = 0 ∧ d x = 0
/-- Within a round. -/
structure Mid (n : Nat) (A B : Nat → List Nat) (inn out c d : Nat → Nat) (gone : Nat → Bool) (q : List Nat) (lives : Nat → Prop) (i v : Nat) : Prop where
 peel : Peel n A B inn out c d gone q lives
 pos : ∀ t,t < n → gone t = false → 0 < inn t ∧ 0 < out t
 cur : q[i]? = some v
 done : ∀ j x,j < i → q[j]? = some x → c x = (A x).length ∧ d x = (B x).length
 rest : ∀ j x,i < j → q[j]? = some x → c x = 0 ∧ d x = 0
section
variable {n : Nat} {A B : Nat → List Nat} {inn out c d : Nat → Nat} {gone : Nat → Bool} {q : List Nat} {lives : Nat → Prop} {i v : Nat}
theorem Mid.swap (h : Mid n A B inn out c d gone q lives i v) : Mid n B A out inn d c gone q lives i v :=
 ⟨h.peel.swap,fun t ht hg => (h.pos t ht hg).symm,h.cur,fun j x hj hx => (h.done j x hj hx).symm,fun j x hj hx => (h.rest j x hj hx).symm⟩
theorem PS.enter (h : PS n A B inn out c d gone q lives i) (hv : q[i]? = some v) : Mid n A B inn out c d gone q lives i v ∧ c v = 0 ∧ d v = 0 ∧ v < n :=
 ⟨⟨h.peel,h.pos,hv,h.done,fun j x hj hx => h.rest j x (by omega) hx⟩,(h.rest i v (Nat.le_refl _) hv).1,(h.rest i v (Nat.le_refl _) hv).2,h.peel.low v (List.mem_of_getElem? hv)⟩
theorem Mid.leave (h : Mid n A B inn out c d gone q lives i v) (hc : c v = (A v).length) (hd : d v = (B v).length) : PS n A B inn out c d gone q lives (i + 1):=by
 refine ⟨h.peel,h.pos,fun j x hj hx => ?_,fun j x hj hx => h.rest j x (by omega) hx⟩
 by_cases e : j = i
 ·subst e
  rw [h.cur] at hx; cases hx
  exact ⟨hc,hd⟩
 ·exact h.done j x (by omega) hx
/-- An arrow of v is gone through. -/
theorem Mid.step (h : Mid n A B inn out c d gone q lives i v) (hL : LiveSet n A B lives) {k t : Nat} (hk : c v = k) (ht : (A v)[k]? = some t) (htn : t < n) :
 0 < inn t ∧ (inn t = 1 → gone t = false → Mid n A B (updN inn t (inn t - 1)) out (updN c v (k + 1)) d (updN gone t true) (q ++ [t]) lives i v) ∧
 ((inn t = 1 → gone t = true) → Mid n A B (updN inn t (inn t - 1)) out (updN c v (k + 1)) d gone q lives i v):=by
 have hvq:=List.mem_of_getElem? h.cur
 obtain ⟨h0,hp⟩:=h.peel.arrow1 hvq hk ht htn
 have hne : ∀ j x,j ≠ i → q[j]? = some x → x ≠ v:=fun j x hj hx e => hj (get_inj h.peel.nodup (by rw [hx,e]) h.cur)
 have hdone : ∀ j x,j < i → q[j]? = some x → updN c v (k + 1) x = (A x).length ∧ d x = (B x).length:=fun j x hj hx => by
  rw [updN_other _ _ _ (hne j x (by omega) hx)]; exact h.done j x hj hx
 have hrest : ∀ j x,i < j → q[j]? = some x → updN c v (k + 1) x = 0 ∧ d x = 0:=fun j x hj hx => by
  rw [updN_other _ _ _ (hne j x (by omega) hx)]; exact h.rest j x hj hx
 refine ⟨h0,fun h1 hg => ?_,fun h1 => ?_⟩
 ·have htq : t ∉ q:=fun hm => by have:=(h.peel.goneq t).2 hm; rw [hg] at this; cases this
  have htv : t ≠ v:=fun e => htq (by rw [e]; exact hvq)
  have hil:=get_of h.cur
  have hga : ∀ j x,(q ++ [t])[j]? = some x → q[j]? = some x ∨ j = q.length ∧ x = t:=fun j x hx => by
   by_cases e : j < q.length
   ·rw [List.getElem?_append_left e] at hx; exact .inl hx
   ·rw [List.getElem?_append_right (by omega)] at hx
    by_cases e2 : j = q.length
    ·rw [e2] at hx; simp at hx; exact .inr ⟨e2,hx.symm⟩
    ·rw [List.getElem?_eq_none (by simp; omega)] at hx; cases hx
  refine ⟨hp.goes hL htn hg (.inl (by rw [updN_same]; omega)),fun x hx hgx => ?_,by rw [List.getElem?_append_left hil]; exact h.cur,fun j x hj hx => ?_,fun j x hj hx => ?_⟩
  ·by_cases e : x = t
   ·subst e; rw [updN_same] at hgx; cases hgx
   ·rw [updN_other _ _ _ e] at hgx ⊢; exact h.pos x hx hgx
  ·rcases hga j x hx with hx | ⟨hj2,_⟩
   ·exact hdone j x hj hx
   ·omega
  ·rcases hga j x hx with hx | ⟨_,rfl⟩
   ·exact hrest j x hj hx
   ·rw [updN_other _ _ _ htv]; exact h.peel.fresh x htq
 ·refine ⟨hp,fun x hx hgx => ?_,h.cur,hdone,hrest⟩
  by_cases e : x = t
  ·subst e
   rw [updN_same]
   have:=(h.pos x hx hgx).2
   have : inn x ≠ 1:=fun e => by have:=h1 e; rw [hgx] at this; cases this
   omega
  ·rw [updN_other _ _ _ e]; exact h.pos x hx hgx
end
/-- The beginning: the first k have been looked at. -/
structure PStart (n : Nat) (A B : Nat → List Nat) (gone : Nat → Bool) (q : List Nat) (lives : Nat → Prop) (k : Nat) : Prop where
 peel : Peel n A B (fun t => (B t).length) (fun t => (A t).length) (fun _ => 0) (fun _ => 0) gone q lives
 pos : ∀ t,t < k → gone t = false → 0 < (B t).length ∧ 0 < (A t).length
 below : ∀ x ∈ q,x < k
section
variable {n : Nat} {A B : Nat → List Nat} {gone : Nat → Bool} {q : List Nat} {lives : Nat → Prop} {k : Nat}
theorem PStart.zero (hA : ∀ t,t < n → ∀ x ∈ A t,x < n) (hB : ∀ t,t < n → ∀ x ∈ B t,x < n) (hc : ∀ t v,t < n → v < n → (B t).count v = (A v).count t) : PStart n A B (fun _ => false) [] lives 0 :=
 ⟨⟨Deg.init hB (fun v t hv ht => hc t v ht hv),Deg.init hA (fun v t hv ht => (hc v t hv ht).symm),by simp,fun x => by simp,fun x hx => by simp at hx,fun _ _ => ⟨rfl,rfl⟩,fun _ _ _ => rfl⟩,fun t ht => by omega,fun x hx => by simp at hx⟩
theorem PStart.take (h : PStart n A B gone q lives k) (hL : LiveSet n A B lives) (hk : k < n) (h0 : (A k).length = 0 ∨ (B k).length = 0) : PStart n A B (updN gone k true) (q ++ [k]) lives (k + 1):=by
 have hg : gone k = false:=by
  cases hgk : gone k with
  | false => rfl
  | true => have:=h.below k ((h.peel.goneq k).1 hgk); omega
 refine ⟨h.peel.goes hL hk hg h0.symm,fun t ht hgt => ?_,fun x hx => ?_⟩
 ·by_cases e : t = k
  ·subst e; rw [updN_same] at hgt; cases hgt
  ·rw [updN_other _ _ _ e] at hgt; exact h.pos t (by omega) hgt
 ·rcases List.mem_append.1 hx with hx | hx
  ·have:=h.below x hx; omega
  ·cases List.mem_singleton.1 hx; omega
theorem PStart.skip (h : PStart n A B gone q lives k) (hA : (A k).length ≠ 0) (hB : (B k).length ≠ 0) : PStart n A B gone q lives (k + 1):=by
 refine ⟨h.peel,fun t ht hgt => ?_,fun x hx => by have:=h.below x hx; omega⟩
 by_cases e : t = k
 ·subst e; omega
 ·exact h.pos t (by omega) hgt
theorem PStart.all (h : PStart n A B gone q lives n) : PS n A B (fun t => (B t).length) (fun t => (A t).length) (fun _ => 0) (fun _ => 0) gone q lives 0 :=
 ⟨h.peel,h.pos,fun j x hj => by omega,fun _ _ _ _ => ⟨rfl,rfl⟩⟩
end
/-- Live vertices have live neighbours. -/
theorem live_set {G H : List (List Int)} (hT : TurnedOf G H) (hok : GraphOk G) : LiveSet G.length (adjOf G) (adjOf H) (IsLive G.length (adjOf G)):=by
 refine ⟨fun t ht hl => ?_,fun t ht hl => ?_⟩
 ·obtain ⟨⟨u,hu,hlu,hgu⟩,w,hw,hlw,hgw⟩:=hl
  cases hgu with
  | refl =>
   obtain ⟨s,hs,hgs⟩:=hlu
   cases hgs with
   | refl => exact ⟨t,ht,⟨⟨t,hu,⟨t,hs,.refl t⟩,.refl t⟩,w,hw,hlw,hgw⟩,hs⟩
   | @step p _ hgp htp =>
    have hsn:=hok.lt t ht s hs
    have hpn:=goes_lt hok hgp hsn
    have hL : OnLoop (adjOf G) t:=⟨s,hs,.step hgp htp⟩
    exact ⟨p,hpn,⟨⟨t,ht,hL,.trans (.one hs) hgp⟩,t,ht,hL,.one htp⟩,htp⟩
  | @step p _ hgp htp =>
   have hpn:=goes_lt hok hgp hu
   exact ⟨p,hpn,⟨⟨u,hu,hlu,hgp⟩,w,hw,hlw,.trans (.one htp) hgw⟩,htp⟩
 ·obtain ⟨⟨u,hu,hlu,hgu⟩,w,hw,hlw,hgw⟩:=hl
  have key : ∀ s,s ∈ adjOf G t → (∃ w,w < G.length ∧ OnLoop (adjOf G) w ∧ Goes (adjOf G) s w) → ∃ p,p < G.length ∧ IsLive G.length (adjOf G) p ∧ t ∈ adjOf H p:=fun s hs hw => by
   have hsn:=hok.lt t ht s hs
   exact ⟨s,hsn,⟨⟨u,hu,hlu,.step hgu hs⟩,hw⟩,(turned_adj hT hok hsn).2 ⟨ht,hs⟩⟩
  obtain ⟨wy,hwy⟩:=hgw.way
  cases hwy with
  | one =>
   obtain ⟨s,hs,hgs⟩:=hlw
   exact key s hs ⟨t,hw,⟨s,hs,hgs⟩,hgs⟩
  | @cons _ s _ _ hs hwy => exact key s hs ⟨w,hw,hlw,hwy.goes⟩
/-- What is left at the end are the live vertices. -/
theorem PS.end_ {G H : List (List Int)} (hT : TurnedOf G H) (hok : GraphOk G) {inn out c d : Nat → Nat} {gone : Nat → Bool} {q : List Nat} (h : PS G.length (adjOf G) (adjOf H) inn out c d gone q (IsLive G.length (adjOf G)) q.length) :
 LiveList G.length (adjOf G) ((List.range G.length).filter fun t => !gone t):=by
 have hall : ∀ v ∈ q,c v = (adjOf G v).length ∧ d v = (adjOf H v).length:=fun v hv => by
  obtain ⟨j,hj⟩:=List.mem_iff_getElem?.1 hv
  exact h.done j v (get_of hj) hj
 refine ⟨List.Pairwise.filter _ List.pairwise_lt_range,fun v => ?_⟩
 rw [List.mem_filter,List.mem_range]
 constructor
 ·rintro ⟨hv,hg⟩
  have hg : gone v = false:=by simpa using hg
  refine ⟨hv,?_,?_⟩
  ·obtain ⟨u,hu,⟨t,ht,hgt⟩,hgo⟩:=set_loop (n:=G.length) (A:=adjOf H) (S:=fun x => x < G.length ∧ gone x = false) (fun x hx => hx.1) (fun x hx => by
    obtain ⟨⟨p,hp,hgp,hm⟩,_⟩:=h.peel.left hall h.pos hx.1 hx.2
    exact ⟨p,(turned_adj hT hok hx.1).2 ⟨hp,hm⟩,hp,hgp⟩) ⟨hv,hg⟩
   obtain ⟨htn,hut⟩:=(turned_adj hT hok hu).1 ht
   exact ⟨u,hu,(turned_goes hT hok hgt htn).loop hut,turned_goes hT hok hgo hv⟩
  ·obtain ⟨u,hu,hlu,hgo⟩:=set_loop (n:=G.length) (A:=adjOf G) (S:=fun x => x < G.length ∧ gone x = false) (fun x hx => hx.1) (fun x hx => by
    obtain ⟨_,⟨p,hp,hgp,hm⟩⟩:=h.peel.left hall h.pos hx.1 hx.2
    exact ⟨p,((turned_adj hT hok hp).1 hm).2,hp,hgp⟩) ⟨hv,hg⟩
   exact ⟨u,hu,hlu,hgo⟩
 ·rintro ⟨hv,hl⟩
  exact ⟨hv,by rw [h.peel.keep v hv hl]; rfl⟩
end Go.Proofs.YtjiadfblphdchaaGreatDoor
