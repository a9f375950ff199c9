/-
  Texts that the proof leans on.
-/
import Derived.Test.YtncpnaoabkjegaaGreatDoorMLt1
import Derived.Laws.BytesArg
import Derived.Lib.ItoaNum
import Derived.Lib.Join
import Derived.Lib.ItoaLen
import Derived.Shelf.Strconv.Itoa3
import Derived.Shelf.Strings.OnBuilder
import Derived.Deep.RegionLawGrows
import Derived.Deep.RegionHeld3
import Derived.LaidEql
import Derived.Stop.Asserts
import Derived.RowKitTokens
import Derived.Deep.LoopGhost
namespace Go.Proofs.YtncpnaoabkjegaaGreatDoor
inductive Goes (adj:Nat→List Nat):Nat→Nat→Prop
 | refl (x:Nat):Goes adj x x
 | step {x y z:Nat} (h:Goes adj x y) (hz:z∈adj y):Goes adj x z
theorem Goes.one {adj:Nat→List Nat} {x y:Nat} (h:y∈adj x):Goes adj x y:=.step (.refl x) h
theorem Goes.trans {adj:Nat→List Nat} {x y z:Nat} (h:Goes adj x y) (h2:Goes adj y z):Goes adj x z:=by
 induction h2 with
 | refl=>exact h
 | step _ hz ih=>exact .step ih hz
theorem Goes.closed {adj:Nat→List Nat} {P:Nat→Prop} (hP:∀ x,P x→∀ t∈adj x,P t) {x y:Nat} (h:Goes adj x y) (hx:P x):P y:=by
 induction h with
 | refl=>exact hx
 | step _ hz ih=>exact hP _ ih _ hz
def updN {α:Type} (f:Nat→α) (v:Nat) (a:α):Nat→α:=fun x=>if x=v then a else f x
theorem updN_same {α:Type} (f:Nat→α) (v:Nat) (a:α):updN f v a v=a:=by simp [updN]
theorem updN_other {α:Type} (f:Nat→α) (v:Nat) (a:α) {x:Nat} (h:x≠v):updN f v a x=f x:=by simp [updN,h]
theorem updN_self {α:Type} (f:Nat→α) (v:Nat):updN f v (f v)=f:=by funext x; by_cases h:x=v<;>simp [updN,h]
structure TS where
 time:Nat
 low:Nat→Nat
 found:Nat→Nat
 idx:Nat→Nat
 opn:List Nat
 part:Nat→Int
 calls:List Nat
def enterS (S:TS) (v:Nat):TS:={ S with time:=S.time+1,low:=updN S.low v (S.time+1),found:=updN S.found v (S.time+1),idx:=updN S.idx v 0,opn:=v::S.opn,calls:=v::S.calls }
def closeS (v:Nat):List Nat→(Nat→Int)→List Nat×(Nat→Int)
 | [],p=>([],p)
 | t::r,p=>if t=v then (r,updN p t v) else closeS v r (updN p t v)
def lowS (low:Nat→Nat) (v:Nat):List Nat→Nat→Nat
 | []=>low
 | u::_=>updN low u (min (low u) (low v))
def leaveS (S:TS) (v:Nat) (r:List Nat):TS :=
 if lowS S.low v r v=S.found v then { S with low:=lowS S.low v r,calls:=r,opn:=(closeS v S.opn S.part).1,part:=(closeS v S.opn S.part).2 }
 else { S with low:=lowS S.low v r,calls:=r }
def stepS (adj:Nat→List Nat) (S:TS):TS :=
 match S.calls with
 | []=>S
 | v::r =>
  if S.idx v=(adj v).length then leaveS S v r
  else
   let t:=(adj v).getD (S.idx v) 0
   let S1:={ S with idx:=updN S.idx v (S.idx v+1) }
   if S.found t=0 then enterS S1 t
   else if S.part t<0 then { S1 with low:=updN S.low v (min (S.low v) (S.found t)) }
   else S1
theorem stepS_nil {adj:Nat→List Nat} {S:TS} (hc:S.calls=[]):stepS adj S=S:=by
 cases S; simp only at hc; subst hc; rfl
theorem stepS_cons {adj:Nat→List Nat} {S:TS} {v:Nat} {r:List Nat} (hc:S.calls=v::r):stepS adj S =
 if S.idx v=(adj v).length then leaveS S v r
 else if S.found ((adj v).getD (S.idx v) 0)=0 then enterS { S with idx:=updN S.idx v (S.idx v+1) } ((adj v).getD (S.idx v) 0)
 else if S.part ((adj v).getD (S.idx v) 0)<0 then { S with idx:=updN S.idx v (S.idx v+1),low:=updN S.low v (min (S.low v) (S.found ((adj v).getD (S.idx v) 0))) }
 else { S with idx:=updN S.idx v (S.idx v+1) }:=by
 cases S; simp only at hc; subst hc; rfl
def wsum (c found:Nat→Nat):Nat→Nat
 | 0=>0
 | n+1=>wsum c found n+if found n=0 then c n else 0
theorem wsum_upd (c found:Nat→Nat) (t a:Nat) (ha:a≠0) (ht:found t=0) (n:Nat) :
 wsum c (updN found t a) n+(if t<n then c t else 0)=wsum c found n:=by
 induction n with
 | zero=>simp [wsum]
 | succ n ih =>
  simp only [wsum]
  by_cases e:n=t
  ·subst e
   rw [if_neg (Nat.lt_irrefl n)] at ih
   rw [updN_same,if_neg ha,if_pos ht,if_pos (by omega)]; omega
  ·rw [updN_other _ _ _ e]
   by_cases h:t<n
   ·rw [if_pos h] at ih; rw [if_pos (show t<n+1 by omega)]; omega
   ·rw [if_neg h] at ih; rw [if_neg (show ¬ t<n+1 by omega)]; omega
structure TInv (n:Nat) (adj:Nat→List Nat) (S:TS):Prop where
 adjLt:∀ v,v<n→∀ t∈adj v,t<n
 seenLt:∀ v,S.found v≠0→v<n
 leTime:∀ v,S.found v≤S.time
 count:S.time+wsum (fun _=>1) S.found n=n
 inj:∀ x y,S.found x=S.found y→S.found x≠0→x=y
 opnIff:∀ v,v∈S.opn↔S.found v≠0∧S.part v<0
 opnSorted:S.opn.Pairwise (fun a b=>S.found b<S.found a)
 callsSorted:S.calls.Pairwise (fun a b=>S.found b<S.found a)
 callsOpen:∀ c∈S.calls,c∈S.opn
 idxLe:∀ v,v∈S.opn→S.idx v≤(adj v).length
 idxDone:∀ v,v∈S.opn→v∉S.calls→S.idx v=(adj v).length
 partSeen:∀ v,0≤S.part v→S.found v≠0
 partLow:∀ v,-1≤S.part v
 A:∀ c∈S.calls,∀ x∈S.opn,S.found c≤S.found x→Goes adj c x
 B:∀ x∈S.opn,∃ c∈S.calls,S.found c≤S.found x∧Goes adj x c
 C:∀ x,0≤S.part x→∀ t∈adj x,0≤S.part t
 D:∀ x∈S.opn,∀ j<S.idx x,∀ t,(adj x)[j]?=some t→S.found t≠0
 E:∀ x∈S.opn,∀ j<S.idx x,∀ t∈S.opn,(adj x)[j]?=some t→∀ c∈S.calls,S.found c≤S.found x →
  (∀ d∈S.calls,S.found d≤S.found x→S.found d≤S.found c)→S.low c≤S.found t
 F:∀ c∈S.calls,S.low c≤S.found c
 G:∀ c∈S.calls,∃ z∈S.opn,S.found z=S.low c∧Goes adj c z
 P1:∀ x,0≤S.part x→∃ p:Nat,S.part x=p∧0≤S.part p∧Goes adj x p∧Goes adj p x
 P2:∀ x y,0≤S.part x→0≤S.part y→Goes adj x y→Goes adj y x→S.part x=S.part y
variable {n:Nat} {adj:Nat→List Nat} {S:TS}
theorem TInv.callsSeen (h:TInv n adj S) {c:Nat} (hc:c∈S.calls):S.found c≠0∧S.part c<0:=(h.opnIff c).1 (h.callsOpen c hc)
theorem TInv.opn_nil (h:TInv n adj S) (hc:S.calls=[]):S.opn=[]:=by
 cases e:S.opn with
 | nil=>rfl
 | cons x l =>
  obtain ⟨c,hm,_⟩:=h.B x (by rw [e]; exact List.mem_cons_self)
  rw [hc] at hm; cases hm
theorem TInv.enterRoot (h:TInv n adj S) (hc:S.calls=[]) {v:Nat} (hv:v<n) (hw:S.found v=0):TInv n adj (enterS S v):=by
 have ho:=h.opn_nil hc
 have hp:S.part v<0:=by
  by_cases hp:S.part v<0
  ·exact hp
  ·exact absurd hw (h.partSeen v (by omega))
 have hcnt:=wsum_upd (fun _=>1) S.found v (S.time+1) (by omega) hw n
 rw [if_pos hv] at hcnt
 have hcl:∀ x,0≤S.part x→x≠v:=fun x hx e=>by subst e; omega
 constructor
 case adjLt=>exact h.adjLt
 case seenLt =>
  intro x hx
  by_cases e:x=v
  ·omega
  ·simp only [enterS,updN_other _ _ _ e] at hx; exact h.seenLt x hx
 case leTime =>
  intro x
  simp only [enterS]
  by_cases e:x=v
  ·subst e; rw [updN_same]; omega
  ·rw [updN_other _ _ _ e]; have:=h.leTime x; omega
 case count=>simp only [enterS]; have:=h.count; omega
 case inj =>
  intro x y hxy hx
  simp only [enterS] at hxy hx
  by_cases ex:x=v<;>by_cases ey:y=v
  ·omega
  ·subst ex; rw [updN_same,updN_other _ _ _ ey] at hxy; have:=h.leTime y; omega
  ·subst ey; rw [updN_same,updN_other _ _ _ ex] at hxy; have:=h.leTime x; omega
  ·rw [updN_other _ _ _ ex,updN_other _ _ _ ey] at hxy; rw [updN_other _ _ _ ex] at hx; exact h.inj x y hxy hx
 case opnIff =>
  intro x
  simp only [enterS,ho,List.mem_singleton]
  by_cases e:x=v
  ·subst e; rw [updN_same]; exact ⟨fun _=>⟨by omega,hp⟩,fun _=>rfl⟩
  ·rw [updN_other _ _ _ e]
   refine ⟨fun h1=>absurd h1 e,fun h1=>?_⟩
   have:=(h.opnIff x).2 h1; rw [ho] at this; cases this
 case opnSorted=>simp only [enterS,ho]; exact List.pairwise_singleton _ _
 case callsSorted=>simp only [enterS,hc]; exact List.pairwise_singleton _ _
 case callsOpen=>intro c hc2; simp only [enterS,hc,ho] at hc2 ⊢; exact hc2
 case idxLe =>
  intro x hx; simp only [enterS,ho,List.mem_singleton] at hx ⊢; subst hx; rw [updN_same]; omega
 case idxDone=>intro x hx hx2; simp only [enterS,hc,ho] at hx hx2; exact absurd hx hx2
 case partSeen =>
  intro x hx; simp only [enterS] at hx ⊢; rw [updN_other _ _ _ (hcl x hx)]; exact h.partSeen x hx
 case partLow=>exact h.partLow
 case A =>
  intro c hc2 x hx _
  simp only [enterS,hc,ho,List.mem_singleton] at hc2 hx
  subst hc2; subst hx; exact .refl _
 case B =>
  intro x hx
  simp only [enterS,ho,List.mem_singleton] at hx
  subst hx; exact ⟨x,by simp [enterS],Nat.le_refl _,.refl _⟩
 case C=>exact h.C
 case D =>
  intro x hx j hj; simp only [enterS,ho,List.mem_singleton] at hx hj; subst hx; rw [updN_same] at hj; omega
 case E =>
  intro x hx j hj; simp only [enterS,ho,List.mem_singleton] at hx hj; subst hx; rw [updN_same] at hj; omega
 case F =>
  intro c hc2; simp only [enterS,hc,List.mem_singleton] at hc2 ⊢; subst hc2; rw [updN_same,updN_same]; exact Nat.le_refl _
 case G =>
  intro c hc2; simp only [enterS,hc,List.mem_singleton] at hc2 ⊢; subst hc2; exact ⟨c,List.mem_cons_self,by rw [updN_same,updN_same],.refl _⟩
 case P1=>exact h.P1
 case P2=>exact h.P2
theorem TInv.enterEdge (h:TInv n adj S) {v:Nat} {r:List Nat} (hc:S.calls=v::r) {t:Nat} (ht:(adj v)[S.idx v]?=some t) (hw:S.found t=0) :
 TInv n adj (enterS { S with idx:=updN S.idx v (S.idx v+1) } t):=by
 have hvc:v∈S.calls:=by rw [hc]; exact List.mem_cons_self
 have hvo:=h.callsOpen v hvc
 have hvs:=h.callsSeen hvc
 have hvn:=h.seenLt v hvs.1
 have htm:t∈adj v:=List.mem_of_getElem? ht
 have htn:=h.adjLt v hvn t htm
 have hil:S.idx v<(adj v).length:=by
  by_cases q:S.idx v<(adj v).length
  ·exact q
  ·rw [List.getElem?_eq_none (by omega)] at ht; cases ht
 have hp:S.part t<0:=by
  by_cases hp:S.part t<0
  ·exact hp
  ·exact absurd hw (h.partSeen t (by omega))
 have hcnt:=wsum_upd (fun _=>1) S.found t (S.time+1) (by omega) hw n
 rw [if_pos htn] at hcnt
 have hcl:∀ x,0≤S.part x→x≠t:=fun x hx e=>by subst e; omega
 have hop:∀ x,x∈S.opn→x≠t:=fun x hx e=>by subst e; exact ((h.opnIff x).1 hx).1 hw
 have hca:∀ x,x∈S.calls→x≠t:=fun x hx=>hop x (h.callsOpen x hx)
 have fo:∀ x,x∈S.opn→updN S.found t (S.time+1) x=S.found x:=fun x hx=>updN_other _ _ _ (hop x hx)
 have fc:∀ x,x∈S.calls→updN S.found t (S.time+1) x=S.found x:=fun x hx=>updN_other _ _ _ (hca x hx)
 have lc:∀ x,x∈S.calls→updN S.low t (S.time+1) x=S.low x:=fun x hx=>updN_other _ _ _ (hca x hx)
 have ft:updN S.found t (S.time+1) t=S.time+1:=updN_same _ _ _
 have lt:updN S.low t (S.time+1) t=S.time+1:=updN_same _ _ _
 have hgt:∀ c∈S.calls,Goes adj c t:=fun c hcm=>by
  refine .step (h.A c hcm v hvo ?_) htm
  have:=h.callsSorted
  rw [hc] at this hcm
  rcases List.mem_cons.1 hcm with e | e
  ·rw [e]; exact Nat.le_refl _
  ·exact Nat.le_of_lt ((List.pairwise_cons.1 this).1 c e)
 have ix:∀ x,x∈S.opn→∀ j,j<updN (updN S.idx v (S.idx v+1)) t 0 x→j<S.idx x∨(x=v∧j=S.idx v):=fun x hx j hj=>by
  rw [updN_other _ _ _ (hop x hx)] at hj
  by_cases e:x=v
  ·subst e; rw [updN_same] at hj; omega
  ·rw [updN_other _ _ _ e] at hj; exact .inl hj
 have mono:∀ x,S.found x≠0→updN S.found t (S.time+1) x≠0:=fun x hx=>by
  by_cases e:x=t
  ·subst e; exact absurd hw hx
  ·rw [updN_other _ _ _ e]; exact hx
 constructor
 case adjLt=>exact h.adjLt
 case seenLt =>
  intro x hx
  by_cases e:x=t
  ·omega
  ·simp only [enterS,updN_other _ _ _ e] at hx; exact h.seenLt x hx
 case leTime =>
  intro x
  simp only [enterS]
  by_cases e:x=t
  ·subst e; rw [updN_same]; omega
  ·rw [updN_other _ _ _ e]; have:=h.leTime x; omega
 case count=>simp only [enterS]; have:=h.count; omega
 case inj =>
  intro x y hxy hx
  simp only [enterS] at hxy hx
  by_cases ex:x=t<;>by_cases ey:y=t
  ·omega
  ·subst ex; rw [updN_same,updN_other _ _ _ ey] at hxy; have:=h.leTime y; omega
  ·subst ey; rw [updN_same,updN_other _ _ _ ex] at hxy; have:=h.leTime x; omega
  ·rw [updN_other _ _ _ ex,updN_other _ _ _ ey] at hxy; rw [updN_other _ _ _ ex] at hx; exact h.inj x y hxy hx
 case opnIff =>
  intro x
  simp only [enterS,List.mem_cons]
  by_cases e:x=t
  ·subst e; rw [updN_same]; exact ⟨fun _=>⟨by omega,hp⟩,fun _=>.inl rfl⟩
  ·rw [updN_other _ _ _ e,← h.opnIff x]
   exact ⟨fun h1=>h1.resolve_left e,.inr⟩
 case opnSorted =>
  simp only [enterS]
  refine List.pairwise_cons.2 ⟨fun x hx=>?_,h.opnSorted.imp_of_mem fun ha hb hab=>?_⟩
  ·rw [fo x hx,ft]; have:=h.leTime x; omega
  ·rw [fo _ ha,fo _ hb]; exact hab
 case callsSorted =>
  simp only [enterS]
  refine List.pairwise_cons.2 ⟨fun x hx=>?_,h.callsSorted.imp_of_mem fun ha hb hab=>?_⟩
  ·rw [fc x hx,ft]; have:=h.leTime x; omega
  ·rw [fc _ ha,fc _ hb]; exact hab
 case callsOpen =>
  intro c hc2; simp only [enterS,List.mem_cons] at hc2 ⊢; exact hc2.imp id (h.callsOpen c)
 case idxLe =>
  intro x hx; simp only [enterS,List.mem_cons] at hx ⊢
  rcases hx with rfl | hx
  ·rw [updN_same]; omega
  ·rw [updN_other _ _ _ (hop x hx)]
   by_cases e:x=v
   ·subst e; rw [updN_same]; omega
   ·rw [updN_other _ _ _ e]; exact h.idxLe x hx
 case idxDone =>
  intro x hx hx2; simp only [enterS,List.mem_cons,not_or] at hx hx2 ⊢
  have hx3:=hx.resolve_left hx2.1
  rw [updN_other _ _ _ hx2.1,updN_other _ _ _ (fun e=>hx2.2 (by rw [e]; exact hvc))]
  exact h.idxDone x hx3 hx2.2
 case partSeen =>
  intro x hx; simp only [enterS] at hx ⊢; rw [updN_other _ _ _ (hcl x hx)]; exact h.partSeen x hx
 case partLow=>exact h.partLow
 case A =>
  intro c hc2 x hx hle
  simp only [enterS,List.mem_cons] at hc2 hx hle
  rcases hc2 with rfl | hc2
  ·rcases hx with rfl | hx
   ·exact .refl _
   ·rw [ft,fo x hx] at hle; have:=h.leTime x; omega
  ·rcases hx with rfl | hx
   ·exact hgt c hc2
   ·rw [fo x hx,fc c hc2] at hle; exact h.A c hc2 x hx hle
 case B =>
  intro x hx
  simp only [enterS,List.mem_cons] at hx
  rcases hx with rfl | hx
  ·exact ⟨x,by simp [enterS],Nat.le_refl _,.refl _⟩
  ·obtain ⟨c,h1,h2,h3⟩:=h.B x hx
   refine ⟨c,by simp only [enterS,List.mem_cons]; exact .inr h1,?_,h3⟩
   simp only [enterS]; rw [fo x hx,fc c h1]; exact h2
 case C=>exact h.C
 case D =>
  intro x hx j hj t' ht'
  simp only [enterS,List.mem_cons] at hx hj ⊢
  rcases hx with rfl | hx
  ·rw [updN_same] at hj; omega
  ·rcases ix x hx j hj with hj | ⟨rfl,rfl⟩
   ·exact mono _ (h.D x hx j hj t' ht')
   ·rw [ht] at ht'; cases ht'; rw [ft]; omega
 case E =>
  intro x hx j hj t' hto ht' c hc2 hle htop
  simp only [enterS,List.mem_cons] at hx hj hto hc2 hle htop ⊢
  rcases hx with rfl | hx
  ·rw [updN_same] at hj; omega
  ·rcases hc2 with rfl | hc2
   ·rw [ft,fo x hx] at hle; have:=h.leTime x; omega
   ·rw [fc c hc2,fo x hx] at hle
    rw [lc c hc2]
    rcases hto with rfl | hto
    ·rw [ft]; have:=h.F c hc2; have:=h.leTime c; omega
    ·rw [fo _ hto]
     rcases ix x hx j hj with hj | ⟨rfl,rfl⟩
     ·refine h.E x hx j hj t' hto ht' c hc2 hle fun d hd hd2=>?_
      have:=htop d (.inr hd) (by rw [fc d hd,fo x hx]; exact hd2)
      rwa [fc d hd,fc c hc2] at this
     ·rw [ht] at ht'; cases ht'; exact absurd rfl (hop _ hto)
 case F =>
  intro c hc2; simp only [enterS,List.mem_cons] at hc2 ⊢
  rcases hc2 with rfl | hc2
  ·rw [updN_same,updN_same]; exact Nat.le_refl _
  ·rw [lc c hc2,fc c hc2]; exact h.F c hc2
 case G =>
  intro c hc2; simp only [enterS,List.mem_cons] at hc2 ⊢
  rcases hc2 with rfl | hc2
  ·exact ⟨c,.inl rfl,by rw [updN_same,updN_same],.refl _⟩
  ·obtain ⟨z,h1,h2,h3⟩:=h.G c hc2
   exact ⟨z,.inr h1,by rw [lc c hc2,fo z h1]; exact h2,h3⟩
 case P1=>exact h.P1
 case P2=>exact h.P2
theorem TInv.edge (h:TInv n adj S) {v:Nat} {r:List Nat} (hc:S.calls=v::r) {t:Nat} (ht:(adj v)[S.idx v]?=some t) (hw:S.found t≠0) (lo:Nat→Nat)
 (hlo:∀ c,c≠v→lo c=S.low c) (hle:lo v≤S.low v) (hlt:S.part t<0→lo v≤S.found t) (hlg:lo v=S.low v∨(S.part t<0∧lo v=S.found t)) :
 TInv n adj { S with idx:=updN S.idx v (S.idx v+1),low:=lo }:=by
 have hvc:v∈S.calls:=by rw [hc]; exact List.mem_cons_self
 have hvo:=h.callsOpen v hvc
 have htm:t∈adj v:=List.mem_of_getElem? ht
 have hil:S.idx v<(adj v).length:=by
  by_cases q:S.idx v<(adj v).length
  ·exact q
  ·rw [List.getElem?_eq_none (by omega)] at ht; cases ht
 have lol:∀ c,lo c≤S.low c:=fun c=>by
  by_cases e:c=v
  ·rw [e]; exact hle
  ·rw [hlo c e]; exact Nat.le_refl _
 have ix:∀ x,∀ j,j<updN S.idx v (S.idx v+1) x→j<S.idx x∨(x=v∧j=S.idx v):=fun x j hj=>by
  by_cases e:x=v
  ·subst e; rw [updN_same] at hj; omega
  ·rw [updN_other _ _ _ e] at hj; exact .inl hj
 constructor
 case adjLt=>exact h.adjLt
 case seenLt=>exact h.seenLt
 case leTime=>exact h.leTime
 case count=>exact h.count
 case inj=>exact h.inj
 case opnIff=>exact h.opnIff
 case opnSorted=>exact h.opnSorted
 case callsSorted=>exact h.callsSorted
 case callsOpen=>exact h.callsOpen
 case idxLe =>
  intro x hx
  show updN S.idx v (S.idx v+1) x≤_
  by_cases e:x=v
  ·subst e; rw [updN_same]; omega
  ·rw [updN_other _ _ _ e]; exact h.idxLe x hx
 case idxDone =>
  intro x hx hx2
  show updN S.idx v (S.idx v+1) x=_
  rw [updN_other _ _ _ (fun e=>hx2 (by rw [e]; exact hvc))]
  exact h.idxDone x hx hx2
 case partSeen=>exact h.partSeen
 case partLow=>exact h.partLow
 case A=>exact h.A
 case B=>exact h.B
 case C=>exact h.C
 case D =>
  intro x hx j hj t' ht'
  rcases ix x j hj with hj | ⟨rfl,rfl⟩
  ·exact h.D x hx j hj t' ht'
  ·rw [ht] at ht'; cases ht'; exact hw
 case E =>
  intro x hx j hj t' hto ht' c hc2 hcx htop
  show lo c≤_
  rcases ix x j hj with hj | ⟨rfl,rfl⟩
  ·exact Nat.le_trans (lol c) (h.E x hx j hj t' hto ht' c hc2 hcx htop)
  ·rw [ht] at ht'; cases ht'
   have e:c=x:=by
    have h1:=htop x hvc (Nat.le_refl _)
    exact h.inj c x (by have h2:S.found c≤S.found x:=hcx; have h3:S.found x≤S.found c:=h1; omega) (h.callsSeen hc2).1
   subst e
   exact hlt ((h.opnIff t).1 hto).2
 case F=>intro c hc2; exact Nat.le_trans (lol c) (h.F c hc2)
 case G =>
  intro c hc2
  show ∃ z∈S.opn,S.found z=lo c∧_
  by_cases e:c=v
  ·subst e
   rcases hlg with e | ⟨e1,e2⟩
   ·rw [e]; exact h.G c hc2
   ·exact ⟨t,(h.opnIff t).2 ⟨hw,e1⟩,e2.symm,.one htm⟩
  ·rw [hlo c e]; exact h.G c hc2
 case P1=>exact h.P1
 case P2=>exact h.P2
theorem TInv.low_eq (h:TInv n adj S) {v:Nat} {r:List Nat} (hc:S.calls=v::r):lowS S.low v r v=S.low v:=by
 cases r with
 | nil=>rfl
 | cons u r =>
  have:=h.callsSorted
  rw [hc] at this
  have h1:=(List.pairwise_cons.1 this).1 u List.mem_cons_self
  exact updN_other _ _ _ (fun e=>by subst e; omega)
theorem TInv.leaveN (h:TInv n adj S) {v:Nat} {r:List Nat} (hc:S.calls=v::r) (hi:S.idx v=(adj v).length) (hl:S.low v≠S.found v) :
 TInv n adj { S with low:=lowS S.low v r,calls:=r }:=by
 have hvc:v∈S.calls:=by rw [hc]; exact List.mem_cons_self
 have hvo:=h.callsOpen v hvc
 have hsrt:=h.callsSorted
 rw [hc] at hsrt
 have hrl:∀ c∈r,S.found c<S.found v:=(List.pairwise_cons.1 hsrt).1
 have hsub:∀ c∈r,c∈S.calls:=fun c hm=>by rw [hc]; exact List.mem_cons_of_mem _ hm
 have hcs:∀ c∈S.calls,c=v∨c∈r:=fun c hm=>by rw [hc] at hm; exact List.mem_cons.1 hm
 have hF:=h.F v hvc
 obtain ⟨z,hz1,hz2,hz3⟩:=h.G v hvc
 obtain ⟨g,hg1,hg2,hg3⟩:=h.B z hz1
 have hgr:g∈r:=(hcs g hg1).resolve_left (fun e=>by subst e; omega)
 obtain ⟨u,r',rfl⟩:∃ u r',r=u::r':=by cases r with
  | nil=>cases hgr
  | cons u r'=>exact ⟨u,r',rfl⟩
 have hur:u∈u::r':=List.mem_cons_self
 have huc:=hsub u hur
 have hru:∀ c∈u::r',S.found c≤S.found u:=fun c hm=>by
  rcases List.mem_cons.1 hm with e | e
  ·rw [e]; exact Nat.le_refl _
  ·exact Nat.le_of_lt ((List.pairwise_cons.1 (List.pairwise_cons.1 hsrt).2).1 c e)
 have lol:∀ c,lowS S.low v (u::r') c≤S.low c:=fun c=>by
  show updN S.low u _ c≤_
  by_cases e:c=u
  ·subst e; rw [updN_same]; omega
  ·rw [updN_other _ _ _ e]; exact Nat.le_refl _
 have lou:lowS S.low v (u::r') u=min (S.low u) (S.low v):=updN_same _ _ _
 have loc:∀ c,c≠u→lowS S.low v (u::r') c=S.low c:=fun c e=>updN_other _ _ _ e
 constructor
 case adjLt=>exact h.adjLt
 case seenLt=>exact h.seenLt
 case leTime=>exact h.leTime
 case count=>exact h.count
 case inj=>exact h.inj
 case opnIff=>exact h.opnIff
 case opnSorted=>exact h.opnSorted
 case callsSorted=>exact (List.pairwise_cons.1 hsrt).2
 case callsOpen=>exact fun c hm=>h.callsOpen c (hsub c hm)
 case idxLe=>exact h.idxLe
 case idxDone =>
  intro x hx hx2
  show S.idx x=_
  by_cases e:x=v
  ·rw [e]; exact hi
  ·exact h.idxDone x hx (fun hm=>(hcs x hm).elim e hx2)
 case partSeen=>exact h.partSeen
 case partLow=>exact h.partLow
 case A=>exact fun c hm=>h.A c (hsub c hm)
 case B =>
  intro x hx
  obtain ⟨c,h1,h2,h3⟩:=h.B x hx
  rcases hcs c h1 with rfl | hcr
  ·refine ⟨g,hgr,?_,h3.trans (hz3.trans hg3)⟩
   show S.found g≤S.found x
   omega
  ·exact ⟨c,hcr,h2,h3⟩
 case C=>exact h.C
 case D=>exact h.D
 case E =>
  intro x hx j hj t hto ht c hc2 hcx htop
  have hcx:S.found c≤S.found x:=hcx
  have htop:∀ d∈u::r',S.found d≤S.found x→S.found d≤S.found c:=htop
  show lowS S.low v (u::r') c≤S.found t
  by_cases hvx:S.found v≤S.found x
  ·have hux:=htop u hur (by have:=hrl u hur; omega)
   have hcu:=hru c hc2
   have e:c=u:=h.inj c u (by omega) (h.callsSeen (hsub c hc2)).1
   rw [e,lou]
   have:=h.E x hx j hj t hto ht v hvc hvx (fun d hd _=>by
    rcases hcs d hd with e | e
    ·rw [e]; exact Nat.le_refl _
    ·exact Nat.le_of_lt (hrl d e))
   omega
  ·refine Nat.le_trans (lol c) (h.E x hx j hj t hto ht c (hsub c hc2) hcx fun d hd hdx=>?_)
   rcases hcs d hd with e | e
   ·rw [e] at hdx; exact absurd hdx hvx
   ·exact htop d e hdx
 case F=>exact fun c hm=>Nat.le_trans (lol c) (h.F c (hsub c hm))
 case G =>
  intro c hc2
  show ∃ z∈S.opn,S.found z=lowS S.low v (u::r') c∧_
  by_cases e:c=u
  ·subst e
   rw [lou]
   by_cases q:S.low v≤S.low c
   ·rw [Nat.min_eq_right q]
    exact ⟨z,hz1,hz2,(h.A c huc v hvo (Nat.le_of_lt (hrl c hur))).trans hz3⟩
   ·rw [Nat.min_eq_left (by omega)]; exact h.G c huc
  ·rw [loc c e]; exact h.G c (hsub c hc2)
 case P1=>exact h.P1
 case P2=>exact h.P2
theorem closeS_spec (found:Nat→Nat) (v:Nat):∀ (l:List Nat) (p:Nat→Int),l.Pairwise (fun a b=>found b<found a)→v∈l →
 (closeS v l p).1.Sublist l∧(∀ x,x∈(closeS v l p).1↔x∈l∧found x<found v) ∧
 (∀ x,(x∈l∧found v≤found x)→(closeS v l p).2 x=(v:Int))∧(∀ x,¬ (x∈l∧found v≤found x)→(closeS v l p).2 x=p x):=by
 intro l
 induction l with
 | nil=>intro p _ h; cases h
 | cons t r ih =>
  intro p hs hv
  have ⟨h1,h2⟩:=List.pairwise_cons.1 hs
  unfold closeS
  by_cases e:t=v
  ·subst e
   rw [if_pos rfl]
   refine ⟨List.sublist_cons_self _ _,fun x=>?_,fun x ⟨hx,hf⟩=>?_,fun x hx=>?_⟩
   ·refine ⟨fun hx=>⟨List.mem_cons_of_mem _ hx,h1 x hx⟩,fun ⟨hx,hf⟩=>?_⟩
    rcases List.mem_cons.1 hx with e | e
    ·subst e; omega
    ·exact e
   ·rcases List.mem_cons.1 hx with e | e
    ·subst e; exact updN_same _ _ _
    ·have:=h1 x e; omega
   ·exact updN_other _ _ _ (fun e=>hx (by rw [e]; exact ⟨List.mem_cons_self,Nat.le_refl _⟩))
  ·rw [if_neg e]
   have hvr:v∈r:=(List.mem_cons.1 hv).resolve_left (fun q=>e q.symm)
   obtain ⟨i1,i2,i3,i4⟩:=ih (updN p t v) h2 hvr
   have htv:=h1 v hvr
   refine ⟨i1.trans (List.sublist_cons_self _ _),fun x=>?_,fun x ⟨hx,hf⟩=>?_,fun x hx=>?_⟩
   ·rw [i2 x]
    refine ⟨fun ⟨a,b⟩=>⟨List.mem_cons_of_mem _ a,b⟩,fun ⟨a,b⟩=>⟨?_,b⟩⟩
    rcases List.mem_cons.1 a with e | e
    ·subst e; omega
    ·exact e
   ·by_cases hxr:x∈r
    ·exact i3 x ⟨hxr,hf⟩
    ·rw [i4 x (fun q=>hxr q.1)]
     rcases List.mem_cons.1 hx with e | e
     ·subst e; exact updN_same _ _ _
     ·exact absurd e hxr
   ·rw [i4 x (fun q=>hx ⟨List.mem_cons_of_mem _ q.1,q.2⟩)]
    exact updN_other _ _ _ (fun e=>hx (by rw [e]; exact ⟨List.mem_cons_self,Nat.le_of_lt htv⟩))
theorem TInv.leaveC (h:TInv n adj S) {v:Nat} {r:List Nat} (hc:S.calls=v::r) (hi:S.idx v=(adj v).length) (hl:S.low v=S.found v) :
 TInv n adj { S with low:=lowS S.low v r,calls:=r,opn:=(closeS v S.opn S.part).1,part:=(closeS v S.opn S.part).2 }:=by
 have hvc:v∈S.calls:=by rw [hc]; exact List.mem_cons_self
 have hvo:=h.callsOpen v hvc
 have hsrt:=h.callsSorted
 rw [hc] at hsrt
 have hrl:∀ c∈r,S.found c<S.found v:=(List.pairwise_cons.1 hsrt).1
 have hsub:∀ c∈r,c∈S.calls:=fun c hm=>by rw [hc]; exact List.mem_cons_of_mem _ hm
 have hcs:∀ c∈S.calls,c=v∨c∈r:=fun c hm=>by rw [hc] at hm; exact List.mem_cons.1 hm
 have hlow:lowS S.low v r=S.low:=by
  cases r with
  | nil=>rfl
  | cons u r' =>
   have h1:=hrl u List.mem_cons_self
   have h2:=h.F u (hsub u List.mem_cons_self)
   show updN S.low u _=_
   rw [Nat.min_eq_left (by omega),updN_self]
 rw [hlow]
 obtain ⟨k1,k2,k3,k4⟩:=closeS_spec S.found v S.opn S.part h.opnSorted hvo
 generalize (closeS v S.opn S.part).1=O at *
 generalize (closeS v S.opn S.part).2=P at *
 have seg:∀ x,x∈S.opn→S.found v≤S.found x→Goes adj v x∧Goes adj x v:=fun x hx hf=>by
  refine ⟨h.A v hvc x hx hf,?_⟩
  obtain ⟨c,h1,h2,h3⟩:=h.B x hx
  rcases hcs c h1 with e | e
  ·rw [← e]; exact h3
  ·exact h3.trans (h.A c h1 v hvo (Nat.le_of_lt (hrl c e)))
 have old:∀ x,0≤S.part x→P x=S.part x:=fun x hx=>k4 x (fun q=>by have:=((h.opnIff x).1 q.1).2; omega)
 have new:∀ x,0≤P x→0≤S.part x∨(x∈S.opn∧S.found v≤S.found x):=fun x hx=>by
  by_cases q:x∈S.opn∧S.found v≤S.found x
  ·exact .inr q
  ·rw [k4 x q] at hx; exact .inl hx
 have C2:∀ x,0≤P x→∀ t∈adj x,0≤P t:=fun x hx t ht=>by
  rcases new x hx with hx | ⟨hxo,hxf⟩
  ·have:=h.C x hx t ht; rw [old t this]; exact this
  ·obtain ⟨j,hj⟩:=List.mem_iff_getElem?.1 ht
   have hjl:j<(adj x).length:=by
    by_cases q:j<(adj x).length
    ·exact q
    ·rw [List.getElem?_eq_none (by omega)] at hj; cases hj
   have hix:S.idx x=(adj x).length:=by
    by_cases e:x=v
    ·rw [e]; exact hi
    ·refine h.idxDone x hxo (fun hm=>?_)
     rcases hcs x hm with q | q
     ·exact e q
     ·have:=hrl x q; omega
   have hft:=h.D x hxo j (by omega) t hj
   by_cases hp:0≤S.part t
   ·rw [old t hp]; exact hp
   ·have hto:=(h.opnIff t).2 ⟨hft,by omega⟩
    have:=h.E x hxo j (by omega) t hto hj v hvc hxf (fun d hd _=>by
     rcases hcs d hd with e | e
     ·rw [e]; exact Nat.le_refl _
     ·exact Nat.le_of_lt (hrl d e))
    rw [k3 t ⟨hto,by omega⟩]; omega
 constructor
 case adjLt=>exact h.adjLt
 case seenLt=>exact h.seenLt
 case leTime=>exact h.leTime
 case count=>exact h.count
 case inj=>exact h.inj
 case opnIff =>
  intro x
  show x∈O↔S.found x≠0∧P x<0
  rw [k2 x]
  constructor
  ·rintro ⟨a,b⟩
   have:=(h.opnIff x).1 a
   rw [k4 x (fun q=>by omega)]; exact this
  ·rintro ⟨a,b⟩
   by_cases q:x∈S.opn∧S.found v≤S.found x
   ·rw [k3 x q] at b; omega
   ·rw [k4 x q] at b
    have:=(h.opnIff x).2 ⟨a,b⟩
    exact ⟨this,by have:¬ S.found v≤S.found x:=fun w=>q ⟨this,w⟩; omega⟩
 case opnSorted=>exact h.opnSorted.sublist k1
 case callsSorted=>exact (List.pairwise_cons.1 hsrt).2
 case callsOpen=>exact fun c hm=>(k2 c).2 ⟨h.callsOpen c (hsub c hm),hrl c hm⟩
 case idxLe=>exact fun x hx=>h.idxLe x ((k2 x).1 hx).1
 case idxDone =>
  intro x hx hx2
  refine h.idxDone x ((k2 x).1 hx).1 (fun hm=>?_)
  rcases hcs x hm with e | e
  ·have:=((k2 x).1 hx).2; subst e; omega
  ·exact hx2 e
 case partSeen =>
  intro x hx
  rcases new x hx with q | q
  ·exact h.partSeen x q
  ·exact ((h.opnIff x).1 q.1).1
 case partLow =>
  intro x
  show -1≤P x
  by_cases q:x∈S.opn∧S.found v≤S.found x
  ·rw [k3 x q]; omega
  ·rw [k4 x q]; exact h.partLow x
 case A=>exact fun c hm x hx hf=>h.A c (hsub c hm) x ((k2 x).1 hx).1 hf
 case B =>
  intro x hx
  have ⟨hx1,hx2⟩:=(k2 x).1 hx
  obtain ⟨c,h1,h2,h3⟩:=h.B x hx1
  rcases hcs c h1 with e | e
  ·subst e; omega
  ·exact ⟨c,e,h2,h3⟩
 case C=>exact C2
 case D=>exact fun x hx=>h.D x ((k2 x).1 hx).1
 case E =>
  intro x hx j hj t hto ht c hc2 hcx htop
  have ⟨hx1,hx2⟩:=(k2 x).1 hx
  refine h.E x hx1 j hj t ((k2 t).1 hto).1 ht c (hsub c hc2) hcx fun d hd hdx=>?_
  rcases hcs d hd with e | e
  ·subst e; omega
  ·exact htop d e hdx
 case F=>exact fun c hm=>h.F c (hsub c hm)
 case G =>
  intro c hm
  obtain ⟨z,h1,h2,h3⟩:=h.G c (hsub c hm)
  have:=h.F c (hsub c hm)
  have:=hrl c hm
  exact ⟨z,(k2 z).2 ⟨h1,by omega⟩,h2,h3⟩
 case P1 =>
  intro x hx
  rcases new x hx with q | q
  ·obtain ⟨p,a,b,c,d⟩:=h.P1 x q
   exact ⟨p,by show P x=_; rw [old x q]; exact a,by show 0≤P p; rw [old _ b]; exact b,c,d⟩
  ·have:=seg x q.1 q.2
   exact ⟨v,k3 x q,by show 0≤P v; rw [k3 v ⟨hvo,Nat.le_refl _⟩]; omega,this.2,this.1⟩
 case P2 =>
  intro x y hx hy hxy hyx
  show P x=P y
  rcases new x hx with q | q<;>rcases new y hy with q' | q'
  ·rw [old x q,old y q']; exact h.P2 x y q q' hxy hyx
  ·have:=Goes.closed (P:=fun z=>0≤S.part z) h.C hxy q
   have:=((h.opnIff y).1 q'.1).2; omega
  ·have:=Goes.closed (P:=fun z=>0≤S.part z) h.C hyx q'
   have:=((h.opnIff x).1 q.1).2; omega
  ·rw [k3 x q,k3 y q']
theorem TInv.leave (h:TInv n adj S) {v:Nat} {r:List Nat} (hc:S.calls=v::r) (hi:S.idx v=(adj v).length):TInv n adj (leaveS S v r):=by
 unfold leaveS
 rw [h.low_eq hc]
 split
 ·next q=>exact h.leaveC hc hi q
 ·next q=>exact h.leaveN hc hi q
theorem TInv.idx_get (h:TInv n adj S) {v:Nat} {r:List Nat} (hc:S.calls=v::r) (hi:S.idx v≠(adj v).length) :
 S.idx v<(adj v).length∧(adj v)[S.idx v]?=some ((adj v).getD (S.idx v) 0)∧(adj v).getD (S.idx v) 0<n:=by
 have hvc:v∈S.calls:=by rw [hc]; exact List.mem_cons_self
 have hvo:=h.callsOpen v hvc
 have h1:S.idx v<(adj v).length:=by have:=h.idxLe v hvo; omega
 have h2:(adj v)[S.idx v]?=some ((adj v).getD (S.idx v) 0):=by simp [List.getD,List.getElem?_eq_getElem h1]
 exact ⟨h1,h2,h.adjLt v (h.seenLt v (h.callsSeen hvc).1) _ (List.mem_of_getElem? h2)⟩
theorem TInv.step (h:TInv n adj S):TInv n adj (stepS adj S):=by
 cases hc:S.calls with
 | nil=>rw [stepS_nil hc]; exact h
 | cons v r =>
  rw [stepS_cons hc]
  by_cases hi:S.idx v=(adj v).length
  ·rw [if_pos hi]; exact h.leave hc hi
  ·rw [if_neg hi]
   obtain ⟨_,h2,_⟩:=h.idx_get hc hi
   by_cases hf:S.found ((adj v).getD (S.idx v) 0)=0
   ·rw [if_pos hf]; exact h.enterEdge hc h2 hf
   ·rw [if_neg hf]
    by_cases hp:S.part ((adj v).getD (S.idx v) 0)<0
    ·rw [if_pos hp]
     refine h.edge hc h2 hf (updN S.low v (min (S.low v) (S.found ((adj v).getD (S.idx v) 0)))) (fun c (hcv:c≠v)=>updN_other S.low v _ hcv) ?_ (fun _=>?_) ?_
     ·rw [updN_same]; omega
     ·rw [updN_same]; omega
     ·rw [updN_same]
      by_cases q:S.low v≤S.found ((adj v).getD (S.idx v) 0)
      ·exact .inl (Nat.min_eq_left q)
      ·exact .inr ⟨hp,Nat.min_eq_right (by omega)⟩
    ·rw [if_neg hp]
     exact h.edge hc h2 hf S.low (fun _ _=>rfl) (Nat.le_refl _) (fun q=>absurd q hp) (.inl rfl)
theorem sorted_len (found:Nat→Nat):∀ (l:List Nat) (b:Nat),l.Pairwise (fun a b=>found b<found a)→(∀ x∈l,found x≠0∧found x≤b)→l.length≤b
 | [],b,_,_=>Nat.zero_le b
 | a::l,b,hs,hb=>by
  have ⟨h1,h2⟩:=List.pairwise_cons.1 hs
  have ha:=hb a List.mem_cons_self
  have:=sorted_len found l (found a-1) h2 (fun x hx=>⟨(hb x (List.mem_cons_of_mem _ hx)).1,by have:=h1 x hx; omega⟩)
  simp only [List.length_cons]; omega
theorem TInv.time_le (h:TInv n adj S):S.time≤n:=by have:=h.count; omega
theorem TInv.calls_len (h:TInv n adj S):S.calls.length≤n :=
 Nat.le_trans (sorted_len S.found S.calls S.time h.callsSorted (fun x hx=>⟨(h.callsSeen hx).1,h.leTime x⟩)) h.time_le
theorem TInv.opn_len (h:TInv n adj S):S.opn.length≤n :=
 Nat.le_trans (sorted_len S.found S.opn S.time h.opnSorted (fun x hx=>⟨((h.opnIff x).1 hx).1,h.leTime x⟩)) h.time_le
def phi (n:Nat) (adj:Nat→List Nat) (S:TS):Nat :=
 (S.calls.map fun v=>1+((adj v).length-S.idx v)).sum+wsum (fun v=>2+(adj v).length) S.found n
theorem phi_calls (adj:Nat→List Nat) (l:List Nat) (f g:Nat→Nat) (h:∀ v∈l,f v=g v) :
 (l.map fun v=>1+((adj v).length-f v)).sum=(l.map fun v=>1+((adj v).length-g v)).sum:=by
 congr 1
 exact List.map_congr_left fun v hv=>by rw [h v hv]
theorem TInv.phi_step (h:TInv n adj S) {v:Nat} {r:List Nat} (hc:S.calls=v::r):phi n adj (stepS adj S)<phi n adj S:=by
 have hsrt:=h.callsSorted
 rw [hc] at hsrt
 have hnd:∀ c∈r,c≠v:=fun c hm e=>by have:=(List.pairwise_cons.1 hsrt).1 c hm; subst e; omega
 have hbase:phi n adj S=(1+((adj v).length-S.idx v))+(r.map fun v=>1+((adj v).length-S.idx v)).sum+wsum (fun v=>2+(adj v).length) S.found n:=by
  unfold phi; rw [hc]; simp
 have hbump:∀ lo,phi n adj { S with idx:=updN S.idx v (S.idx v+1),low:=lo }=(1+((adj v).length-(S.idx v+1)))+(r.map fun v=>1+((adj v).length-S.idx v)).sum+wsum (fun v=>2+(adj v).length) S.found n:=fun lo=>by
  unfold phi; rw [hc]; simp only [List.map_cons,List.sum_cons,updN_same]
  rw [phi_calls adj r _ S.idx (fun c hm=>updN_other _ _ _ (hnd c hm))]
 rw [stepS_cons hc]
 by_cases hi:S.idx v=(adj v).length
 ·rw [if_pos hi,hbase]
  unfold leaveS
  split<;>· unfold phi; dsimp only; omega
 ·rw [if_neg hi]
  obtain ⟨h1,h2,h3⟩:=h.idx_get hc hi
  by_cases hf:S.found ((adj v).getD (S.idx v) 0)=0
  ·rw [if_pos hf,hbase]
   generalize (adj v).getD (S.idx v) 0=t at *
   have hw:=wsum_upd (fun v=>2+(adj v).length) S.found t (S.time+1) (by omega) hf n
   rw [if_pos h3] at hw
   have htc:∀ c∈S.calls,c≠t:=fun c hm e=>by have:=(h.callsSeen hm).1; rw [e] at this; exact this hf
   unfold phi enterS
   dsimp only
   rw [hc]
   simp only [List.map_cons,List.sum_cons,updN_same]
   rw [phi_calls adj r _ S.idx (fun c hm=>by rw [updN_other _ _ _ (htc c (by rw [hc]; exact List.mem_cons_of_mem _ hm)),updN_other _ _ _ (hnd c hm)]),
    updN_other _ _ _ (htc v (by rw [hc]; exact List.mem_cons_self)),updN_same]
   omega
  ·rw [if_neg hf]
   by_cases hp:S.part ((adj v).getD (S.idx v) 0)<0
   ·rw [if_pos hp,hbase]; have:=hbump (updN S.low v (min (S.low v) (S.found ((adj v).getD (S.idx v) 0)))); omega
   ·rw [if_neg hp,hbase]; have:=hbump S.low; have e:({ S with idx:=updN S.idx v (S.idx v+1),low:=S.low }:TS)={ S with idx:=updN S.idx v (S.idx v+1) }:=rfl
    rw [e] at this; omega
def initS:TS:=⟨0,fun _=>0,fun _=>0,fun _=>0,[],fun _=>-1,[]⟩
theorem wsum_white (n:Nat):wsum (fun _=>1) (fun _=>0) n=n:=by
 induction n with
 | zero=>rfl
 | succ n ih=>simp [wsum,ih]
theorem TInv.init (n:Nat) (adj:Nat→List Nat) (ha:∀ v,v<n→∀ t∈adj v,t<n):TInv n adj initS:=by
 constructor
 case adjLt=>exact ha
 case count=>simp [initS,wsum_white]
 case C=>intro x hx; simp [initS] at hx
 case P1=>intro x hx; simp [initS] at hx
 case P2=>intro x y hx; simp [initS] at hx
 all_goals simp [initS]
theorem keepsS (adj:Nat→List Nat) (S:TS) {x:Nat} (hx:S.found x≠0):(stepS adj S).found x=S.found x:=by
 cases hc:S.calls with
 | nil=>rw [stepS_nil hc]
 | cons v r =>
  rw [stepS_cons hc]
  split
  ·unfold leaveS; split<;>rfl
  ·split
   ·next hf=>exact updN_other _ _ _ (fun e=>by rw [e] at hx; exact hx hf)
   ·split<;>rfl
theorem TInv.done (h:TInv n adj S) (hc:S.calls=[]) (hall:∀ v,v<n→S.found v≠0) :
 (∀ v,v<n→0≤S.part v)∧∀ x y,x<n→y<n→(S.part x=S.part y↔Goes adj x y∧Goes adj y x):=by
 have hp:∀ v,v<n→0≤S.part v:=fun v hv=>by
  by_cases q:S.part v<0
  ·have:=(h.opnIff v).2 ⟨hall v hv,q⟩; rw [h.opn_nil hc] at this; cases this
  ·omega
 refine ⟨hp,fun x y hx hy=>⟨fun e=>?_,fun ⟨a,b⟩=>h.P2 x y (hp x hx) (hp y hy) a b⟩⟩
 obtain ⟨p,p1,_,p2,p3⟩:=h.P1 x (hp x hx)
 obtain ⟨q,q1,_,q2,q3⟩:=h.P1 y (hp y hy)
 have:p=q:=by omega
 subst this
 exact ⟨p2.trans q3,q2.trans p3⟩
def sPairs:ByteArray:=⟨#[112,97,105,114,115]⟩
def toN (K N u s:Nat):Nat:=(u*K+s)%N
def labN (K:Nat) (T:List Int) (u s:Nat):Int:=T.getD (u*K+s) 0
def rawT (K N:Nat) (T:List Int) (u v s t:Nat):List Nat:=if labN K T u s=labN K T v t then [toN K N u s*N+toN K N v t] else []
def rawS (K N:Nat) (T:List Int) (u v s n:Nat):List Nat:=(List.range n).flatMap fun t=>rawT K N T u v s t
def rawP (K N:Nat) (T:List Int) (u v n:Nat):List Nat:=(List.range n).flatMap fun s=>rawS K N T u v s K
theorem rawS_succ (K N:Nat) (T:List Int) (u v s n:Nat):rawS K N T u v s (n+1)=rawS K N T u v s n++rawT K N T u v s n:=by
 simp [rawS,List.range_succ]
theorem rawP_succ (K N:Nat) (T:List Int) (u v n:Nat):rawP K N T u v (n+1)=rawP K N T u v n++rawS K N T u v n K:=by
 simp [rawP,List.range_succ]
theorem rawT_len (K N:Nat) (T:List Int) (u v s t:Nat):(rawT K N T u v s t).length≤1:=by unfold rawT; split<;>simp
theorem rawS_len (K N:Nat) (T:List Int) (u v s n:Nat):(rawS K N T u v s n).length≤n:=by
 induction n with
 | zero=>simp [rawS]
 | succ n ih=>rw [rawS_succ,List.length_append]; have:=rawT_len K N T u v s n; omega
theorem rawP_len (K N:Nat) (T:List Int) (u v n:Nat):(rawP K N T u v n).length≤n*K:=by
 induction n with
 | zero=>simp [rawP]
 | succ n ih=>rw [rawP_succ,List.length_append,Nat.add_mul]; have:=rawS_len K N T u v n K; omega
def Arr (K N:Nat) (T:List Int) (u v q:Nat):Prop:=∃ s t,s<K∧t<K∧labN K T u s=labN K T v t∧q=toN K N u s*N+toN K N v t
theorem mem_rawP {K N:Nat} {T:List Int} {u v q:Nat}:q∈rawP K N T u v K↔Arr K N T u v q:=by
 unfold rawP rawS rawT Arr
 simp only [List.mem_flatMap,List.mem_range]
 constructor
 ·rintro ⟨s,hs,t,ht,h⟩
  split at h
  ·rename_i e
   exact ⟨s,t,hs,ht,e,by simpa using h⟩
  ·cases h
 ·rintro ⟨s,t,hs,ht,e,h⟩
  exact ⟨s,hs,t,ht,by rw [if_pos e]; simpa using h⟩
theorem toN_lt {K N u s:Nat} (hN:0<N):toN K N u s<N:=Nat.mod_lt _ hN
theorem pair_lt {N a b:Nat} (ha:a<N) (hb:b<N):a*N+b<N*N:=by
 have:=Nat.mul_le_mul_right N (show a+1≤N by omega)
 rw [Nat.add_mul] at this; omega
theorem pair_div {N a b:Nat} (hb:b<N):(a*N+b)/N=a:=div_mk hb
theorem pair_mod {N a b:Nat} (hb:b<N):(a*N+b)%N=b:=mod_mk hb
theorem pair_eq (p N:Nat):p/N*N+p%N=p:=by rw [Nat.mul_comm]; exact Nat.div_add_mod p N
theorem div_lt_of {p N:Nat} (h:p<N*N):p/N<N:=Nat.div_lt_of_lt_mul h
theorem Arr.lt {K N:Nat} {T:List Int} {u v q:Nat} (hN:0<N) (h:Arr K N T u v q):q<N*N:=by
 obtain ⟨s,t,_,_,_,rfl⟩:=h
 exact pair_lt (toN_lt hN) (toN_lt hN)
def pairL (K N:Nat) (T:List Int) (p:Nat):List Nat:=(List.range (N*N)).filter fun q=>decide (q∈rawP K N T (p/N) (p%N) K)
theorem pairL_sorted (K N:Nat) (T:List Int) (p:Nat):(pairL K N T p).Pairwise (·<·):=List.Pairwise.filter _ List.pairwise_lt_range
theorem mem_pairL {K N:Nat} {T:List Int} {p q:Nat} (hN:0<N):q∈pairL K N T p↔Arr K N T (p/N) (p%N) q:=by
 unfold pairL
 rw [List.mem_filter,List.mem_range,decide_eq_true_iff,mem_rawP]
 exact ⟨fun h=>h.2,fun h=>⟨h.lt hN,h⟩⟩
theorem nodup_sub {α:Type} [DecidableEq α]:∀ {l m:List α},l.Nodup→l ⊆ m→l.length≤m.length
 | [],_,_,_=>by simp
 | a::l,m,hn,hs=>by
  obtain ⟨h1,h2⟩:=List.nodup_cons.1 hn
  have ha:=hs List.mem_cons_self
  have:=nodup_sub (l:=l) (m:=m.erase a) h2 (fun b hb=>(List.mem_erase_of_ne (fun e=>h1 (by rw [← e]; exact hb))).2 (hs (List.mem_cons_of_mem _ hb)))
  have hl:=List.length_erase_of_mem ha
  have:=List.length_pos_of_mem ha
  simp only [List.length_cons]; omega
theorem pairL_len (K N:Nat) (T:List Int) (p:Nat):(pairL K N T p).length≤K*K:=by
 have hn:(pairL K N T p).Nodup:=(pairL_sorted K N T p).imp (fun h=>Nat.ne_of_lt h)
 have hs:pairL K N T p ⊆ rawP K N T (p/N) (p%N) K:=fun q hq=>by
  unfold pairL at hq
  simpa using (List.mem_filter.1 hq).2
 exact Nat.le_trans (nodup_sub hn hs) (rawP_len ..)
def nodeAt (K m:Nat) (x:List Int) (i:Nat):Nat:=numW K ((x.drop i).take m)
theorem win_snoc {x:List Int} {i m:Nat} (h:i+m<x.length):(x.drop i).take (m+1)=(x.drop i).take m++[x.getD (i+m) 0]:=by
 rw [List.take_add_one,List.getElem?_drop]
 simp [List.getD,h]
theorem win_cons {x:List Int} {i m:Nat}:((x.drop i).take (m+1)).drop 1=(x.drop (i+1)).take m:=by
 rw [List.drop_take]; simp
theorem syms_drop {K:Int} {x:List Int} (h:Syms K x) (i:Nat):Syms K (x.drop i):=fun y hy=>h y (List.mem_of_mem_drop hy)
theorem syms_take {K:Int} {x:List Int} (h:Syms K x) (i:Nat):Syms K (x.take i):=fun y hy=>h y (List.mem_of_mem_take hy)
theorem syms_at {K:Nat} {x:List Int} (h:Syms K x) {i:Nat} (hi:i<x.length):0≤x.getD i 0∧x.getD i 0<K∧(x.getD i 0).toNat<K:=by
 have:=h (x[i]) (List.getElem_mem hi)
 simp only [List.getD_eq_getElem?_getD,List.getElem?_eq_getElem hi,Option.getD_some]
 omega
theorem win_num {K m:Nat} {x:List Int} {i:Nat} (h:i+m<x.length):numW K ((x.drop i).take (m+1))=nodeAt K m x i*K+(x.getD (i+m) 0).toNat:=by
 rw [win_snoc h,numW_snoc]; rfl
theorem node_lt {K m:Nat} {x:List Int} (hx:Syms K x) {i:Nat} (h:i+m≤x.length):nodeAt K m x i<pw K m:=by
 have:=numW_lt _ (syms_take (syms_drop hx i) m)
 rwa [show ((x.drop i).take m).length=m by simp; omega] at this
theorem node_next {K m:Nat} {x:List Int} (hx:Syms K x) {i:Nat} (h:i+m<x.length):nodeAt K m x (i+1)=toN K (pw K m) (nodeAt K m x i) (x.getD (i+m) 0).toNat:=by
 have hl:((x.drop i).take m).length=m:=by simp; omega
 have hs:Syms K ((x.drop i).take m++[x.getD (i+m) 0]):=by rw [← win_snoc h]; exact syms_take (syms_drop hx i) _
 have:=num_shift hs
 rw [← win_snoc h,win_cons,hl,win_num h] at this
 exact this
theorem img_at {K R:Nat} {T x:List Int} {i:Nat} (h:i+2*R<x.length):(imgP K R T x).getD i 0=labN K T (nodeAt K (2*R) x i) (x.getD (i+2*R) 0).toNat:=by
 rw [imgP_getD _ _ _ _ _ (by omega),win_num h]; rfl
theorem img_eq {K R:Nat} {T x y:List Int} (hl:x.length=y.length):imgP K R T x=imgP K R T y ↔
 ∀ i,i+2*R<x.length→labN K T (nodeAt K (2*R) x i) (x.getD (i+2*R) 0).toNat=labN K T (nodeAt K (2*R) y i) (y.getD (i+2*R) 0).toNat:=by
 constructor
 ·intro h i hi
  rw [← img_at hi,← img_at (by omega),h]
 ·intro h
  refine List.ext_getElem (by rw [imgP_length,imgP_length,hl]) fun i h1 h2=>?_
  rw [imgP_length] at h1 h2
  have:=h i (by omega)
  rw [← img_at (by omega),← img_at (by omega)] at this
  simpa [List.getD_eq_getElem?_getD,imgP_length,h1,h2] using this
theorem wayW_arr {K R:Nat} {T x y:List Int} (hx:Syms K x) (hy:Syms K y) (hl:x.length=y.length) (he:imgP K R T x=imgP K R T y) {i:Nat} (hi:i+2*R<x.length) :
 Arr K (pw K (2*R)) T (nodeAt K (2*R) x i) (nodeAt K (2*R) y i) (nodeAt K (2*R) x (i+1)*pw K (2*R)+nodeAt K (2*R) y (i+1)) :=
 ⟨_,_,(syms_at hx hi).2.2,(syms_at hy (by omega)).2.2,(img_eq hl).1 he i hi,by rw [node_next hx hi,node_next hy (by omega)]⟩
def StepFits (K N:Nat) (T:List Int) (p q:Nat):Prop :=
 toN K N (p/N) (q/N%K)=q/N∧toN K N (p%N) (q%N%K)=q%N∧labN K T (p/N) (q/N%K)=labN K T (p%N) (q%N%K)
instance (K N:Nat) (T:List Int) (p q:Nat):Decidable (StepFits K N T p q):=by unfold StepFits; exact inferInstance
theorem toN_mod {K R u s:Nat} (_hK:1≤K) (hR:1≤R) (hs:s<K):toN K (pw K (2*R)) u s%K=s:=by
 unfold toN
 have:K ∣ pw K (2*R):=⟨pw K (2*R-1),by rw [Nat.mul_comm K,← pw_succ]; congr 1; omega⟩
 rw [Nat.mod_mod_of_dvd _ this,mod_mk hs]
theorem fits_iff {K R:Nat} {T:List Int} {p q:Nat} (hK:1≤K) (hR:1≤R) (hq:q<pw K (2*R)*pw K (2*R)) :
 StepFits K (pw K (2*R)) T p q↔Arr K (pw K (2*R)) T (p/pw K (2*R)) (p%pw K (2*R)) q:=by
 have hN:=pw_pos (K:=K) (2*R) hK
 constructor
 ·rintro ⟨h1,h2,h3⟩
  exact ⟨_,_,Nat.mod_lt _ (by omega),Nat.mod_lt _ (by omega),h3,by rw [h1,h2,pair_eq]⟩
 ·rintro ⟨s,t,hs,ht,e,rfl⟩
  unfold StepFits
  rw [pair_div (toN_lt (by omega)),pair_mod (toN_lt (by omega)),toN_mod hK hR hs,toN_mod hK hR ht]
  exact ⟨rfl,rfl,e⟩
def alongW (K m:Nat) (F:Nat→Nat) (way:List Nat):List Int:=digs K m (F (way.getD 0 0))++(way.drop 1).map fun p=>((F p%K:Nat):Int)
theorem alongW_len (K m:Nat) (F:Nat→Nat) (way:List Nat):(alongW K m F way).length=m+(way.length-1):=by simp [alongW,digs_length]
theorem alongW_syms {K m:Nat} (hK:1≤K) (F:Nat→Nat) (way:List Nat):Syms K (alongW K m F way):=by
 intro y hy
 rcases List.mem_append.1 hy with hy | hy
 ·exact digs_syms hK _ _ y hy
 ·obtain ⟨p,_,rfl⟩:=List.mem_map.1 hy
  have:=Nat.mod_lt (F p) (show 0<K by omega); omega
theorem alongW_get {K m:Nat} {F:Nat→Nat} {way:List Nat} {i:Nat} (h:i+1<way.length):(alongW K m F way).getD (i+m) 0=((F (way.getD (i+1) 0)%K:Nat):Int):=by
 unfold alongW
 rw [List.getD_eq_getElem?_getD,List.getElem?_append_right (by rw [digs_length]; omega),digs_length,Nat.add_sub_cancel,List.getElem?_map,List.getElem?_drop,Nat.add_comm 1 i]
 rw [List.getElem?_eq_getElem h]
 simp [List.getD,h]
theorem along_node {K m:Nat} (hK:1≤K) {F:Nat→Nat} {way:List Nat} (h0:F (way.getD 0 0)<pw K m) (hs:∀ i,i+1<way.length→toN K (pw K m) (F (way.getD i 0)) (F (way.getD (i+1) 0)%K)=F (way.getD (i+1) 0)) :
 ∀ i,i<way.length→nodeAt K m (alongW K m F way) i=F (way.getD i 0)
 | 0,_=>by
  unfold nodeAt alongW
  rw [List.drop_zero,List.take_append_of_le_length (by rw [digs_length]; omega),List.take_of_length_le (by rw [digs_length]; omega),numW_digs hK _ _ h0]
 | i+1,hi=>by
  have ih:=along_node hK h0 hs i (by omega)
  rw [node_next (alongW_syms hK F way) (by rw [alongW_len]; omega),ih,alongW_get hi,Int.toNat_natCast]
  exact hs i hi
theorem along_word {K R:Nat} (hK:1≤K) (hR:1≤R) {F:Nat→Nat} {x:List Int} (hx:Syms K x) (hl:2*R≤x.length) {way:List Nat} (hw:way.length=x.length-2*R+1)
 (hF:∀ i,i<way.length→F (way.getD i 0)=nodeAt K (2*R) x i):alongW K (2*R) F way=x:=by
 have hN:=pw_pos (K:=K) (2*R) hK
 refine List.ext_getElem (by rw [alongW_len]; omega) fun i h1 h2=>?_
 by_cases hi:i<2*R
 ·have e:digs K (2*R) (F (way.getD 0 0))=x.take (2*R):=by
   rw [hF 0 (by omega)]
   have:=digs_numW hK (x.take (2*R)) (syms_take hx _)
   rw [show (x.take (2*R)).length=2*R by simp; omega] at this
   simpa [nodeAt] using this
  simp only [alongW,e]
  rw [List.getElem_append_left (by simp; omega),List.getElem_take]
 ·obtain ⟨j,rfl⟩:∃ j,i=j+2*R:=⟨i-2*R,by omega⟩
  have hj:j+1<way.length:=by omega
  have:=alongW_get (K:=K) (m:=2*R) (F:=F) hj
  rw [hF (j+1) hj,node_next hx (by omega),toN_mod hK hR (syms_at hx (by omega)).2.2] at this
  simp only [List.getD_eq_getElem?_getD,List.getElem?_eq_getElem h1,List.getElem?_eq_getElem h2,Option.getD_some] at this
  rw [this]
  have:=(hx (x[j+2*R]) (List.getElem_mem _)).1
  omega
structure IsTwins (K R:Nat) (T a b:List Int):Prop where
 sa:Syms K a
 sb:Syms K b
 len:a.length=b.length
 ne:a≠b
 low:2*R≤a.length
 front:a.take (2*R)=b.take (2*R)
 back:a.drop (a.length-2*R)=b.drop (b.length-2*R)
 img:imgP K R T a=imgP K R T b
theorem IsTwins.symm {K R:Nat} {T a b:List Int} (h:IsTwins K R T a b):IsTwins K R T b a :=
 ⟨h.sb,h.sa,h.len.symm,h.ne.symm,by rw [← h.len]; exact h.low,h.front.symm,h.back.symm,h.img.symm⟩
def Diag (N p:Nat):Prop:=p/N=p%N
instance (N p:Nat):Decidable (Diag N p):=by unfold Diag; exact inferInstance
theorem diag_mk {N u:Nat} (h:u<N):Diag N (u*N+u):=by unfold Diag; rw [pair_div h,pair_mod h]
theorem Diag.eq {N p:Nat} (h:Diag N p):p=p/N*N+p/N:=by
 have:=pair_eq p N
 rw [← h] at this; exact this.symm
structure ApartWay (N:Nat) (adj:Nat→List Nat) (w:List Nat):Prop where
 len:3≤w.length
 low:∀ i,i<w.length→w.getD i 0<N*N
 arr:∀ i,i+1<w.length→w.getD (i+1) 0∈adj (w.getD i 0)
 fst:Diag N (w.getD 0 0)
 lst:Diag N (w.getD (w.length-1) 0)
 inn:∀ i,0<i→i+1<w.length→¬ Diag N (w.getD i 0)
theorem last_diag {N:Nat} {W:Nat→Nat} (h0:Diag N (W 0)):∀ i,¬ Diag N (W i)→∃ k,k<i∧Diag N (W k)∧∀ j,k<j→j≤i→¬ Diag N (W j)
 | 0,h=>absurd h0 h
 | i+1,h=>by
  by_cases q:Diag N (W i)
  ·exact ⟨i,by omega,q,fun j h1 h2=>by obtain rfl:j=i+1:=by omega
                                       exact h⟩
  ·obtain ⟨k,h1,h2,h3⟩:=last_diag h0 i q
   refine ⟨k,by omega,h2,fun j h4 h5=>?_⟩
   by_cases e:j=i+1
   ·subst e; exact h
   ·exact h3 j h4 (by omega)
theorem next_diag {N:Nat} {W:Nat→Nat} {i:Nat} (h:¬ Diag N (W i)):∀ k,Diag N (W (i+k))→∃ m,i<m∧m≤i+k∧Diag N (W m)∧∀ j,i≤j→j<m→¬ Diag N (W j)
 | 0,hk=>absurd hk h
 | k+1,hk=>by
  by_cases q:∃ m,i<m∧m≤i+k∧Diag N (W m)∧∀ j,i≤j→j<m→¬ Diag N (W j)
  ·obtain ⟨m,h1,h2,h3⟩:=q
   exact ⟨m,h1,by omega,h3⟩
  ·refine ⟨i+(k+1),by omega,Nat.le_refl _,hk,fun j h1 h2 hd=>q ?_⟩
   obtain ⟨d,rfl⟩:∃ d,j=i+d:=⟨j-i,by omega⟩
   obtain ⟨m,m1,m2,m3⟩:=next_diag h d hd
   exact ⟨m,m1,by omega,m3⟩
theorem list_range_get (f:Nat→Nat) (n i:Nat) (h:i<n):((List.range n).map f).getD i 0=f i:=by simp [List.getD,h]
theorem IsTwins.way {K R:Nat} {T a b:List Int} (hK:1≤K) (hR:1≤R) (h:IsTwins K R T a b):∃ w,ApartWay (pw K (2*R)) (pairL K (pw K (2*R)) T) w∧2*R+(w.length-1)≤a.length:=by
 have hlen:=h.len
 have hlow:=h.low
 have hN:=pw_pos (K:=K) (2*R) hK
 have na:∀ i,i+2*R≤a.length→nodeAt K (2*R) a i<pw K (2*R):=fun i hi=>node_lt h.sa hi
 have nb:∀ i,i+2*R≤a.length→nodeAt K (2*R) b i<pw K (2*R):=fun i hi=>node_lt h.sb (by omega)
 obtain ⟨W,hW⟩:∃ W:Nat→Nat,W=fun i=>nodeAt K (2*R) a i*pw K (2*R)+nodeAt K (2*R) b i:=⟨_,rfl⟩
 have hWi:∀ i,W i=nodeAt K (2*R) a i*pw K (2*R)+nodeAt K (2*R) b i:=fun i=>by rw [hW]
 have dg:∀ i,i+2*R≤a.length→(Diag (pw K (2*R)) (W i)↔nodeAt K (2*R) a i=nodeAt K (2*R) b i):=fun i hi=>by
  unfold Diag; rw [hWi,pair_div (nb i hi),pair_mod (nb i hi)]
 have d0:Diag (pw K (2*R)) (W 0):=by
  rw [dg 0 (by omega)]; unfold nodeAt; rw [List.drop_zero,List.drop_zero,h.front]
 obtain ⟨n,hn⟩:∃ n,a.length=n+2*R:=⟨a.length-2*R,by omega⟩
 have dn:Diag (pw K (2*R)) (W n):=by
  rw [dg n (by omega)]; unfold nodeAt
  have:=h.back
  rw [← hlen,hn,Nat.add_sub_cancel] at this
  rw [this]
 have hex:∃ i,i≤n∧¬ Diag (pw K (2*R)) (W i):=by
  apply Classical.byContradiction
  intro hno
  have hall:∀ i,i≤n→nodeAt K (2*R) a i=nodeAt K (2*R) b i:=fun i hi=>(dg i (by omega)).1 (Classical.byContradiction fun q=>hno ⟨i,hi,q⟩)
  apply h.ne
  have hget:∀ i,i<n+1→((List.range (n+1)).map (nodeAt K (2*R) a)).getD i 0=nodeAt K (2*R) a i:=fun i hi=>list_range_get _ _ _ hi
  have e1:=along_word (F:=id) (way:=(List.range (n+1)).map (nodeAt K (2*R) a)) hK hR h.sa h.low (by simp; omega) (fun i hi=>hget i (by simpa using hi))
  have e2:=along_word (F:=id) (way:=(List.range (n+1)).map (nodeAt K (2*R) a)) hK hR h.sb (by omega) (by simp; omega) (fun i hi=>by
   have hi:i<n+1:=by simpa using hi
   show ((List.range (n+1)).map (nodeAt K (2*R) a)).getD i 0=_
   rw [hget i hi,hall i (by omega)])
  rw [← e1,e2]
 obtain ⟨i,hi,hnd⟩:=hex
 obtain ⟨k,k1,k2,k3⟩:=last_diag d0 i hnd
 obtain ⟨m,m1,m2,m3,m4⟩:=next_diag hnd (n-i) (by rw [show i+(n-i)=n by omega]; exact dn)
 have hget:∀ j,j<m-k+1→((List.range (m-k+1)).map fun j=>W (k+j)).getD j 0=W (k+j):=fun j hj=>list_range_get _ _ _ hj
 refine ⟨(List.range (m-k+1)).map fun j=>W (k+j),⟨by simp; omega,fun j hj=>?_,fun j hj=>?_,?_,?_,fun j j0 j1=>?_⟩,by simp; omega⟩
 ·rw [hget j (by simpa using hj),hWi]
  have:j<m-k+1:=by simpa using hj
  exact pair_lt (na _ (by omega)) (nb _ (by omega))
 ·have hj:j+1<m-k+1:=by simpa using hj
  rw [hget j (by omega),hget (j+1) hj,mem_pairL (by omega),hWi,hWi,pair_div (nb _ (by omega)),pair_mod (nb _ (by omega)),← Nat.add_assoc]
  exact wayW_arr h.sa h.sb hlen h.img (by omega)
 ·rw [hget 0 (by omega)]; exact k2
 ·rw [List.length_map,List.length_range,Nat.add_sub_cancel,hget _ (by omega),show k+(m-k)=m by omega]; exact m3
 ·have hj:j+1<m-k+1:=by simpa using j1
  rw [hget j (by omega)]
  by_cases q:k+j≤i
  ·exact k3 _ (by omega) q
  ·exact m4 _ (by omega) (by omega)
theorem ways_words {K R:Nat} {T:List Int} {w:List Nat} (hK:1≤K) (hR:1≤R) (hw:1≤w.length) (low:∀ i,i<w.length→w.getD i 0<pw K (2*R)*pw K (2*R))
 (arr:∀ i,i+1<w.length→w.getD (i+1) 0∈pairL K (pw K (2*R)) T (w.getD i 0)) :
 (∀ i,i<w.length→nodeAt K (2*R) (alongW K (2*R) (·/pw K (2*R)) w) i=w.getD i 0/pw K (2*R)∧nodeAt K (2*R) (alongW K (2*R) (·%pw K (2*R)) w) i=w.getD i 0%pw K (2*R)) ∧
 imgP K R T (alongW K (2*R) (·/pw K (2*R)) w)=imgP K R T (alongW K (2*R) (·%pw K (2*R)) w):=by
 have hN:=pw_pos (K:=K) (2*R) hK
 have fits:∀ i,i+1<w.length→StepFits K (pw K (2*R)) T (w.getD i 0) (w.getD (i+1) 0):=fun i hi =>
  (fits_iff hK hR (low _ hi)).2 ((mem_pairL (by omega)).1 (arr i hi))
 have n1:=along_node (K:=K) (m:=2*R) (F:=(·/pw K (2*R))) (way:=w) hK (div_lt_of (low 0 (by omega))) (fun i hi=>(fits i hi).1)
 have n2:=along_node (K:=K) (m:=2*R) (F:=(·%pw K (2*R))) (way:=w) hK (Nat.mod_lt _ (by omega)) (fun i hi=>(fits i hi).2.1)
 refine ⟨fun i hi=>⟨n1 i hi,n2 i hi⟩,?_⟩
 rw [img_eq (by rw [alongW_len,alongW_len])]
 intro i hi
 rw [alongW_len] at hi
 rw [n1 i (by omega),n2 i (by omega),alongW_get (by omega),alongW_get (by omega),Int.toNat_natCast,Int.toNat_natCast]
 exact (fits i (by omega)).2.2
theorem ApartWay.twins {K R:Nat} {T:List Int} {w:List Nat} (hK:1≤K) (hR:1≤R) (h:ApartWay (pw K (2*R)) (pairL K (pw K (2*R)) T) w) :
 IsTwins K R T (alongW K (2*R) (·/pw K (2*R)) w) (alongW K (2*R) (·%pw K (2*R)) w):=by
 have hN:=pw_pos (K:=K) (2*R) hK
 have h3:=h.len
 obtain ⟨hn,hi⟩:=ways_words hK hR (by omega) h.low h.arr
 have la:=alongW_len K (2*R) (·/pw K (2*R)) w
 have lb:=alongW_len K (2*R) (·%pw K (2*R)) w
 have sa:=alongW_syms (m:=2*R) hK (·/pw K (2*R)) w
 have sb:=alongW_syms (m:=2*R) hK (·%pw K (2*R)) w
 generalize alongW K (2*R) (·/pw K (2*R)) w=a at *
 generalize alongW K (2*R) (·%pw K (2*R)) w=b at *
 have same:∀ i,i<w.length→Diag (pw K (2*R)) (w.getD i 0)→(a.drop i).take (2*R)=(b.drop i).take (2*R):=fun i hi hd=>by
  obtain ⟨e1,e2⟩:=hn i hi
  have q1:=digs_numW hK _ (syms_take (syms_drop sa i) (2*R))
  have q2:=digs_numW hK _ (syms_take (syms_drop sb i) (2*R))
  rw [show ((a.drop i).take (2*R)).length=2*R by simp; omega] at q1
  rw [show ((b.drop i).take (2*R)).length=2*R by simp; omega] at q2
  rw [← q1,← q2]
  show digs K (2*R) (nodeAt K (2*R) a i)=digs K (2*R) (nodeAt K (2*R) b i)
  rw [e1,e2,hd]
 refine ⟨sa,sb,by omega,fun e=>?_,by omega,?_,?_,hi⟩
 ·subst e
  obtain ⟨e1,e2⟩:=hn 1 (by omega)
  exact h.inn 1 (by omega) (by omega) (e1.symm.trans e2)
 ·have:=same 0 (by omega) h.fst
  simpa using this
 ·have:=same (w.length-1) (by omega) h.lst
  rw [List.take_of_length_le (by simp; omega),List.take_of_length_le (by simp; omega)] at this
  rw [show a.length-2*R=w.length-1 by omega,show b.length-2*R=w.length-1 by omega]
  exact this
def TwinLen (K R:Nat) (T:List Int) (n:Nat):Prop:=(∃ a b,IsTwins K R T a b∧a.length=n)∧∀ a b,IsTwins K R T a b→n≤a.length
theorem way_twinLen {K R:Nat} {T:List Int} {w:List Nat} (hK:1≤K) (hR:1≤R) (h:ApartWay (pw K (2*R)) (pairL K (pw K (2*R)) T) w)
 (hm:∀ u,ApartWay (pw K (2*R)) (pairL K (pw K (2*R)) T) u→w.length≤u.length):TwinLen K R T (2*R+(w.length-1)):=by
 refine ⟨⟨_,_,h.twins hK hR,alongW_len ..⟩,fun a b hab=>?_⟩
 obtain ⟨u,hu,hl⟩:=hab.way hK hR
 have:=hm u hu
 omega
theorem no_twins {K R:Nat} {T:List Int} (hK:1≤K) (hR:1≤R) (hm:∀ u,¬ ApartWay (pw K (2*R)) (pairL K (pw K (2*R)) T) u) (a b:List Int):¬ IsTwins K R T a b:=fun h=>by
 obtain ⟨u,hu,_⟩:=h.way hK hR
 exact hm u hu
theorem getD_syms {K:Int} {x:List Int} (h:Syms K x) {i:Nat} (hi:i<x.length):0≤x.getD i 0∧x.getD i 0<K:=by
 have e:x.getD i 0=x[i]:=by simp [List.getD,hi]
 rw [e]; exact h _ (List.getElem_mem hi)
open Go.RowKit
set_option maxRecDepth 100000
theorem oneBytes:OneCell 218 5 (.int .u8 0) 1:=⟨by kernel_rfl,by kernel_rfl,rfl,by decide,fun _=>by kernel_rfl⟩
theorem uByte:Tryz.prog.underlying 5=some (.int .u8):=by kernel_rfl
theorem uStr:Tryz.prog.underlying 9=some .string:=by kernel_rfl
def dig8 (xs:List Int):List Int:=xs.map fun x=>48+x
def txtW (xs:List Int):ByteArray:=strOfNums (dig8 xs)
def byteV (xs:List Int):List Value:=(dig8 xs).map (Value.int .u8)
theorem wpl_makeV0 {T E:TypeId} {z:Value} {b:Nat} (oc:OneCell T E z b) {w:World} {ops:Array Oper} {rest:List Oper} {o:Oper} {a:Act} {Q:Exit→Act→World→Prop}
 (hg:o.guard=none) (l c:Operand) (hop:o.op=Op.makeSlice T l c) (n:Nat) (hl:a.eval l=.int .i64 0) (hc:a.eval c=.int .i64 (n:Int)) (hC:n≤100000)
 (hK:∀ v w',OwnV E w.heap.size w' v []→Below w.heap.size w w'→wpList Tryz.prog ops Q rest (a.put o.dst v) w') :
 wpList Tryz.prog ops Q (o::rest) a w:=by
 obtain ⟨i,hi,hz0,hz1,hz2⟩:=info_parts oc.hi
 have hb:=oc.hb
 refine wpList_make_own w hg l c T hop w.heap.size E i z 1 oc.ht hi hz0 hz1 .i64 .i64 n n hl hc rfl (by
  rw [hz2]
  calc b*n≤32*100000:=Nat.mul_le_mul hb hC
   _≤_:=by decide) (by unfold maxLen; omega) (Nat.le_refl _) ?_
 intro w' hown hgrow
 exact hK _ _ hown ((Below.refl _ _).grown hgrow (Nat.le_refl _) (by intro k hk; cases hk))
theorem wpl_appV {T E:TypeId} {z:Value} {b:Nat} (oc:OneCell T E z b) {w:World} {ops:Array Oper} {rest:List Oper} {o:Oper} {a:Act} {Q:Exit→Act→World→Prop} (hgd:o.guard=none) (s x:Operand)
 (ho:o.op=.call { callee:=.builtin .append,args:=#[s,x],argTypes:=#[T,T] })
 (B:Nat) (v:Value) (xs:List Value) (y:Value) (hy:y.oneCell'=true) (hown:OwnV E B w v xs) (hs:a.eval s=v) (hx:a.eval x=.slice (some ⟨w.heap.size,0,none⟩) 1 1)
 (hlen:xs.length<4398046511104) (hB:B≤w.heap.size)
 (h:∀ v' w',OwnV E B w' v' (xs++[y])→Below B w w'→wpList Tryz.prog ops Q rest (a.put o.dst v') w') :
 wpList Tryz.prog ops Q (o::rest) a (w.alloc (.cells #[y] E)):=by
 refine wpList_plain hgd fun K hK=>?_
 obtain ⟨v',w',hr,h2,h3⟩:=run_app oc (w.alloc (.cells #[y] E)) B o.type v _ (hown.alloc _) ⟨w.heap.size,0,none⟩ 1 [y] (by simp) (cell_one_new _ _ _) (by simp [hy]) (by simp; omega) (by simp; omega)
 unfold Oper.wp execOp
 simp only [ho,resolve,invoke,builtin,Sem.run_bind,Sem.run_pure,Result.andThen_ok,List.map_toArray,List.map_cons,List.map_nil,hs,hx]
 rw [show ([y]:List Value).length=1 from rfl] at hr
 rw [hr]
 have hal:∀ row,w.grownBy (w.alloc (.cells #[y] E)) row:=fun row=>World.grownBy_alloc w _ row
 rcases h3 with ⟨_,hg⟩ | ⟨_,hg⟩
 ·exact hK _ _ (h v' w' h2 ((Below.refl _ _).grown ((hal v.ownBlock).trans hg) hB (fun k hk=>(hown.lt k hk).1)))
 ·exact hK _ _ (h v' w' h2 ((Below.refl _ _).grown ((hal none).trans hg) hB (by intro k hk; cases hk)))
theorem byteV_snoc (xs:List Int) (x:Int):byteV (xs++[x])=byteV xs++[.int .u8 (48+x)]:=by simp [byteV,dig8]
theorem conv_bytes (B:Nat) (w:World) (v:Value) (xs:List Int) (h:OwnV 5 B w v (byteV xs)) (h1:1≤xs.length):(convert 218 9 v).run Tryz.prog w=.ok (.string (txtW xs)) w:=by
 have hl:(byteV xs).length=xs.length:=by simp [byteV,dig8]
 rcases h.2 with ⟨rfl,hn⟩ | ⟨g,cap,cur,rfl,hb,hg,hn,hm,hs,ht⟩
 ·omega
 ·refine run_convert_bytes_arg (P:=Tryz.prog) w 218 5 oneBytes.ht uByte g 0 (byteV xs).length cap (dig8 xs) (by simp [dig8,byteV]) (fun i hi=>?_) 9 uStr
  have:=h.at.cell i hi
  rw [valAt_row] at this
  rw [Nat.zero_add,this]
  have hi2:i<xs.length:=by rw [← hl]; exact hi
  simp [byteV,List.getD,dig8,hi2]
end Go.Proofs.YtncpnaoabkjegaaGreatDoor
namespace Go.Proofs.YtncpnaoabkjegaaGreatDoor
def revI (m:Nat):List Int:=if h:m=0 then [] else ((m%10:Nat):Int)::revI (m/10)
termination_by m
decreasing_by omega
theorem revI_zero:revI 0=[]:=by rw [revI]; simp
theorem revI_pos {m:Nat} (h:m≠0):revI m=((m%10:Nat):Int)::revI (m/10):=by rw [revI,dif_neg h]
theorem revI_len (k:Nat):∀ m,m<10 ^ k→(revI m).length≤k:=by
 induction k with
 | zero=>intro m h; have:m=0:=by simpa using h
         subst this; rw [revI_zero]; simp
 | succ k ih =>
  intro m h
  by_cases e:m=0
  ·subst e; rw [revI_zero]; simp
  ·rw [revI_pos e,List.length_cons]
   have:=ih (m/10) (by rw [Nat.pow_succ] at h; omega)
   omega
def numL (n:Int):List Int:=if n=0 then [0] else (if n<0 then [-3] else [])++(revI n.natAbs).reverse
theorem dec_rev (m:Nat):m≠0→Lib.decDigits m=(revI m).reverse.map fun d=>UInt8.ofNat (48+d).toNat:=by
 induction m using Nat.strongRecOn with
 | _ m ih =>
  intro h
  rw [revI_pos h,Lib.decDigits]
  by_cases e:m<10
  ·rw [dif_pos e,show m/10=0 by omega,revI_zero]
   simp only [List.reverse_cons,List.reverse_nil,List.nil_append,List.map_cons,List.map_nil]
   rw [show (48+((m%10:Nat):Int)).toNat=48+m by omega]
  ·rw [dif_neg e,ih (m/10) (by omega) (by omega)]
   simp only [List.reverse_cons,List.map_append,List.map_cons,List.map_nil]
   rw [show (48+((m%10:Nat):Int)).toNat=48+m%10 by omega]
theorem itoa_num (n:Int):(⟨(Lib.itoa n).toArray⟩:ByteArray)=txtW (numL n):=by
 have:Lib.itoa n=(numL n).map fun d=>UInt8.ofNat (48+d).toNat:=by
  unfold Lib.itoa numL
  by_cases h0:n=0
  ·subst h0; rw [if_neg (by decide),if_pos rfl]; exact Lib.decDigits_one (by decide)
  ·rw [if_neg h0]
   by_cases h:n<0
   ·rw [if_pos h,if_pos h,dec_rev _ (by omega)]; rfl
   ·rw [if_neg h,if_neg h,show n.toNat=n.natAbs by omega,dec_rev _ (by omega)]; rfl
 rw [this]
 unfold txtW strOfNums dig8
 rw [List.map_map]; rfl
open Go.RowKit
set_option maxRecDepth 100000
set_option maxHeartbeats 8000000
theorem remN (m:Nat):(-(m:Int)).tmod 10=-((m%10:Nat):Int):=by rw [Int.neg_tmod]; rfl
theorem quoN (m:Nat):(-(m:Int)).tdiv 10=-((m/10:Nat):Int):=by rw [Int.neg_tdiv]; rfl
theorem remP (m:Nat):((m:Nat):Int).tmod 10=((m%10:Nat):Int):=rfl
theorem quoP (m:Nat):((m:Nat):Int).tdiv 10=((m/10:Nat):Int):=rfl
theorem byteV_len (xs:List Int):(byteV xs).length=xs.length:=by simp [byteV,dig8]
def padB (ys:List Int) (i:Nat):List Value:=List.replicate (ys.length-i) (.int .u8 0)++byteV (ys.take i).reverse
theorem padB_len {ys:List Int} {i:Nat} (h:i≤ys.length):(padB ys i).length=ys.length:=by
 unfold padB; rw [List.length_append,List.length_replicate,byteV_len,List.length_reverse,List.length_take]; omega
theorem padB_full (ys:List Int):padB ys ys.length=byteV ys.reverse:=by unfold padB; simp
theorem padB_set {ys:List Int} {i:Nat} (h:i<ys.length):(padB ys i).set (ys.length-1-i) (.int .u8 (48+ys.getD i 0))=padB ys (i+1):=by
 unfold padB
 obtain ⟨k,hk⟩:∃ k,ys.length-i=k+1:=⟨ys.length-i-1,by omega⟩
 rw [hk,show ys.length-1-i=k by omega,show ys.length-(i+1)=k by omega,List.replicate_succ',List.append_assoc,List.set_append_right _ _ (by simp),List.length_replicate,Nat.sub_self]
 rw [show ys.take (i+1)=ys.take i++[ys.getD i 0] by rw [List.take_add_one]; simp [List.getD,h],List.reverse_append]
 obtain ⟨l,hl⟩:∃ l,ys.take i=l:=⟨_,rfl⟩
 rw [hl]
 simp [byteV,dig8]
theorem number_neg (N:Nat) (h1:1≤N) (h2:N≤9223372036854775808) (w:World) :
 Calls Tryz.prog 94 #[.int .i64 (-(N:Int))] w (Ret1 (fun x _=>x=.string (txtW (numL (-(N:Int))))) w):=by
 have hl:=revI_len 19 N (by omega)
 have hl1:1≤(revI N).length:=by rw [revI_pos (by omega)]; simp
 go_enter Tryz.func94,Tryz.ntmps94
 have d0:((-(N:Int))==0)=false:=by simp; omega
 have d1:decide ((-(N:Int))<0)=true:=decide_eq_true (by omega)
 go_wp2_with fail
 go_loopw [0,3] (fun nv ov wr=>∃ (m:Nat) (xs:List Int) (ow:Value),nv=.int .i64 (-(m:Int))∧ow=ov∧m≤9223372036854775808∧revI N=xs++revI m∧OwnV 5 w.heap.size wr ow (byteV xs)∧Below w.heap.size w wr) (fun nv _ _=>(intOf nv).natAbs)
 case atStart=>exact ⟨N,[],_,rfl,rfl,h2,rfl,OwnV.nil _ _ _,Below.refl _ _⟩
 case round =>
  obtain ⟨m,xs,ow,rfl,rfl,hm,hx,hO,hB⟩:=hrel
  obtain ⟨wo,rfl⟩:∃ wo:World,wo=wr:=⟨_,rfl⟩
  have hBs:=hB.size
  by_cases hz:m=0
  ·subst hz
   rw [revI_zero,List.append_nil] at hx
   subst hx
   have hlb:(byteV (revI N)).length<4398046511104:=by rw [byteV_len]; omega
   have hbv:=byteV_snoc (revI N) (-3)
   replace hbv:=Hd hbv
   go_wp2_with (at_builtin; go_loud (refine wpl_appV oneBytes rfl _ _ rfl w.heap.size ow _ (.int .u8 45) rfl hO rfl rfl hlb hBs ?_))
   intro v' w7 ho7 b7
   rw [show Value.int .u8 45=.int .u8 (48+(-3)) from rfl,← hbv.out] at ho7
   clear hO
   obtain ⟨ys,hys⟩:∃ ys,revI N++[-3]=ys:=⟨_,rfl⟩
   have hyr:ys.reverse=numL (-(N:Int)):=by
    rw [← hys]; unfold numL; rw [if_neg (by omega),if_pos (by omega),show (-(N:Int)).natAbs=N by omega]; simp
   have hyl:ys.length≤20∧1≤ys.length:=by rw [← hys]; simp; omega
   rw [hys] at ho7
   have bW:=hB.trans b7
   replace hys:=Hd hys
   replace hB:=Hd hB
   clear hlb
   obtain ⟨ya,yn,yc,rfl⟩:=ho7.shape
   have lY:=ho7.at.len oneBytes
   rw [byteV_len] at lY
   have hY:=ho7.at
   replace hY:=Hd hY
   replace ho7:=Hd ho7
   go_wp2_with (at_make; refine wpl_makeV oneBytes rfl _ _ rfl (ys.length:Int) rfl rfl (by omega) (by omega) ?_)
   intro ov w3 ho3 g3
   have b3:Below w7.heap.size w7 w3:=(Below.refl _ _).grown g3 (Nat.le_refl _) (by intro k hk; cases hk)
   obtain ⟨oa,on,oc,rfl⟩:=ho3.shape
   replace ho3:=Hd ho3
   replace bW:=Hd bW
   go_wp2_with fail
   go_loopw [7] (fun iv wr=>∃ i:Nat,iv=.int .i64 i∧i≤ys.length∧OwnV 5 w7.heap.size wr (.slice oa on oc) (padB ys i)∧Below w7.heap.size w7 wr) (fun iv _=>ys.length-(intOf iv).toNat)
   case atStart=>exact ⟨0,rfl,Nat.zero_le _,by simpa [padB,byteV,dig8] using ho3.out,b3⟩
   case round =>
    obtain ⟨i,rfl,hi,hO,hB2⟩:=hrel
    obtain ⟨wp,rfl⟩:∃ wp:World,wp=wr:=⟨_,rfl⟩
    by_cases hil:i<ys.length
    ·have di:decide ((i:Int)<(ys.length:Int))=true:=decide_eq_true (by omega)
     have hv:=hY.out.below hB2
     have iX:=fun w'=>hv.idx oneBytes i (by rw [byteV_len]; exact hil) w'
     have cX:=hv.cell i (by rw [byteV_len]; exact hil)
     have ex:(byteV ys)[i]'(by rw [byteV_len]; exact hil)=.int .u8 (48+ys.getD i 0):=by simp [byteV,dig8,List.getD,hil]
     rw [ex] at cX
     have hk:ys.length-1-i<(padB ys i).length:=by rw [padB_len hi]; omega
     have iS:∀ w',(Instr.indexAt 218 (.slice oa on oc) (.int .i64 ((ys.length:Int)-1-i))).run Tryz.prog w'=.ok (.pointer (some (valAt (.slice oa on oc) (ys.length-1-i)))) w':=by
      intro w'
      have:=hO.at.idx oneBytes (ys.length-1-i) hk w'
      rwa [show ((ys.length-1-i:Nat):Int)=(ys.length:Int)-1-i by omega] at this
     obtain ⟨x,hxx⟩:∃ x,ys.getD i 0=x:=⟨_,rfl⟩
     have hps:=padB_set hil
     rw [hxx] at cX hps
     obtain ⟨cS,eS⟩:∃ y,wp.cell? (valAt (.slice oa on oc) (ys.length-1-i))=some y:=⟨_,hO.at.cell _ hk⟩
     have fS:=hO.frz _ hk
     have hO2:=hO.set _ hk (.int .u8 (48+x))
     rw [hps] at hO2
     have hB3:=hB2.setCell (hO.blkB _ hk).2 (.int .u8 (48+x))
     obtain ⟨xa,hxa⟩:∃ xa,valAt (.slice ya yn yc) i=xa:=⟨_,rfl⟩
     rw [hxa] at iX cX
     obtain ⟨aS,haS⟩:∃ aS,valAt (.slice oa on oc) (ys.length-1-i)=aS:=⟨_,rfl⟩
     rw [haS] at iS eS fS hO2 hB3
     replace hxx:=Hd hxx
     replace hv:=Hd hv
     replace hps:=Hd hps
     replace hxa:=Hd hxa
     replace haS:=Hd haS
     replace hO2:=Hd hO2
     replace hB3:=Hd hB3
     replace hB2:=Hd hB2
     clear hO hk
     go_wp2
     go_roundw
     case measure=>simp [intOf]; omega
     case rel=>exact ⟨i+1,by go_num,by omega,hO2.out,hB3.out⟩
    ·have di:decide ((i:Int)<(ys.length:Int))=false:=decide_eq_false (by omega)
     obtain rfl:i=ys.length:=by omega
     rw [padB_full] at hO
     have hc:=conv_bytes w7.heap.size wp _ ys.reverse hO (by rw [List.length_reverse]; exact hyl.2)
     rw [hyr] at hc
     have bE:=Below.step bW.out hB2
     replace hO:=Hd hO
     replace hB2:=Hd hB2
     go_wp2
     go_ret
     exact ⟨_,rfl,bE,rfl⟩
  ·have e0:((-(m:Int)) != 0)=true:=by simp; omega
   have e1:=remN m
   have e2:=quoN m
   have hxl:xs.length≤19:=by have:=congrArg List.length hx; rw [List.length_append] at this; omega
   have hlb:(byteV xs).length<4398046511104:=by rw [byteV_len]; omega
   have hbv:=byteV_snoc xs ((m:Int)%10)
   have hx2:revI N=(xs++[(m:Int)%10])++revI (m/10):=by rw [hx,revI_pos hz,List.append_assoc]; rfl
   replace hbv:=Hd hbv
   replace hx2:=Hd hx2
   replace hx:=Hd hx
   by_cases hd:m%10=0
   ·have hd1:(m:Int)%10=0:=by omega
    have hd2:decide (0<(m:Int)%10)=false:=decide_eq_false (by omega)
    have hbv:=byteV_snoc xs 0
    rw [show (48:Int)+0=48 from rfl] at hbv
    have hx2:revI N=(xs++[0])++revI (m/10):=by rw [hx.out,revI_pos hz,hd,List.append_assoc]; rfl
    replace hbv:=Hd hbv
    replace hx2:=Hd hx2
    go_wp2_with (at_builtin; go_loud (refine wpl_appV oneBytes rfl _ _ rfl w.heap.size ow _ (.int .u8 48) rfl hO rfl rfl hlb hBs ?_))
    intro v' w7 ho7 b7
    rw [← hbv.out] at ho7
    obtain ⟨v7a,v7b,v7c,rfl⟩:=ho7.shape
    replace ho7:=Hd ho7
    clear hO
    go_wp2
    go_roundw
    case measure=>simp [intOf]; omega
    case rel=>exact ⟨m/10,xs++[0],_,by go_num,rfl,by omega,hx2.out,ho7.out,hB.trans b7⟩
   ·have hd2:decide (0<(m:Int)%10)=true:=decide_eq_true (by omega)
    have hd3:0<(m:Int)%10:=by omega
    go_wp2_with (at_builtin; go_loud (refine wpl_appV oneBytes rfl _ _ rfl w.heap.size ow _ (.int .u8 (48+(m:Int)%10)) rfl hO rfl rfl hlb hBs ?_))
    intro v' w7 ho7 b7
    rw [← hbv.out] at ho7
    obtain ⟨v7a,v7b,v7c,rfl⟩:=ho7.shape
    replace ho7:=Hd ho7
    clear hO
    go_wp2
    go_roundw
    case measure=>simp [intOf]; omega
    case rel=>exact ⟨m/10,xs++[(m:Int)%10],_,by go_num,rfl,by omega,hx2.out,ho7.out,hB.trans b7⟩
theorem number_pos (N:Nat) (h1:1≤N) (h2:N≤9223372036854775807) (w:World) :
 Calls Tryz.prog 94 #[.int .i64 (N:Int)] w (Ret1 (fun x _=>x=.string (txtW (numL (N:Int)))) w):=by
 have hl:=revI_len 19 N (by omega)
 have hl1:1≤(revI N).length:=by rw [revI_pos (by omega)]; simp
 go_enter Tryz.func94,Tryz.ntmps94
 have d0:((N:Int)==0)=false:=by simp; omega
 have d1:decide ((N:Int)<0)=false:=decide_eq_false (by omega)
 go_wp2_with fail
 go_loopw [0,3] (fun nv ov wr=>∃ (m:Nat) (xs:List Int) (ow:Value),nv=.int .i64 (m:Int)∧ow=ov∧m≤9223372036854775807∧revI N=xs++revI m∧OwnV 5 w.heap.size wr ow (byteV xs)∧Below w.heap.size w wr) (fun nv _ _=>(intOf nv).natAbs)
 case atStart=>exact ⟨N,[],_,rfl,rfl,h2,rfl,OwnV.nil _ _ _,Below.refl _ _⟩
 case round =>
  obtain ⟨m,xs,ow,rfl,rfl,hm,hx,hO,hB⟩:=hrel
  obtain ⟨wo,rfl⟩:∃ wo:World,wo=wr:=⟨_,rfl⟩
  have hBs:=hB.size
  by_cases hz:m=0
  ·subst hz
   rw [revI_zero,List.append_nil] at hx
   subst hx
   have hlb:(byteV (revI N)).length<4398046511104:=by rw [byteV_len]; omega
   obtain ⟨w7,rfl⟩:∃ w7:World,w7=wo:=⟨_,rfl⟩
   obtain ⟨ys,hys⟩:∃ ys,revI N=ys:=⟨_,rfl⟩
   have hyr:ys.reverse=numL (N:Int):=by
    rw [← hys]; unfold numL; rw [if_neg (by omega),if_neg (by omega),show (N:Int).natAbs=N by omega]; simp
   have hyl:ys.length≤20∧1≤ys.length:=by rw [← hys]; omega
   rw [hys] at hO
   have ho7:=hO
   have bW:=hB
   clear hO
   replace hys:=Hd hys
   replace hB:=Hd hB
   clear hlb
   obtain ⟨ya,yn,yc,rfl⟩:=ho7.shape
   have lY:=ho7.at.len oneBytes
   rw [byteV_len] at lY
   have hY:=ho7.at
   replace hY:=Hd hY
   replace ho7:=Hd ho7
   go_wp2_with (at_make; refine wpl_makeV oneBytes rfl _ _ rfl (ys.length:Int) rfl rfl (by omega) (by omega) ?_)
   intro ov w3 ho3 g3
   have b3:Below w7.heap.size w7 w3:=(Below.refl _ _).grown g3 (Nat.le_refl _) (by intro k hk; cases hk)
   obtain ⟨oa,on,oc,rfl⟩:=ho3.shape
   replace ho3:=Hd ho3
   replace bW:=Hd bW
   go_wp2_with fail
   go_loopw [7] (fun iv wr=>∃ i:Nat,iv=.int .i64 i∧i≤ys.length∧OwnV 5 w7.heap.size wr (.slice oa on oc) (padB ys i)∧Below w7.heap.size w7 wr) (fun iv _=>ys.length-(intOf iv).toNat)
   case atStart=>exact ⟨0,rfl,Nat.zero_le _,by simpa [padB,byteV,dig8] using ho3.out,b3⟩
   case round =>
    obtain ⟨i,rfl,hi,hO,hB2⟩:=hrel
    obtain ⟨wp,rfl⟩:∃ wp:World,wp=wr:=⟨_,rfl⟩
    by_cases hil:i<ys.length
    ·have di:decide ((i:Int)<(ys.length:Int))=true:=decide_eq_true (by omega)
     have hv:=hY.out.below hB2
     have iX:=fun w'=>hv.idx oneBytes i (by rw [byteV_len]; exact hil) w'
     have cX:=hv.cell i (by rw [byteV_len]; exact hil)
     have ex:(byteV ys)[i]'(by rw [byteV_len]; exact hil)=.int .u8 (48+ys.getD i 0):=by simp [byteV,dig8,List.getD,hil]
     rw [ex] at cX
     have hk:ys.length-1-i<(padB ys i).length:=by rw [padB_len hi]; omega
     have iS:∀ w',(Instr.indexAt 218 (.slice oa on oc) (.int .i64 ((ys.length:Int)-1-i))).run Tryz.prog w'=.ok (.pointer (some (valAt (.slice oa on oc) (ys.length-1-i)))) w':=by
      intro w'
      have:=hO.at.idx oneBytes (ys.length-1-i) hk w'
      rwa [show ((ys.length-1-i:Nat):Int)=(ys.length:Int)-1-i by omega] at this
     obtain ⟨x,hxx⟩:∃ x,ys.getD i 0=x:=⟨_,rfl⟩
     have hps:=padB_set hil
     rw [hxx] at cX hps
     obtain ⟨cS,eS⟩:∃ y,wp.cell? (valAt (.slice oa on oc) (ys.length-1-i))=some y:=⟨_,hO.at.cell _ hk⟩
     have fS:=hO.frz _ hk
     have hO2:=hO.set _ hk (.int .u8 (48+x))
     rw [hps] at hO2
     have hB3:=hB2.setCell (hO.blkB _ hk).2 (.int .u8 (48+x))
     obtain ⟨xa,hxa⟩:∃ xa,valAt (.slice ya yn yc) i=xa:=⟨_,rfl⟩
     rw [hxa] at iX cX
     obtain ⟨aS,haS⟩:∃ aS,valAt (.slice oa on oc) (ys.length-1-i)=aS:=⟨_,rfl⟩
     rw [haS] at iS eS fS hO2 hB3
     replace hxx:=Hd hxx
     replace hv:=Hd hv
     replace hps:=Hd hps
     replace hxa:=Hd hxa
     replace haS:=Hd haS
     replace hO2:=Hd hO2
     replace hB3:=Hd hB3
     replace hB2:=Hd hB2
     clear hO hk
     go_wp2
     go_roundw
     case measure=>simp [intOf]; omega
     case rel=>exact ⟨i+1,by go_num,by omega,hO2.out,hB3.out⟩
    ·have di:decide ((i:Int)<(ys.length:Int))=false:=decide_eq_false (by omega)
     obtain rfl:i=ys.length:=by omega
     rw [padB_full] at hO
     have hc:=conv_bytes w7.heap.size wp _ ys.reverse hO (by rw [List.length_reverse]; exact hyl.2)
     rw [hyr] at hc
     have bE:=Below.step bW.out hB2
     replace hO:=Hd hO
     replace hB2:=Hd hB2
     go_wp2
     go_ret
     exact ⟨_,rfl,bE,rfl⟩
  ·have e0:((m:Int) != 0)=true:=by simp; omega
   have e1:=remP m
   have e2:=quoP m
   have hxl:xs.length≤19:=by have:=congrArg List.length hx; rw [List.length_append] at this; omega
   have hlb:(byteV xs).length<4398046511104:=by rw [byteV_len]; omega
   have hbv:=byteV_snoc xs ((m:Int)%10)
   have hx2:revI N=(xs++[(m:Int)%10])++revI (m/10):=by rw [hx,revI_pos hz,List.append_assoc]; rfl
   replace hbv:=Hd hbv
   replace hx2:=Hd hx2
   replace hx:=Hd hx
   have hd2:decide ((m:Int)%10<0)=false:=decide_eq_false (by omega)
   go_wp2_with (at_builtin; go_loud (refine wpl_appV oneBytes rfl _ _ rfl w.heap.size ow _ (.int .u8 (48+(m:Int)%10)) rfl hO rfl rfl hlb hBs ?_))
   intro v' w7 ho7 b7
   rw [← hbv.out] at ho7
   obtain ⟨v7a,v7b,v7c,rfl⟩:=ho7.shape
   replace ho7:=Hd ho7
   clear hO
   go_wp2
   go_roundw
   case measure=>simp [intOf]; omega
   case rel=>exact ⟨m/10,xs++[(m:Int)%10],_,by go_num,rfl,by omega,hx2.out,ho7.out,hB.trans b7⟩
theorem number_any (n:Int) (h0:-9223372036854775808≤n) (h1:n≤9223372036854775807) (w:World) :
 Calls Tryz.prog 94 #[.int .i64 n] w (Ret1 (fun x _=>x=.string ⟨(Lib.itoa n).toArray⟩) w):=by
 rw [itoa_num]
 rcases Int.lt_trichotomy n 0 with h | h | h
 ·obtain ⟨N,rfl⟩:∃ N:Nat,n=-(N:Int):=⟨n.natAbs,by omega⟩
  exact number_neg N (by omega) (by omega) w
 ·subst h
  go_enter Tryz.func94,Tryz.ntmps94
  go_wp2
  go_ret
  exact ⟨_,rfl,Below.refl _ _,rfl⟩
 ·obtain ⟨N,rfl⟩:∃ N:Nat,n=(N:Int):=⟨n.natAbs,by omega⟩
  exact number_pos N (by omega) (by omega) w
def comB (xs:List Int):List UInt8:=Lib.join (xs.map Lib.itoa) [44]
def listB (xs:List Int):List UInt8:=if xs=[] then [45] else comB xs
theorem tail_snoc (sep x:List UInt8) (r:List (List UInt8)):Lib.joinTail sep (r++[x])=Lib.joinTail sep r++(sep++x):=by simp [Lib.joinTail]
theorem comB_one (x:Int):comB [x]=Lib.itoa x:=by unfold comB; exact Lib.join_one _ _
theorem comB_snoc (x y:Int) (xs:List Int):comB (x::xs++[y])=comB (x::xs)++([44]++Lib.itoa y):=by
 unfold comB
 rw [List.map_append,List.map_cons,List.map_cons,List.map_nil,List.cons_append,Lib.join_cons,Lib.join_cons,tail_snoc,List.append_assoc]
def OkNums (xs:List Int):Prop:=∀ x∈xs,-9223372036854775808≤x∧x≤9223372036854775807
theorem tail_len:∀ (xs:List Int),OkNums xs→(Lib.joinTail [44] (xs.map Lib.itoa)).length≤22*xs.length
 | [],_=>by simp [Lib.joinTail]
 | a::l,h=>by
  have ih:=tail_len l fun x hx=>h x (by simp [hx])
  have ha:=h a (by simp)
  have:=Lib.itoa_length_le a ha.1 ha.2
  simp [Lib.joinTail] at ih ⊢
  omega
theorem comB_len:∀ (xs:List Int),OkNums xs→(comB xs).length≤22*xs.length
 | [],_=>by simp [comB,Lib.join]
 | a::l,h=>by
  have ih:=tail_len l fun x hx=>h x (by simp [hx])
  have ha:=h a (by simp)
  have:=Lib.itoa_length_le a ha.1 ha.2
  unfold comB
  rw [List.map_cons,Lib.join_cons,List.length_append,List.length_cons]
  omega
theorem add_bytes (a b:List UInt8):(⟨a.toArray⟩:ByteArray)++⟨b.toArray⟩=⟨(a++b).toArray⟩:=by
 apply ByteArray.ext; simp
theorem list26 (v:Value) (xs:List Int) (w:World) (h:IntsAt w v xs) (hb:OkNums xs) (hl:xs.length≤1048576) :
 Calls Tryz.prog 92 #[v] w (Ret1 (fun x _=>x=.string ⟨(listB xs).toArray⟩) w):=by
 have l1:=h.len
 obtain ⟨va,vn,vc,rfl⟩:=h.shape
 replace h:=Hd h
 replace hb:=Hd hb
 by_cases hne:xs=[]
 ·subst hne
  go_enter Tryz.func92,Tryz.ntmps92
  go_wp2
  go_ret
  exact ⟨_,rfl,Below.refl _ _,rfl⟩
 ·have hp:1≤xs.length:=by cases xs with
   | nil=>exact absurd rfl hne
   | cons a l=>simp
  have i0:∀ w',(Instr.indexAt 22 (.slice va vn vc) (.int .i64 0)).run Tryz.prog w'=.ok (.pointer (some (valAt (.slice va vn vc) 0))) w':=fun w'=>h.out.idx 0 hp w'
  have c0:=h.out.cellD 0 hp
  obtain ⟨xa,hxa⟩:∃ xa,valAt (.slice va vn vc) 0=xa:=⟨_,rfl⟩
  rw [hxa] at i0 c0
  replace hxa:=Hd hxa
  have d0:((xs.length:Int)==0)=false:=by simp; exact hne
  have b0:=hb.out (xs.getD 0 0) (by cases xs with
   | nil=>exact absurd rfl hne
   | cons a l=>simp)
  have hT1:xs.take 1=[xs.getD 0 0]:=by cases xs with
   | nil=>exact absurd rfl hne
   | cons a l=>simp
  obtain ⟨x0,hx0⟩:∃ x0,xs.getD 0 0=x0:=⟨_,rfl⟩
  rw [hx0] at c0 b0 hT1
  have hlB:listB xs=comB xs:=by unfold listB; rw [if_neg hne]
  rw [hlB]
  replace hne:=Hd hne
  replace hT1:=Hd hT1
  replace hx0:=Hd hx0
  replace hlB:=Hd hlB
  go_enter Tryz.func92,Tryz.ntmps92
  go_wp2_with fail
  refine (number_any x0 b0.1 b0.2 _).mono ?_
  rintro e w1 ⟨_,rfl,b1,rfl⟩
  go_wp2_with fail
  go_loopw [3,4] (fun sv iv wr=>∃ i:Nat,iv=.int .i64 i∧1≤i∧i≤xs.length∧sv=.string ⟨(comB (xs.take i)).toArray⟩∧Below w.heap.size w wr) (fun _ iv _=>xs.length-(intOf iv).toNat)
  case atStart=>exact ⟨1,rfl,by omega,hp,by rw [hT1.out,comB_one],b1⟩
  case round =>
   obtain ⟨i,rfl,hi1,hi,rfl,hB⟩:=hrel
   obtain ⟨wo,rfl⟩:∃ wo:World,wo=wr:=⟨_,rfl⟩
   by_cases hil:i<xs.length
   ·have di:decide ((i:Int)<(xs.length:Int))=true:=decide_eq_true (by omega)
    have hv:=h.out.below hB
    have iX:=fun w'=>hv.idx i hil w'
    have cX:=hv.cellD i hil
    have bx:=hb.out xs[i] (by simp)
    have ex:xs.getD i 0=xs[i]:=by simp [List.getD,hil]
    rw [ex] at cX
    have hs:comB (xs.take (i+1))=comB (xs.take i)++([44]++Lib.itoa xs[i]):=by
     rw [show xs.take (i+1)=xs.take i++[xs[i]] by rw [List.take_add_one]; simp [hil]]
     obtain ⟨a,l,e⟩:∃ a l,xs.take i=a::l:=by
      cases e:xs.take i with
      | nil=>have:=congrArg List.length e; rw [List.length_take,List.length_nil] at this; omega
      | cons a l=>exact ⟨a,l,rfl⟩
     rw [e]; exact comB_snoc _ _ _
    obtain ⟨x,hxx⟩:∃ x,xs[i]=x:=⟨_,rfl⟩
    rw [hxx] at cX bx hs
    obtain ⟨xb,hxb⟩:∃ xb,valAt (.slice va vn vc) i=xb:=⟨_,rfl⟩
    rw [hxb] at iX cX
    obtain ⟨S,hS⟩:∃ S,comB (xs.take i)=S:=⟨_,rfl⟩
    rw [hS] at hs ⊢
    have hSl:S.length≤22*(xs.take i).length:=by rw [← hS]; exact comB_len _ fun y hy=>hb.out y (List.mem_of_mem_take hy)
    rw [List.length_take] at hSl
    have hxl:=Lib.itoa_length_le x bx.1 bx.2
    have hn1:¬ 9223372036854775807<1+(Lib.itoa x).length:=by omega
    have hn2:¬ 9223372036854775807<S.length+(1+(Lib.itoa x).length):=by omega
    replace hs:=Hd hs
    replace hS:=Hd hS
    replace hxx:=Hd hxx
    replace hxb:=Hd hxb
    replace hv:=Hd hv
    go_wp2_with fail
    refine (number_any x bx.1 bx.2 _).mono ?_
    rintro e w1 ⟨_,rfl,b2,rfl⟩
    go_wp2
    go_roundw
    case measure=>simp [intOf]; omega
    case rel=>exact ⟨i+1,by go_num,by omega,by omega,by rw [show (⟨#[44]⟩:ByteArray)=⟨([44]:List UInt8).toArray⟩ from rfl,add_bytes,add_bytes,hs.out],Below.step hB b2⟩
   ·have di:decide ((i:Int)<(xs.length:Int))=false:=decide_eq_false (by omega)
    obtain rfl:i=xs.length:=by omega
    rw [List.take_length]
    go_wp2
    go_ret
    exact ⟨_,rfl,hB,rfl⟩
end Go.Proofs.YtncpnaoabkjegaaGreatDoor
namespace Go.Proofs.YtncpnaoabkjegaaGreatDoor
open Go.RowKit Go.Shelf
set_option maxRecDepth 100000
def Tryz.laysItoa_ren:Go.Shelf.Ren:=⟨fun | 171=>89 | 243=>164 | 246=>208 | 283=>237 | 284=>238 | 285=>239 | 286=>240 | 129=>224 | 317=>254 | 318=>255 | 319=>256 | 320=>257 | 337=>260 | 338=>261 | n=>n,fun | 3=>3 | 9=>9 | 2=>2 | 4=>4 | 171=>298 | 0=>0 | 53=>272 | 37=>218 | 5=>5 | 173=>300 | 212=>315 | 51=>283 | 20=>20 | 213=>316 | 46=>252 | 232=>320 | 233=>321 | n=>n,fun | 17=>13 | 18=>15 | 19=>16 | n=>n⟩
theorem Tryz.laysItoa:Go.Proofs.LaysM.n171 Tryz.prog Tryz.laysItoa_ren:={
 mixed:=by kernel_rfl
 f129:=Tryz.func224.trans (congrArg some (by kernel_rfl))
 f171:=Tryz.func89.trans (congrArg some (by kernel_rfl))
 f243:=Tryz.func164.trans (congrArg some (by kernel_rfl))
 f246:=Tryz.func208.trans (congrArg some (by kernel_rfl))
 f283:=Tryz.func237.trans (congrArg some (by kernel_rfl))
 f284:=Tryz.func238.trans (congrArg some (by kernel_rfl))
 f285:=Tryz.func239.trans (congrArg some (by kernel_rfl))
 f286:=Tryz.func240.trans (congrArg some (by kernel_rfl))
 f317:=Tryz.func254.trans (congrArg some (by kernel_rfl))
 f318:=Tryz.func255.trans (congrArg some (by kernel_rfl))
 f319:=Tryz.func256.trans (congrArg some (by kernel_rfl))
 f320:=Tryz.func257.trans (congrArg some (by kernel_rfl))
 f337:=Tryz.func260.trans (congrArg some (by kernel_rfl))
 f338:=Tryz.func261.trans (congrArg some (by kernel_rfl))
 t0:=Tryz.underlying0
 a0:=Tryz.isAgg0
 z0:=Tryz.sizeOf0
 v0:=Tryz.zeroValue0
 t2:=Tryz.underlying2
 a2:=Tryz.isAgg2
 z2:=Tryz.sizeOf2
 v2:=Tryz.zeroValue2
 t3:=Tryz.underlying3
 a3:=Tryz.isAgg3
 z3:=Tryz.sizeOf3
 v3:=Tryz.zeroValue3
 t4:=Tryz.underlying4
 a4:=Tryz.isAgg4
 z4:=Tryz.sizeOf4
 v4:=Tryz.zeroValue4
 t5:=Tryz.underlying5
 a5:=Tryz.isAgg5
 z5:=Tryz.sizeOf5
 v5:=Tryz.zeroValue5
 t9:=Tryz.underlying9
 a9:=Tryz.isAgg9
 z9:=Tryz.sizeOf9
 v9:=Tryz.zeroValue9
 t20:=Tryz.underlying20
 a20:=Tryz.isAgg20
 z20:=Tryz.sizeOf20
 v20:=Tryz.zeroValue20
 t37:=Tryz.underlying218
 a37:=Tryz.isAgg218
 z37:=Tryz.sizeOf218
 v37:=Tryz.zeroValue218
 t46:=Tryz.underlying252
 a46:=Tryz.isAgg252
 z46:=Tryz.sizeOf252
 v46:=Tryz.zeroValue252
 t51:=Tryz.underlying283
 a51:=Tryz.isAgg283
 z51:=Tryz.sizeOf283
 v51:=Tryz.zeroValue283
 t53:=Tryz.underlying272
 a53:=Tryz.isAgg272
 z53:=Tryz.sizeOf272
 v53:=Tryz.zeroValue272
 t171:=Tryz.underlying298
 a171:=Tryz.isAgg298
 z171:=Tryz.sizeOf298
 v171:=Tryz.zeroValue298
 t173:=Tryz.underlying300
 a173:=Tryz.isAgg300
 z173:=Tryz.sizeOf300
 v173:=Tryz.zeroValue300
 t212:=Tryz.underlying315
 a212:=Tryz.isAgg315
 z212:=Tryz.sizeOf315
 v212:=Tryz.zeroValue315
 t213:=Tryz.underlying316
 a213:=Tryz.isAgg316
 z213:=Tryz.sizeOf316
 t232:=Tryz.underlying320
 a232:=Tryz.isAgg320
 z232:=Tryz.sizeOf320
 v232:=Tryz.zeroValue320
 t233:=Tryz.underlying321
 a233:=Tryz.isAgg321
 z233:=Tryz.sizeOf321
 v233:=Tryz.zeroValue321
 g17:=by kernel_rfl
 g18:=by kernel_rfl
 g19:=by kernel_rfl
 i0:=by kernel_rfl
 i2:=by kernel_rfl
 i3:=by kernel_rfl
 i4:=by kernel_rfl
 i5:=by kernel_rfl
 i9:=by kernel_rfl
 i20:=by kernel_rfl
 i37:=by kernel_rfl
 i46:=by kernel_rfl
 i51:=by kernel_rfl
 i53:=by kernel_rfl
 i171:=by kernel_rfl
 i173:=by kernel_rfl
 i212:=by kernel_rfl
 i232:=by kernel_rfl
 i233:=by kernel_rfl
 m17:=by kernel_rfl
 m18:=by kernel_rfl
 m19:=by kernel_rfl }
def Tryz.laysJoin_ren:Go.Shelf.Ren:=⟨fun | 156=>91 | 165=>165 | 166=>166 | 169=>167 | 240=>209 | 241=>210 | 276=>241 | 277=>242 | n=>n,fun | 31=>52 | 9=>9 | 3=>3 | 4=>4 | 0=>0 | 20=>20 | 72=>220 | 76=>103 | 70=>217 | 37=>218 | 75=>27 | 127=>271 | 164=>153 | 5=>5 | 80=>223 | n=>n,fun | n=>n⟩
theorem Tryz.laysJoin:Go.Proofs.Lays.n156 Tryz.prog Tryz.laysJoin_ren:={
 mixed:=by kernel_rfl
 f156:=Tryz.func91.trans (congrArg some (by kernel_rfl))
 f165:=Tryz.func165.trans (congrArg some (by kernel_rfl))
 f166:=Tryz.func166.trans (congrArg some (by kernel_rfl))
 f169:=Tryz.func167.trans (congrArg some (by kernel_rfl))
 f240:=Tryz.func209.trans (congrArg some (by kernel_rfl))
 f241:=Tryz.func210.trans (congrArg some (by kernel_rfl))
 f276:=Tryz.func241.trans (congrArg some (by kernel_rfl))
 f277:=Tryz.func242.trans (congrArg some (by kernel_rfl))
 t0:=Tryz.underlying0
 a0:=Tryz.isAgg0
 z0:=Tryz.sizeOf0
 v0:=Tryz.zeroValue0
 t3:=Tryz.underlying3
 a3:=Tryz.isAgg3
 z3:=Tryz.sizeOf3
 v3:=Tryz.zeroValue3
 t4:=Tryz.underlying4
 a4:=Tryz.isAgg4
 z4:=Tryz.sizeOf4
 v4:=Tryz.zeroValue4
 t9:=Tryz.underlying9
 a9:=Tryz.isAgg9
 z9:=Tryz.sizeOf9
 v9:=Tryz.zeroValue9
 t20:=Tryz.underlying20
 a20:=Tryz.isAgg20
 z20:=Tryz.sizeOf20
 v20:=Tryz.zeroValue20
 t31:=Tryz.underlying52
 a31:=Tryz.isAgg52
 z31:=Tryz.sizeOf52
 v31:=Tryz.zeroValue52
 t37:=Tryz.underlying218
 a37:=Tryz.isAgg218
 z37:=Tryz.sizeOf218
 v37:=Tryz.zeroValue218
 t70:=Tryz.underlying217
 a70:=Tryz.isAgg217
 z70:=Tryz.sizeOf217
 v70:=Tryz.zeroValue217
 t72:=Tryz.underlying220
 a72:=Tryz.isAgg220
 z72:=Tryz.sizeOf220
 v72:=Tryz.zeroValue220
 t75:=Tryz.underlying27
 a75:=Tryz.isAgg27
 z75:=Tryz.sizeOf27
 v75:=Tryz.zeroValue27
 t76:=Tryz.underlying103
 a76:=Tryz.isAgg103
 z76:=Tryz.sizeOf103
 v76:=Tryz.zeroValue103
 t127:=Tryz.underlying271
 a127:=Tryz.isAgg271
 z127:=Tryz.sizeOf271
 v127:=Tryz.zeroValue271
 t164:=Tryz.underlying153
 a164:=Tryz.isAgg153
 z164:=Tryz.sizeOf153
 v164:=Tryz.zeroValue153 }
theorem builderX:Builder.Extra Tryz.prog Tryz.laysJoin_ren where
 sizeBuilder:=by kernel_rfl
 liesBuilder:=by kernel_rfl
 t5:=Tryz.underlying5
 a5:=Tryz.isAgg5
 z5:=Tryz.sizeOf5
 v5:=Tryz.zeroValue5
 infoByte:=by kernel_rfl
 cellsByte:=by kernel_rfl
 sizeByte:=by kernel_rfl
 neB5:=by decide
def Tabs (w : World) : Prop := Lib.TabIs Tryz.prog w "internal/strconv.uint64pow10" .u64 Lib.pow10Tab
theorem var_below {w w':World} {n:String} {cs:Array Value} (h:w.var? Tryz.prog n=some cs) (hb:Below w.heap.size w w'):w'.var? Tryz.prog n=some cs:=by
 unfold World.var? at h ⊢
 cases hg:Tryz.prog.globalNamed n with
 | none=>rw [hg] at h; cases h
 | some g =>
  rw [hg] at h
  simp only [Option.bind_some] at h ⊢
  have hlt:g<w.heap.size:=by
   rcases Nat.lt_or_ge g w.heap.size with h' | h'
   ·exact h'
   ·rw [Array.getElem?_eq_none h'] at h; cases h
  rw [hb.block g hlt]; exact h
theorem Tabs.below {w w':World} (h:Tabs w) (hb:Below w.heap.size w w'):Tabs w':=var_below h hb
theorem below_lib (w:World) (k:Nat) (os:Array Obj):Below w.heap.size w (Go.Sort.grow (w.drewN k) os) :=
 ⟨rfl,rfl,rfl,by simp [Go.Sort.grow,World.drewN],fun i hk=>by simp [Go.Sort.grow,World.drewN,Array.getElem?_append,hk]⟩
theorem itoa_any (n:Int) (h0:-9223372036854775808≤n) (h1:n≤9223372036854775807) (w:World) (ht:Tabs w) :
 Calls Tryz.prog 89 #[.int .i64 n] w (Ret1 (fun x _=>x=.string ⟨(Lib.itoa n).toArray⟩) w):=by
 refine (Any.strconv_Itoa Tryz.laysItoa n h0 h1 w ht).mono ?_
 rintro e w' ⟨rfl,k,os,rfl⟩
 exact ⟨_,rfl,below_lib _ _ _,rfl⟩
theorem join_any (bk o c:Nat) (xs:List ByteArray) (sep:ByteArray) (w:World)
 (hcells:∀ (j:Nat) x,xs[j]?=some x→w.cell? ⟨bk,o+j,none⟩=some (.string x))
 (hbk:bk<w.heap.size) (hN:xs.length≤140737488355328) (hcap:xs.length≤c)
 (hlen:(Lib.join (xs.map (·.data.toList)) sep.data.toList).length≤140737488355328) :
 Calls Tryz.prog 91 #[.slice (some ⟨bk,o,none⟩) xs.length c,.string sep] w (Ret1 (fun x _=>x=.string ⟨(Lib.join (xs.map (·.data.toList)) sep.data.toList).toArray⟩) w):=by
 refine (Any.strings_Join Tryz.laysJoin builderX bk o c xs sep w hcells hbk hN hcap hlen).mono ?_
 rintro e w' ⟨rfl,hb⟩
 exact ⟨_,rfl,hb,rfl⟩
end Go.Proofs.YtncpnaoabkjegaaGreatDoor
namespace Go.Proofs.YtncpnaoabkjegaaGreatDoor
open Go.RowKit
set_option maxRecDepth 100000
set_option maxHeartbeats 8000000
theorem oneStrsL:OneCell 52 9 (.string ⟨#[]⟩) 16:=⟨by kernel_rfl,by kernel_rfl,rfl,by decide,fun _=>by kernel_rfl⟩
def itS (x:Int):ByteArray:=⟨(Lib.itoa x).toArray⟩
def itV (xs:List Int) (i:Nat):List Value:=((xs.take i).map fun x=>Value.string (itS x))++List.replicate (xs.length-i) (.string ⟨#[]⟩)
theorem itV_len {xs:List Int} {i:Nat} (h:i≤xs.length):(itV xs i).length=xs.length:=by
 unfold itV; rw [List.length_append,List.length_replicate,List.length_map,List.length_take]; omega
theorem itV_full (xs:List Int):itV xs xs.length=xs.map fun x=>Value.string (itS x):=by unfold itV; simp
theorem itV_set {xs:List Int} {i:Nat} (h:i<xs.length):(itV xs i).set i (.string (itS xs[i]))=itV xs (i+1):=by
 unfold itV
 obtain ⟨k,hk⟩:∃ k,xs.length-i=k+1:=⟨xs.length-i-1,by omega⟩
 have hl:((xs.take i).map fun x=>Value.string (itS x)).length=i:=by simp; omega
 rw [hk,show xs.length-(i+1)=k by omega,List.set_append_right _ _ (by omega),hl,Nat.sub_self,List.replicate_succ,List.set_cons_zero]
 rw [show xs.take (i+1)=xs.take i++[xs[i]] by rw [List.take_add_one]; simp [h],List.map_append,List.append_assoc]
 rfl
theorem join_it (xs:List Int):Lib.join ((xs.map itS).map (·.data.toList)) [44]=comB xs:=by
 unfold comB; rw [List.map_map]; congr 1
theorem lab_list (v:Value) (xs:List Int) (w:World) (h:IntsAt w v xs) (hb:OkNums xs) (hl:xs.length≤1048576) (ht:Tabs w) :
 Calls Tryz.prog 87 #[v] w (Ret1 (fun x _=>x=.string ⟨(listB xs).toArray⟩) w):=by
 have l1:=h.len
 obtain ⟨va,vn,vc,rfl⟩:=h.shape
 replace h:=Hd h
 replace hb:=Hd hb
 replace ht:=Hd ht
 by_cases hne:xs=[]
 ·subst hne
  go_enter Tryz.func87,Tryz.ntmps87
  go_wp2
  go_ret
  exact ⟨_,rfl,Below.refl _ _,rfl⟩
 ·have hp:1≤xs.length:=by cases xs with
   | nil=>exact absurd rfl hne
   | cons a l=>simp
  have d0:((xs.length:Int)==0)=false:=by simp; exact hne
  have hlB:listB xs=comB xs:=by unfold listB; rw [if_neg hne]
  rw [hlB]
  have hcl:=comB_len xs hb.out
  replace hne:=Hd hne
  replace hlB:=Hd hlB
  go_enter Tryz.func87,Tryz.ntmps87
  go_wp2_with (at_make; refine wpl_makeV oneStrsL rfl _ _ rfl (xs.length:Int) rfl rfl (by omega) (by omega) ?_)
  intro ov w3 ho3 g3
  have b3:Below w.heap.size w w3:=(Below.refl _ _).grown g3 (Nat.le_refl _) (by intro k hk; cases hk)
  obtain ⟨oa,on,oc,rfl⟩:=ho3.shape
  replace ho3:=Hd ho3
  go_wp2_with fail
  go_loopw [14] (fun iv wr=>∃ i:Nat,iv=.int .i64 i∧i≤xs.length∧OwnV 9 w.heap.size wr (.slice oa on oc) (itV xs i)∧Below w.heap.size w wr) (fun iv _=>xs.length-(intOf iv).toNat)
  case atStart=>exact ⟨0,rfl,Nat.zero_le _,by simpa [itV] using ho3.out,b3⟩
  case round =>
   obtain ⟨i,rfl,hi,hO,hB⟩:=hrel
   obtain ⟨wo,rfl⟩:∃ wo:World,wo=wr:=⟨_,rfl⟩
   by_cases hil:i<xs.length
   ·have di:decide ((i:Int)<(xs.length:Int))=true:=decide_eq_true (by omega)
    have hv:=h.out.below hB
    have iX:=fun w'=>hv.idx i hil w'
    have cX:=hv.cellD i hil
    have bx:=hb.out xs[i] (by simp)
    have ex:xs.getD i 0=xs[i]:=by simp [List.getD,hil]
    rw [ex] at cX
    have hps:=itV_set hil
    have hk:i<(itV xs i).length:=by rw [itV_len hi]; exact hil
    have iS:=fun w'=>hO.at.idx oneStrsL i hk w'
    obtain ⟨x,hxx⟩:∃ x,xs[i]=x:=⟨_,rfl⟩
    rw [hxx] at cX bx hps
    obtain ⟨xb,hxb⟩:∃ xb,valAt (.slice va vn vc) i=xb:=⟨_,rfl⟩
    rw [hxb] at iX cX
    replace hxx:=Hd hxx
    replace hxb:=Hd hxb
    replace hv:=Hd hv
    have hti:=ht.out.below hB
    replace hti:=Hd hti
    go_wp2_with fail
    refine (itoa_any x bx.1 bx.2 _ hti.out).mono ?_
    rintro e w4 ⟨_,rfl,b4,rfl⟩
    have hO4:=hO.below b4
    have hB4:=Below.step hB b4
    obtain ⟨cS,eS⟩:∃ y,w4.cell? (valAt (.slice oa on oc) i)=some y:=⟨_,hO4.at.cell _ hk⟩
    have fS:=hO4.frz _ hk
    have hO2:=hO4.set _ hk (.string (itS x))
    rw [hps] at hO2
    have hB3:=hB4.setCell (hO4.blkB _ hk).2 (.string (itS x))
    obtain ⟨aS,haS⟩:∃ aS,valAt (.slice oa on oc) i=aS:=⟨_,rfl⟩
    rw [haS] at iS eS fS hO2 hB3
    unfold itS at hO2 hB3
    replace haS:=Hd haS
    replace hO2:=Hd hO2
    replace hB3:=Hd hB3
    replace hps:=Hd hps
    replace hB:=Hd hB
    replace hB4:=Hd hB4
    replace b4:=Hd b4
    clear hO hO4 hk
    go_wp2
    go_roundw
    case measure=>simp [intOf]; omega
    case rel=>exact ⟨i+1,by go_num,by omega,hO2.out,hB3.out⟩
   ·have di:decide ((i:Int)<(xs.length:Int))=false:=decide_eq_false (by omega)
    obtain rfl:i=xs.length:=by omega
    rw [itV_full] at hO
    have hat:=hO.at
    have hle:(xs.map fun x=>Value.string (itS x)).length=xs.length:=by simp
    rcases hO.2 with ⟨_,hn⟩ | ⟨g,cap,cur,e,hgb,hg,hn,hm,hs,ht2⟩
    ·omega
    ·cases e
     have hcells:∀ (j:Nat) x,(xs.map itS)[j]?=some x→wo.cell? ⟨g,0+j,none⟩=some (.string x):=by
      intro j x hj
      have hjl:j<xs.length:=by have:=(List.getElem?_eq_some_iff.1 hj).1; simpa using this
      have:=hat.cell j (by rw [hle]; exact hjl)
      rw [valAt_row] at this
      rw [Nat.zero_add,this]
      have hx:itS xs[j]=x:=by simpa [hjl] using hj
      rw [← hx]; simp
     have J:=join_any g 0 oc (xs.map itS) ⟨#[44]⟩ wo hcells (by rcases Nat.lt_or_ge g wo.heap.size with h' | h'; exact h'; rw [Array.getElem?_eq_none h'] at hg; cases hg) (by rw [List.length_map]; omega) (by rw [List.length_map]; omega) (by
      show (Lib.join ((xs.map itS).map (·.data.toList)) [44]).length≤_
      rw [join_it]; omega)
     rw [List.length_map] at J
     rw [show (Lib.join ((xs.map itS).map (·.data.toList)) (⟨#[44]⟩:ByteArray).data.toList)=comB xs from join_it xs] at J
     replace hO:=Hd hO
     replace hcells:=Hd hcells
     replace hat:=Hd hat
     replace hs:=Hd hs
     replace ht2:=Hd ht2
     replace hg:=Hd hg
     replace hm:=Hd hm
     go_wp2_with fail
     refine J.mono ?_
     rintro e w5 ⟨_,rfl,b5,rfl⟩
     have bE:=Below.step hB b5
     clear J
     go_wp2
     go_ret
     exact ⟨_,rfl,bE,rfl⟩
end Go.Proofs.YtncpnaoabkjegaaGreatDoor
namespace Go.Proofs.YtncpnaoabkjegaaGreatDoor
open Go.RowKit
set_option maxRecDepth 100000
def yesB (b:Bool):List UInt8:=if b=true then [121,101,115] else [110,111]
def sidesB (l r:Bool):List UInt8:=if l=true∧r=true then [98,111,116,104] else if l=true then [108,101,102,116] else if r=true then [114,105,103,104,116] else [110,111,110,101]
theorem yes_ref (b:Bool) (w:World) :
 Calls Tryz.prog 93 #[.bool b] w (Ret1 (fun x _=>x=.string ⟨(yesB b).toArray⟩) w):=by
 cases b <;>
 ·go_enter Tryz.func93,Tryz.ntmps93
  go_wp2
  go_ret
  exact ⟨_,rfl,Below.refl _ _,rfl⟩
theorem yes_lab (b:Bool) (w:World) :
 Calls Tryz.prog 88 #[.bool b] w (Ret1 (fun x _=>x=.string ⟨(yesB b).toArray⟩) w):=by
 cases b <;>
 ·go_enter Tryz.func88,Tryz.ntmps88
  go_wp2
  go_ret
  exact ⟨_,rfl,Below.refl _ _,rfl⟩
theorem sides_lab (l r:Bool) (w:World) :
 Calls Tryz.prog 90 #[.bool l,.bool r] w (Ret1 (fun x _=>x=.string ⟨(sidesB l r).toArray⟩) w):=by
 cases l<;>cases r <;>
 ·go_enter Tryz.func90,Tryz.ntmps90
  go_wp2
  go_ret
  exact ⟨_,rfl,Below.refl _ _,rfl⟩
end Go.Proofs.YtncpnaoabkjegaaGreatDoor
namespace Go.Proofs.YtncpnaoabkjegaaGreatDoor
theorem text_eq (kw k ow o aw a fw f iw i sw s pw p:List UInt8) :
 Lib.join [kw++k,ow++o,aw++a,fw++f,iw++i,sw++s,pw++p,[]] [10]=kw++k++(10::ow)++o++(10::aw)++a++(10::fw)++f++(10::iw)++i++(10::sw)++s++(10::pw)++p++[10]:=by
 rw [Lib.join_cons]; simp [Lib.joinTail]
def ontoL (N:Int) (ol:List Int):List UInt8:=if N=1 then [121,101,115] else if N=2 then [110,111,32]++listB ol else [63]
def sumL (Z:Bool) (fl:List Int):List UInt8:=if Z=true then [121,101,115,32]++listB fl else [110,111]
def linesB (k:List UInt8) (N:Int) (ol:List Int) (Y F:Bool) (X:Int) (Z:Bool) (fl:List Int) (L P:Bool):List (List UInt8) :=
 [[107,105,110,100,32]++k,[111,110,116,111,32]++ontoL N ol,[111,110,101,32]++yesB Y,[102,105,110,105,116,101,32]++yesB F,
  [105,110,118,101,114,115,101,32]++Lib.itoa X,[97,100,100,105,116,105,118,101,32]++sumL Z fl,[112,101,114,109,117,116,101,115,32]++sidesB L P,[]]
theorem listB_len {xs:List Int} (h:OkNums xs):(listB xs).length≤22*xs.length+1:=by
 unfold listB
 split
 ·simp
 ·have:=comB_len xs h; omega
open Go.RowKit
structure Row where
 E:TypeId
 size:Nat
 v:Value
 n:Nat
 xs:List Value
def Row.own (B:Nat) (w:World) (r:Row):Prop:=w.ownsRow B r.E r.size r.v r.n r.xs
abbrev Names:=Nat×Nat→Option Row
def Rows (B:Nat) (w:World) (f:Names):Prop :=
 (∀ i r,f i=some r→r.own B w)∧(∀ i j r s,f i=some r→f j=some s→i≠j→r.v.ownBlock=none∨r.v.ownBlock≠s.v.ownBlock)
def upd (f:Names) (i:Nat×Nat) (r:Option Row):Names:=fun j=>if j=i then r else f j
theorem upd_same (f:Names) (i:Nat×Nat) (r:Option Row):upd f i r i=r:=by simp [upd]
theorem upd_ne (f:Names) {i j:Nat×Nat} (r:Option Row) (h:j≠i):upd f i r j=f j:=by simp [upd,h]
theorem Rows.void (B:Nat) (w:World):Rows B w (fun _=>Option.none):=by
 refine ⟨?_,?_⟩
 ·intro i r h; cases h
 ·intro i j r s h; cases h
theorem Rows.below {B:Nat} {w w':World} {f:Names} (h:Rows B w f) (hb:Below w.heap.size w w'):Rows B w' f :=
 ⟨fun i r hi=>by
   have ho:=h.1 i r hi
   refine ⟨ho.1,?_⟩
   rcases ho.2 with h2 | ⟨g,cap,cur,e,hB,hg,rest⟩
   ·exact .inl h2
   ·exact .inr ⟨g,cap,cur,e,hB,by rw [hb.block g (Array.getElem?_eq_some_iff.1 hg).1]; exact hg,rest⟩,h.2⟩
theorem Rows.drop {B:Nat} {w:World} {f:Names} (h:Rows B w f) (i:Nat×Nat):Rows B w (upd f i none) :=
 ⟨fun j r hj=>by
   by_cases e:j=i
   ·subst e; rw [upd_same] at hj; cases hj
   ·rw [upd_ne _ _ e] at hj; exact h.1 j r hj,fun j k r s hj hk hne=>by
   by_cases e:j=i
   ·subst e; rw [upd_same] at hj; cases hj
   by_cases e':k=i
   ·subst e'; rw [upd_same] at hk; cases hk
   rw [upd_ne _ _ e] at hj
   rw [upd_ne _ _ e'] at hk
   exact h.2 j k r s hj hk hne⟩
theorem Rows.lt {B:Nat} {w:World} {f:Names} (h:Rows B w f) {i:Nat×Nat} {r:Row} (hi:f i=some r):∀ k,r.v.ownBlock=some k→B≤k∧k<w.heap.size:=World.ownsRow.lt (h.1 i r hi)
theorem Rows.grown {B:Nat} {w w':World} {f:Names} {i:Nat×Nat} {r r':Row} (h:Rows B w f) (hi:f i=some r) (hg:w.grownBy w' r.v.ownBlock) (ho:r'.own B w') (hb:r'.v.ownBlock=r.v.ownBlock∨∃ k,r'.v.ownBlock=some k∧w.heap.size≤k) :
 Rows B w' (upd f i (some r')):=by
 have far:∀ j s,f j=some s→j≠i→s.v.ownBlock=none∨s.v.ownBlock≠r'.v.ownBlock:=fun j s hj hne=>by
  rcases hb with e | ⟨k,e,hk⟩
  ·rw [e]; exact h.2 j i s r hj hi hne
  ·cases hs:s.v.ownBlock with
   | none=>exact .inl rfl
   | some m =>
    have:=(h.lt hj m hs).2
    right; rw [e]; intro e2; injection e2 with e2; omega
 refine ⟨fun j s hj=>?_,fun j k s t hj hk hne=>?_⟩
 ·by_cases e:j=i
  ·subst e; rw [upd_same] at hj; cases hj; exact ho
  ·rw [upd_ne _ _ e] at hj
   exact World.ownsRow.kept (h.1 j s hj) hg (h.2 j i s r hj hi e)
 ·by_cases e:j=i
  ·subst e
   rw [upd_same] at hj; cases hj
   rw [upd_ne _ _ (Ne.symm hne)] at hk
   rcases far k t hk (Ne.symm hne) with e2 | e2
   ·cases hr:r'.v.ownBlock with
    | none=>exact .inl rfl
    | some m=>right; rw [e2]; simp
   ·exact .inr (Ne.symm e2)
  ·rw [upd_ne _ _ e] at hj
   by_cases e':k=i
   ·subst e'; rw [upd_same] at hk; cases hk
    exact far j s hj e
   ·rw [upd_ne _ _ e'] at hk
    exact h.2 j k s t hj hk hne
theorem Rows.fresh {B:Nat} {w w':World} {f:Names} {i:Nat×Nat} {r':Row} (h:Rows B w f) (hg:w.grownBy w' none) (ho:r'.own B w') (hb:∀ k,r'.v.ownBlock=some k→w.heap.size≤k) :
 Rows B w' (upd f i (some r')):=by
 refine ⟨fun j s hj=>?_,fun j k s t hj hk hne=>?_⟩
 ·by_cases e:j=i
  ·subst e; rw [upd_same] at hj; cases hj; exact ho
  ·rw [upd_ne _ _ e] at hj
   exact World.ownsRow.kept (h.1 j s hj) hg (by cases s.v.ownBlock<;>simp)
 ·by_cases e:j=i
  ·subst e
   rw [upd_same] at hj; cases hj
   rw [upd_ne _ _ (Ne.symm hne)] at hk
   cases hr:r'.v.ownBlock with
   | none=>exact .inl rfl
   | some m =>
    right; intro e2
    have h1:=hb m hr
    have h2:=(h.lt hk m e2.symm).2
    omega
  ·rw [upd_ne _ _ e] at hj
   by_cases e':k=i
   ·subst e'; rw [upd_same] at hk; cases hk
    cases hs:s.v.ownBlock with
    | none=>exact .inl rfl
    | some m =>
     right; intro e2
     have h1:=hb m e2.symm
     have h2:=(h.lt hj m hs).2
     omega
   ·rw [upd_ne _ _ e'] at hk
    exact h.2 j k s t hj hk hne
theorem below_grows {w w':World} (h:Below w.heap.size w w') (row:Option Nat):w.grownBy w' row:=⟨h.os,h.tape,h.output,h.size,fun k hk _=>h.block k hk⟩
theorem grown_any {w w':World} (h:w.grownBy w' none) (row:Option Nat):w.grownBy w' row:=⟨h.os,h.tape,h.output,h.size,fun k hk _=>h.block k hk (by simp)⟩
theorem Rows.add {B:Nat} {w w':World} {f:Names} {i:Nat×Nat} {r':Row} (h:Rows B w f) (hb:Below w.heap.size w w') (ho:r'.own B w') (hn:∀ k,r'.v.ownBlock=some k→w.heap.size≤k):Rows B w' (upd f i (some r')) :=
 h.fresh (below_grows hb none) ho hn
theorem Rows.move {B:Nat} {w:World} {f:Names} {i j:Nat×Nat} {r r':Row} (h:Rows B w f) (hi:f i=some r) (ho:r'.own B w) (hb:r'.v.ownBlock=r.v.ownBlock):Rows B w (upd (upd f i none) j (some r')):=by
 refine ⟨fun k s hk=>?_,fun k l s t hk hl hne=>?_⟩
 ·by_cases e:k=j
  ·subst e; rw [upd_same] at hk; cases hk; exact ho
  ·rw [upd_ne _ _ e] at hk
   exact (h.drop i).1 k s hk
 ·by_cases e:k=j
  ·subst e
   rw [upd_same] at hk; cases hk
   rw [upd_ne _ _ (Ne.symm hne)] at hl
   by_cases e2:l=i
   ·subst e2; rw [upd_same] at hl; cases hl
   ·rw [upd_ne _ _ e2] at hl
    rw [hb]
    exact h.2 i l r t hi hl (Ne.symm e2)
  ·rw [upd_ne _ _ e] at hk
   by_cases e':l=j
   ·subst e'; rw [upd_same] at hl; cases hl
    by_cases e2:k=i
    ·subst e2; rw [upd_same] at hk; cases hk
    ·rw [upd_ne _ _ e2] at hk
     rw [hb]
     exact h.2 k i s r hk hi e2
   ·rw [upd_ne _ _ e'] at hl
    exact (h.drop i).2 k l s t hk hl hne
theorem Row.own.shape {B:Nat} {w:World} {r:Row} (h:r.own B w) (hn:0<r.n):∃ g cap,r.v=.slice (some ⟨g,0,none⟩) r.n cap∧B≤g:=by
 rcases h.2 with ⟨_,h0⟩ | ⟨g,cap,cur,e,hB,_⟩
 ·omega
 ·exact ⟨g,cap,e,hB⟩
theorem Rows.set {B:Nat} {w:World} {f:Names} {i:Nat×Nat} {r:Row} (h:Rows B w f) (hi:f i=some r) {g cap:Nat} (hv:r.v=.slice (some ⟨g,0,none⟩) r.n cap) (k:Nat) (y:Value) :
 Rows B (w.setCell ⟨g,k,none⟩ y) (upd f i (some { r with xs:=r.xs.set k y })):=by
 have ho:=h.1 i r hi
 unfold Row.own at ho
 rw [hv] at ho
 have hs:=World.ownsRow.stored ho k y
 refine h.grown hi (by rw [hv]; exact hs.2) ?_ (.inl rfl)
 unfold Row.own
 rw [hv]
 exact hs.1
theorem Rows.cell {B:Nat} {w:World} {f:Names} {i:Nat×Nat} {r:Row} (h:Rows B w f) (hi:f i=some r) {g cap:Nat} (hv:r.v=.slice (some ⟨g,0,none⟩) r.n cap) (k:Nat) (hk:k<r.n*r.size):w.cell? ⟨g,k,none⟩=r.xs[k]?:=by
 have ho:=h.1 i r hi
 unfold Row.own at ho
 rw [hv] at ho
 exact ho.cellAt k hk
theorem Rows.frozen {B:Nat} {w:World} {f:Names} {i:Nat×Nat} {r:Row} (h:Rows B w f) (hi:f i=some r) {g cap:Nat} (hv:r.v=.slice (some ⟨g,0,none⟩) r.n cap) (k:Nat):w.frozen? ⟨g,k,none⟩=false:=by
 have ho:=h.1 i r hi
 unfold Row.own at ho
 rw [hv] at ho
 exact ho.frozenAt k
theorem Rows.congr {B:Nat} {w:World} {f f':Names} (h:Rows B w f) (e:∀ i,f' i=f i):Rows B w f':=by
 rw [show f'=f from funext e]; exact h
theorem Rows.drew {B:Nat} {w:World} {f:Names} (h:Rows B w f):Rows B w.drew f:=h
theorem Rows.drewN {B:Nat} {w:World} {f:Names} (h:Rows B w f) (n:Nat):Rows B (w.drewN n) f:=h
abbrev rowI (v:Value) (xs:List Int):Row:=⟨3,1,v,xs.length,xs.map (Value.int .i64)⟩
abbrev rowV (E:TypeId) (v:Value) (vs:List Value):Row:=⟨E,1,v,vs.length,vs⟩
theorem Rows.ownI {B:Nat} {w:World} {f:Names} {i:Nat×Nat} {v:Value} {xs:List Int} (h:Rows B w f) (hi:f i=some (rowI v xs)):OwnI B w v xs:=h.1 i _ hi
theorem Rows.ownV {B:Nat} {w:World} {f:Names} {i:Nat×Nat} {E:TypeId} {v:Value} {vs:List Value} (h:Rows B w f) (hi:f i=some (rowV E v vs)):OwnV E B w v vs:=h.1 i _ hi
theorem Rows.setI {B:Nat} {w:World} {f:Names} {i:Nat×Nat} {v:Value} {xs:List Int} (h:Rows B w f) (hi:f i=some (rowI v xs)) (k:Nat) (hk:k<xs.length) (y:Int) :
 Rows B (w.setCell (valAt v k) (.int .i64 y)) (upd f i (some (rowI v (xs.set k y)))):=by
 have ho:=h.ownI hi
 have hs:=ho.set k hk y
 refine h.grown hi ?_ hs (.inl rfl)
 have:=ho.toV.setGrown k (by simpa using hk) (.int .i64 y)
 exact this
theorem Rows.setV {B:Nat} {w:World} {f:Names} {i:Nat×Nat} {E:TypeId} {v:Value} {vs:List Value} (h:Rows B w f) (hi:f i=some (rowV E v vs)) (k:Nat) (hk:k<vs.length) (y:Value) :
 Rows B (w.setCell (valAt v k) y) (upd f i (some (rowV E v (vs.set k y)))):=by
 have ho:=h.ownV hi
 refine h.grown hi (ho.setGrown k hk y) ?_ (.inl rfl)
 have:=ho.set k hk y
 unfold Row.own
 exact this
set_option maxRecDepth 100000
def EAt (w:World) (t:PErr) (v:Value):Prop :=
 match t with
 | none=>v=.agg #[.int .i64 0,.slice none 0 0,.slice none 0 0]
 | some (n,l)=>∃ a1 n1 c1 a2 n2 c2,v=.agg #[.int .i64 n,.slice a1 n1 c1,.slice a2 n2 c2]∧ValsAt w (.slice a1 n1 c1) (l.map fun x=>Value.string x.1)∧IntsAt w (.slice a2 n2 c2) (l.map (·.2))
theorem EAt.below {w w':World} {t:PErr} {v:Value} (h:EAt w t v) (hb:Below w.heap.size w w'):EAt w' t v:=by
 match t,h with
 | none,h=>exact h
 | some (n,l),⟨a1,n1,c1,a2,n2,c2,e,h1,h2⟩=>exact ⟨a1,n1,c1,a2,n2,c2,e,h1.below hb,h2.below hb⟩
def EOwn (B:Nat) (w:World) (t:PErr) (v:Value):Prop :=
 match t with
 | none=>v=.agg #[.int .i64 0,.slice none 0 0,.slice none 0 0]
 | some (n,l)=>∃ a1 n1 c1 a2 n2 c2,v=.agg #[.int .i64 n,.slice a1 n1 c1,.slice a2 n2 c2]∧OwnV 9 B w (.slice a1 n1 c1) (l.map fun x=>Value.string x.1)∧OwnV 3 B w (.slice a2 n2 c2) ((l.map (·.2)).map (Value.int .i64))
theorem OwnV.setBelowBase {E:TypeId} {B:Nat} {w:World} {v:Value} {vs:List Value} (h:OwnV E B w v vs) {a:Addr} (ha:a.block<B) (u:Value):OwnV E B (w.setCell a u) v vs:=ownsRow_setCell_below h ha u
theorem EOwn.at {B:Nat} {w:World} {t:PErr} {v:Value} (h:EOwn B w t v):EAt w t v:=by
 match t,h with
 | none,h=>exact h
 | some (n,l),⟨a1,n1,c1,a2,n2,c2,e,h1,h2⟩=>exact ⟨a1,n1,c1,a2,n2,c2,e,h1.at,OwnI.at (OwnV.toI h2)⟩
theorem EOwn.mono {B B':Nat} {w:World} {t:PErr} {v:Value} (h:EOwn B w t v) (hB:B'≤B):EOwn B' w t v:=by
 match t,h with
 | none,h=>exact h
 | some (n,l),⟨a1,n1,c1,a2,n2,c2,e,h1,h2⟩=>exact ⟨a1,n1,c1,a2,n2,c2,e,h1.mono hB,h2.mono hB⟩
theorem EOwn.below {B:Nat} {w w':World} {t:PErr} {v:Value} (h:EOwn B w t v) (hb:Below w.heap.size w w'):EOwn B w' t v:=by
 match t,h with
 | none,h=>exact h
 | some (n,l),⟨a1,n1,c1,a2,n2,c2,e,h1,h2⟩=>exact ⟨a1,n1,c1,a2,n2,c2,e,h1.below hb,h2.below hb⟩
theorem EOwn.set {B:Nat} {w:World} {t:PErr} {v:Value} (h:EOwn B w t v) {a:Addr} (ha:a.block<B) (u:Value):EOwn B (w.setCell a u) t v:=by
 match t,h with
 | none,h=>exact h
 | some (n,l),⟨a1,n1,c1,a2,n2,c2,e,h1,h2⟩=>exact ⟨a1,n1,c1,a2,n2,c2,e,h1.setBelowBase ha u,h2.setBelowBase ha u⟩
theorem EOwn.set3 {B b:Nat} {w:World} {t:PErr} {v:Value} (h:EOwn B w t v) (hb:b<B) (x y z:Value):EOwn B (((w.setCell ⟨b,0,none⟩ x).setCell ⟨b,1,none⟩ y).setCell ⟨b,2,none⟩ z) t v :=
 ((h.set (a:=⟨b,0,none⟩) hb x).set (a:=⟨b,1,none⟩) hb y).set (a:=⟨b,2,none⟩) hb z
theorem Below.set3 {B b:Nat} {w0 w:World} (h:Below B w0 w) (hb:B≤b) (x y z:Value):Below B w0 (((w.setCell ⟨b,0,none⟩ x).setCell ⟨b,1,none⟩ y).setCell ⟨b,2,none⟩ z) :=
 ((h.setCell (p:=⟨b,0,none⟩) hb x).setCell (p:=⟨b,1,none⟩) hb y).setCell (p:=⟨b,2,none⟩) hb z
theorem OwnV.lit {E:TypeId} (B:Nat) (w:World) (hB:B≤w.heap.size) (x:Value):OwnV E B (w.alloc (.cells #[x] E)) (.slice (some ⟨w.heap.size,0,none⟩) 1 1) [x] :=
 World.ownsRow_lit (base:=B) (e:=E) (size:=1) w #[x] 1 hB (by unfold maxLen; omega) rfl
theorem EAt.shape {w:World} {t:PErr} {v:Value} (h:EAt w t v):∃ n a1 n1 c1 a2 n2 c2,v=.agg #[.int .i64 n,.slice a1 n1 c1,.slice a2 n2 c2]:=by
 match t,h with
 | none,h=>exact ⟨0,none,0,0,none,0,0,h⟩
 | some (n,l),⟨a1,n1,c1,a2,n2,c2,e,_⟩=>exact ⟨n,a1,n1,c1,a2,n2,c2,e⟩
abbrev zErr:Value:=.agg #[.int .i64 0,.slice none 0 0,.slice none 0 0]
theorem EAt.none (w:World):EAt w none zErr:=rfl
theorem ValsAt.alloc {w:World} {v:Value} {vs:List Value} (h:ValsAt w v vs) (o:Obj):ValsAt (w.alloc o) v vs:=h.below ((Below.refl _ _).alloc (Nat.le_refl _) _)
theorem ValsAt.drew {w:World} {v:Value} {vs:List Value} (h:ValsAt w v vs):ValsAt w.drew v vs:=h
theorem ValsAt.split {w:World} {v:Value} {vs:List Value} (h:ValsAt w v vs):(v=.slice none 0 0∧vs=[])∨∃ p cap,v=.slice (some p) vs.length cap∧∀ j u,vs[j]?=some u→w.cell? (p.add j)=some u:=by
 obtain ⟨a,cap,rfl,h1,h2,h3,h4⟩:=h
 cases a with
 | none =>
  obtain rfl:=h3 rfl
  obtain rfl:=List.length_eq_zero_iff.1 (show vs.length=0 by omega)
  exact .inl ⟨rfl,rfl⟩
 | some p =>
  refine .inr ⟨p,cap,rfl,fun j u hj=>?_⟩
  have hjl:j<vs.length:=(List.getElem?_eq_some_iff.1 hj).1
  have:=h4 j hjl
  simp only [valAt] at this
  rw [this,← hj]; simp [hjl]
theorem IntsAt.alloc {w:World} {v:Value} {xs:List Int} (h:IntsAt w v xs) (o:Obj):IntsAt (w.alloc o) v xs:=h.below ((Below.refl _ _).alloc (Nat.le_refl _) _)
theorem EOwn.shape {B:Nat} {w:World} {t:PErr} {v:Value} (h:EOwn B w t v):∃ n a1 n1 c1 a2 n2 c2,v=.agg #[.int .i64 n,.slice a1 n1 c1,.slice a2 n2 c2]:=h.at.shape
theorem below_set3 {B b:Nat} {w0 w:World} (h:Below B w0 w) (hb:B≤b) (x y z:Value):Below B w0 (((w.setCell ⟨b,0,none⟩ x).setCell ⟨b,1,none⟩ y).setCell ⟨b,2,none⟩ z) :=
 ((h.setCell (p:=⟨b,0,none⟩) hb x).setCell (p:=⟨b,1,none⟩) hb y).setCell (p:=⟨b,2,none⟩) hb z
set_option maxHeartbeats 8000000
theorem mul3 {x s:Int} (hx:0≤x∧x<4) (hs:0≤s∧s<4):0≤x*s∧x*s≤9:=by
 obtain ⟨h1,h2⟩:=hx
 obtain ⟨h3,h4⟩:=hs
 have a:x=0∨x=1∨x=2∨x=3:=by omega
 rcases a with rfl | rfl | rfl | rfl<;>omega
theorem sum_any (K:Nat) (v:Value) (f:List Int) (w:World) (h:IntsAt w v f) (hf:Syms K f) (h1:1≤K) (h4:K≤4) (h7:f.length≤7) :
 Calls Tryz.prog 133 #[.int .i64 K,v] w (Ret1 (fun x w'=>∃ a n c,x=.agg #[.int .i64 K,.int .i64 (f.length/2:Nat),.slice a n c]∧OwnI w.heap.size w' (.slice a n c) (sumT K f)) w):=by
 have hl:=h.len
 replace hf:=Hd hf
 have h0:=Hd h
 clear h
 go_enter Tryz.func133,Tryz.ntmps133
 go_wp2
 go_loopw [5,15] (fun t i wr=>∃ k:Nat,k≤f.length∧i=.int .i64 k∧OwnI (w.heap.size+1) wr t (sumT K (f.take k))∧Below (w.heap.size+1) (w.alloc (.cells #[.int .i64 0,.int .i64 0,.slice none 0 0] 24)) wr) (fun _ i _=>f.length-(intOf i).toNat)
 case atStart =>
  refine ⟨0,by omega,rfl,?_,(Below.refl _ _).alloc (by simp) _⟩
  have:=OwnI.lit (w.heap.size+1) (w.alloc (.cells #[.int .i64 0,.int .i64 0,.slice none 0 0] 24)) (by simp) [0] (by decide) #[.int .i64 0] rfl 1 rfl
  simpa [sumT,sumTable] using this
 case round =>
  obtain ⟨k,hk,rfl,hT,hb⟩:=hrel
  by_cases hlt:k<f.length
  ·obtain ⟨wo,rfl⟩:∃ wo:World,wo=wr:=⟨_,rfl⟩
   have hbw:Below w.heap.size w wo:=((Below.refl _ _).alloc (Nat.le_refl _) _).trans (hb.mono (by omega))
   have hfo:=h0.out.below hbw
   have hi:=hfo.idx k hlt
   have hc:=hfo.cell k hlt
   have hxs:=hf.out f[k] (by simp)
   have hTt:=hT.at
   have hTs:Syms K (sumT K (f.take k)):=sumT_syms h1 _
   have hTlen:(sumT K (f.take k)).length≤16384:=by rw [sumT_length]; exact pw_le h1 h4 (by simp; omega)
   have hTe:Hid (sumT K (f.take (k+1))=sumStep K f[k] (sumT K (f.take k))):=by
    show _=_
    rw [take_snoc f k hlt]; exact sumTable_snoc ..
   clear hT
   generalize sumT K (f.take k)=T at hTe hTs hTlen hTt
   generalize f[k]=x at hTe hxs hc
   have hmle:(0:Int)≤(T.length:Int)*(K:Int)∧(T.length:Int)*(K:Int)≤65536:=by
    constructor
    ·exact Int.mul_nonneg (by omega) (by omega)
    ·calc _≤(16384:Int)*4:=Int.mul_le_mul (by omega) (by omega) (by omega) (by omega)
      _=65536:=by decide
   have hTl:=hTt.len
   replace hTs:=Hd hTs
   have hmle1:=hmle.1
   have hmle2:=hmle.2
   clear hmle
   go_wp2_with (at_make; refine wpl_make0 rfl _ _ rfl _ rfl rfl hmle1 (by omega) ?_)
   intro nv w2 hn hb2
   go_wp2
   go_loopw [8,26] (fun n i wr=>∃ j:Nat,j≤T.length∧i=.int .i64 j∧OwnI wo.heap.size wr n (sumStep K x (T.take j))∧Below wo.heap.size wo wr) (fun _ i _=>T.length-(intOf i).toNat)
   case atStart=>exact ⟨0,by omega,rfl,by simpa [sumStep_nil] using hn,hb2⟩
   case round =>
    obtain ⟨j,hj,rfl,hN,hbN⟩:=hrel
    by_cases hjl:j<T.length
    ·obtain ⟨wi,rfl⟩:∃ wi:World,wi=wr:=⟨_,rfl⟩
     have hTi:=hTt.below hbN
     have hi2:=hTi.idx j hjl
     have hc2:=hTi.cell j hjl
     have hys:=hTs.out T[j] (by simp)
     have hTe2:Hid (sumStep K x (T.take (j+1))=sumStep K x (T.take j)++sumRow K x T[j] K):=by
      show _=_
      rw [take_snoc T j hjl,sumStep_snoc]
     have hTl2:(sumStep K x (T.take j)).length≤65536:=by
      rw [sumStep_length]
      have:(T.take j).length≤16384:=by simp; omega
      calc _≤16384*4:=Nat.mul_le_mul this h4
       _=65536:=by decide
     generalize T[j]=y at hTe2 hys hc2
     generalize sumStep K x (T.take j)=N at hTe2 hN hTl2
     go_wp2
     go_loopw [8,31] (fun n i wr=>∃ s:Nat,s≤K∧i=.int .i64 s∧OwnI wo.heap.size wr n (N++sumRow K x y s)∧Below wo.heap.size wo wr) (fun _ i _=>K-(intOf i).toNat)
     case atStart=>exact ⟨0,by omega,rfl,by simpa [sumRow] using hN,hbN⟩
     case round =>
      obtain ⟨s,hs,rfl,hM,hbM⟩:=hrel
      by_cases hsl:s<K
      ·obtain ⟨wj,rfl⟩:∃ wj:World,wj=wr:=⟨_,rfl⟩
       have hb9:=mul3 (x:=x) (s:=s) ⟨hxs.1,by omega⟩ ⟨by omega,by omega⟩
       have hb9a:=hb9.1
       have hb9b:=hb9.2
       clear hb9
       have hse:Hid (N++sumRow K x y (s+1)=(N++sumRow K x y s)++[(y+x*s)%K]):=by
        show _=_
        rw [sumRow_succ,List.append_assoc]
       have hlM:(N++sumRow K x y s).length≤70000:=by simp [sumRow_length]; omega
       generalize N++sumRow K x y s=M at hse hM hlM
       go_wp2_with (at_builtin; refine wpl_append1 rfl _ _ rfl wo.heap.size _ M ((y+x*s)%K) hM rfl rfl (by omega) (hbM.size) ?_)
       intro nv' w3 hM' hb3 _ _
       go_wp2
       go_roundw
       case rel=>exact ⟨s+1,by omega,by go_num,by rw [hse.out]; exact hM',hbM.trans hb3⟩
       case measure=>simp [intOf]; omega
      ·obtain rfl:s=K:=by omega
       go_wp2
       go_roundw
       case rel=>exact ⟨j+1,by omega,by go_num,by rw [hTe2.out]; exact hM,hbM⟩
       case measure=>simp [intOf]; omega
    ·obtain rfl:j=T.length:=by omega
     go_wp2
     go_roundw
     case rel =>
      refine ⟨k+1,by omega,by go_num,?_,hb.trans (hbN.mono (by have:=hb.size; simp at this; omega))⟩
      rw [hTe.out]
      rw [List.take_length] at hN
      exact hN.mono (by have:=hb.size; simp at this; omega)
     case measure=>simp [intOf]; omega
  ·obtain rfl:k=f.length:=by omega
   rw [List.take_length] at hT
   have hlen2:0≤(f.length:Int)/2:=by omega
   have hz0:wr.cell? ⟨w.heap.size,0,none⟩=some (.int .i64 0):=by rw [hb.cell (by simp)]; simp
   have hz1:wr.cell? ⟨w.heap.size,1,none⟩=some (.int .i64 0):=by rw [hb.cell (by simp)]; simp
   have hz2:wr.cell? ⟨w.heap.size,2,none⟩=some (.slice none 0 0):=by rw [hb.cell (by simp)]; simp
   have hf0:wr.frozen? ⟨w.heap.size,0,none⟩=false:=by rw [hb.frozen (by simp)]; simp
   have hf1:wr.frozen? ⟨w.heap.size,1,none⟩=false:=by rw [hb.frozen (by simp)]; simp
   have hf2:wr.frozen? ⟨w.heap.size,2,none⟩=false:=by rw [hb.frozen (by simp)]; simp
   obtain ⟨a,n,c,hv⟩:=hT.at.shape
   rw [hv] at hT ⊢
   clear hv
   go_wp2
   refine bodyPost_end (v:=.agg #[.int .i64 K,.int .i64 (f.length/2),.slice a n c]) (by simp [results,Tryz.results133,go_sem,hz0,hz1,hz2]) rfl ⟨_,rfl,?_,a,n,c,by simp,?_⟩
   ·exact ((((Below.refl _ _).alloc (Nat.le_refl _) _).trans (hb.mono (by omega))).setCell (by simp) _ |>.setCell (by simp) _).setCell (by simp) _
   ·exact (((hT.setBelowBase (by simp) _).setBelowBase (by simp) _).setBelowBase (by simp) _).mono (by omega)
end Go.Proofs.YtncpnaoabkjegaaGreatDoor
namespace Go.Proofs.YtncpnaoabkjegaaGreatDoor
open Go.RowKit
set_option maxRecDepth 100000
theorem ValsAt.shape {w:World} {v:Value} {vs:List Value} (h:ValsAt w v vs):∃ a n c,v=.slice a n c:=by
 obtain ⟨a,cap,e,_⟩:=h; exact ⟨_,_,_,e⟩
theorem cell_keep {w w':World} {b i:Nat} {x:Value} (hb:Below w.heap.size w w') (h:w.cell? ⟨b,i,none⟩=some x):w'.cell? ⟨b,i,none⟩=some x :=
 (hb.cell (p:=⟨b,i,none⟩) (World.block_lt_of_cell? _ _ h)).trans h
def Box3 (w:World) (b:Nat) (x0 x1 x2:Value):Prop:=(w.cell? ⟨b,0,none⟩=some x0∧w.cell? ⟨b,1,none⟩=some x1∧w.cell? ⟨b,2,none⟩=some x2)∧w.frozen? ⟨b,0,none⟩=false∧w.frozen? ⟨b,1,none⟩=false∧w.frozen? ⟨b,2,none⟩=false
theorem Box3.below {w w':World} {b:Nat} {x0 x1 x2:Value} (h:Box3 w b x0 x1 x2) (hb:Below w.heap.size w w'):Box3 w' b x0 x1 x2:=by
 obtain ⟨⟨h0,h1,h2⟩,f0,f1,f2⟩:=h
 have hlt:=World.block_lt_of_cell? _ _ h0
 exact ⟨⟨cell_keep hb h0,cell_keep hb h1,cell_keep hb h2⟩,(hb.frozen (p:=⟨b,0,none⟩) hlt).trans f0,(hb.frozen (p:=⟨b,1,none⟩) hlt).trans f1,(hb.frozen (p:=⟨b,2,none⟩) hlt).trans f2⟩
theorem Box3.alloc {w:World} {b:Nat} {x0 x1 x2:Value} (h:Box3 w b x0 x1 x2) (o:Obj):Box3 (w.alloc o) b x0 x1 x2:=h.below ((Below.refl _ _).alloc (Nat.le_refl _) _)
theorem Box3.drew {w:World} {b:Nat} {x0 x1 x2:Value} (h:Box3 w b x0 x1 x2):Box3 w.drew b x0 x1 x2:=h
theorem OwnV.drew {E:TypeId} {B:Nat} {w:World} {v:Value} {vs:List Value} (h:OwnV E B w v vs):OwnV E B w.drew v vs:=h
theorem Below.stepL {w1 w2 w3:World} (h:Below w1.heap.size w1 w2) (k:Below w2.heap.size w2 w3):Below w1.heap.size w1 w3:=h.trans (k.mono h.size)
theorem belowAlloc' (w:World) (o:Obj):Below w.heap.size w (w.alloc o):=(Below.refl _ _).alloc (Nat.le_refl _) _
end Go.Proofs.YtncpnaoabkjegaaGreatDoor
namespace Go.Proofs.YtncpnaoabkjegaaGreatDoor
open Go.RowKit Go.Extern.Stop Go.Stop Go.Extern
set_option maxRecDepth 100000
set_option maxHeartbeats 8000000
namespace Errs
theorem typeOfE (v:Value) (w:World):(ReflectliteType.typeOf #[.iface 322 v]).run Tryz.prog w=.ok (.iface 239 (.agg #[.pointer (some ⟨17,322,none⟩)])) w:=by kernel_rfl
theorem comparableE (w : World) : ((ReflectliteType.method fun t => do Rtype.noPackHeld "Comparable" t; (fun a => Value.bool a.comparable) <$> typeInfo t) #[.agg #[.pointer (some ⟨17, 322, none⟩)]]).run Tryz.prog w = .ok (.bool true) w := by kernel_rfl
theorem methodComparable (v : Value) (w : World) : (Go.method 452 239 v "Comparable").run Tryz.prog w = .ok (288, v) w := by kernel_rfl
theorem compE:(Tryz.prog.info? 322).map (·.comparable)=some true:=by kernel_rfl
theorem sizeE:(Tryz.prog.info? 340).map (·.size)=some 1:=by kernel_rfl
theorem uErr : Tryz.prog.underlying 27 = some (.interface #[("Error", 223)]) := by kernel_rfl
theorem uES:Tryz.prog.underlying 322=some (.pointer 340):=by kernel_rfl
theorem uIs : Tryz.prog.underlying 258 = some (.interface #[("Is", 260)]) := by kernel_rfl
theorem uUnw : Tryz.prog.underlying 227 = some (.interface #[("Unwrap", 79)]) := by kernel_rfl
theorem noIsF (v:Value) (xT:TypeId) (w:World):(Instr.typeAssert (.iface 119 v) xT 258 true).run Tryz.prog w=.ok (.tuple #[.nilIface,.bool false]) w:=run_typeAssert_lacksB uIs (by kernel_rfl) (by kernel_rfl) v xT w
theorem hasUnwrapF (v:Value) (xT:TypeId) (w:World):(Instr.typeAssert (.iface 119 v) xT 227 true).run Tryz.prog w=.ok (.tuple #[.iface 119 v,.bool true]) w:=run_typeAssert_hasB uUnw (by kernel_rfl) v xT w
theorem methodUnwrap (v : Value) (w : World) : (Go.method 452 119 v "Unwrap").run Tryz.prog w = .ok (281, v) w := by kernel_rfl
theorem unwrap_any (p:Nat) (u:Value) (w:World) (h:w.cell? ⟨p,2,none⟩=some u) :
 Calls Tryz.prog 281 #[.pointer (some ⟨p,0,none⟩)] w fun e w'=>e=.returned u∧w=w':=by
 go_enter Tryz.func281,Tryz.ntmps281
 go_wp2
 go_ret
 exact ⟨rfl,rfl⟩
theorem is_loop (r:Nat→Addr) (n:Int) (l:List (ByteArray×Int)) (v:Value) (w:World) (h:ErrAt r w n l v) :
 Calls Tryz.prog 138 #[v,rootV r n,.bool true] w fun e w'=>e=.returned (.bool true)∧w=w':=by
 obtain ⟨i,hi,hcmp⟩:=Option.map_eq_some_iff.1 compE
 obtain ⟨j,hj,hjs⟩:=Option.map_eq_some_iff.1 sizeE
 have heq:=run_eql_iface_ptr_same (P:=Tryz.prog) w (r n.toNat) uErr uES hi hcmp hj
 have nF:=noIsF
 have uF:=hasUnwrapF
 have mU:=methodUnwrap
 clear hi hcmp hj hjs
 replace h:=Hd h
 go_enter Tryz.func138,Tryz.ntmps138
 go_wp2
 go_loopg [0] l.length (fun k u wr=>wr=w∧∃ l',l'.length=k∧ErrAt r w n l' u)
 case atStart=>exact ⟨rfl,l,rfl,h.out⟩
 case round =>
  obtain ⟨rfl,l',hl',hu⟩:=hrel
  match l',hl',hu with
  | [],hl',hu =>
   obtain rfl:_=rootV r n:=hu
   clear hl'
   go_wp2
   go_ret
   exact ⟨rfl,rfl⟩
  | (op,at_)::rest,hl',hu =>
   obtain ⟨p,u',rfl,c0,c1,c2,hrest⟩:=hu
   obtain ⟨T,a,rfl⟩:=hrest.shape
   have hty:=run_eql_iface_types (P:=Tryz.prog) 119 322 (.pointer (some ⟨p,0,none⟩)) (.pointer (some (r n.toNat))) uErr (by decide) wr
   replace hrest:=Hd hrest
   replace hl':=Hd hl'
   go_wp2_with (go_at_call 281; refine (unwrap_any p _ _ c2).mono ?_; rintro e w' ⟨rfl,rfl⟩)
   go_roundg rest.length
   case measure=>have:=hl'.out; simp at this; omega
   case rel=>exact ⟨rfl,rest,rfl,hrest.out⟩
theorem is_any (r:Nat→Addr) (n:Int) (l:List (ByteArray×Int)) (v:Value) (w:World) (h:ErrAt r w n l v) :
 Calls Tryz.prog 61 #[v,rootV r n] w fun e w'=>e=.returned (.bool true)∧w=w':=by
 have h8:=@run_callFunc_extern Tryz.prog 137 _ Extern.ReflectliteType.typeOf Tryz.func137 (by kernel_rfl) (by kernel_rfl) (by kernel_rfl) (by kernel_rfl)
 have h32 := @run_callFunc_extern Tryz.prog 288 _ (Extern.ReflectliteType.method fun t => do Extern.Rtype.noPackHeld "Comparable" t; pure (.bool (← typeInfo t).comparable)) Tryz.func288 (by kernel_rfl) (by kernel_rfl) (by kernel_rfl) (by kernel_rfl)
 have tT:=typeOfE
 have cT:=comparableE
 have mR:=methodComparable
 obtain ⟨T,a,rfl⟩:=h.shape
 replace h:=Hd h
 go_enter Tryz.func61,Tryz.ntmps61
 go_wp2_with fail
 refine (is_loop r n l _ _ h.out).mono ?_
 rintro e w' ⟨rfl,rfl⟩
 go_wp2
 go_ret
 exact ⟨rfl,rfl⟩
end Errs
end Go.Proofs.YtncpnaoabkjegaaGreatDoor
namespace Go.Proofs.YtncpnaoabkjegaaGreatDoor
open Go.RowKit Go.Extern.Stop Go.Stop Go.Extern
set_option maxRecDepth 100000
namespace Errs
theorem uF:Tryz.prog.underlying 119=some (.pointer 122):=by kernel_rfl
theorem valueOfFF (t:Addr) (w:World):(ReflectliteValue.unpack (.iface 120 (.pointer (some t)))).run Tryz.prog w
 = .ok (.agg #[.pointer (some ⟨17,120,none⟩),.pointer (some ⟨w.heap.size,0,none⟩),.int .u64 150]) (w.alloc (.cells #[.pointer (some t)] 120)):=by kernel_rfl
theorem typeFF (a : Addr) (w : World) : (ReflectliteValue.methodAny (ReflectliteValue.valueError "reflectlite.Value.Type" 0) (fun t _ _ _ => ReflectliteType.toType t) #[.agg #[.pointer (some ⟨17, 120, none⟩), .pointer (some a), .int .u64 150]]).run Tryz.prog w
 = .ok (.iface 239 (.agg #[.pointer (some ⟨17,120,none⟩)])) w:=by kernel_rfl
theorem methodKind (h : Value) (w : World) : (Go.method 452 239 (.agg #[h]) "Kind").run Tryz.prog w = .ok (276, h) w := by kernel_rfl
theorem kindFF (w:World):((ReflectliteType.abiMethod fun t=>(fun a:Nat=>Value.int IntKind.u8 (a:Int)) <$> Rtype.kind t) #[.pointer (some ⟨17,120,none⟩)]).run Tryz.prog w=.ok (.int .u8 22) w:=by kernel_rfl
theorem kindF (w:World):((ReflectliteType.abiMethod fun t=>(fun a:Nat=>Value.int IntKind.u8 (a:Int)) <$> Rtype.kind t) #[.pointer (some ⟨17,119,none⟩)]).run Tryz.prog w=.ok (.int .u8 22) w:=by kernel_rfl
theorem rlm (z:Sem Value) (f:TypeId→Addr→Nat→Nat→Sem Value) (v:Value) :
 ReflectliteValue.method z f #[v]=(do match ← ReflectliteValue.parts v with | none=>z | some (t,a,fl)=>f t a fl (fl%32)):=rfl
theorem partsFF (a:Addr) (w:World):(ReflectliteValue.parts (.agg #[.pointer (some ⟨17,120,none⟩),.pointer (some a),.int .u64 150])).run Tryz.prog w=.ok (some (120,a,150)) w:=by kernel_rfl
theorem isNilFF (a p:Addr) (W:World) (ha:W.cell? a=some (.pointer (some p))) :
 (ReflectliteValue.method (ReflectliteValue.valueError "reflectlite.Value.IsNil" 0) ReflectliteValue.isNil #[.agg #[.pointer (some ⟨17, 120, none⟩), .pointer (some a), .int .u64 150]]).run Tryz.prog W = .ok (.bool false) W := by
 rw [rlm]
 simp only [Sem.run_bind,partsFF,Result.andThen]
 simp [ReflectliteValue.isNil,loadVar,isAgg,underlying,ha,Result.andThen]
theorem methodElem (h : Value) (w : World) : (Go.method 452 239 (.agg #[h]) "Elem").run Tryz.prog w = .ok (289, .agg #[h]) w := by kernel_rfl
theorem methodImplements (h : Value) (w : World) : (Go.method 452 239 (.agg #[h]) "Implements").run Tryz.prog w = .ok (290, .agg #[h]) w := by kernel_rfl
theorem methodAssignableTo (h : Value) (w : World) : (Go.method 452 239 (.agg #[h]) "AssignableTo").run Tryz.prog w = .ok (287, .agg #[h]) w := by kernel_rfl
theorem elemFF (w:World):(ReflectliteType.method ReflectliteType.elem #[.agg #[.pointer (some ⟨17,120,none⟩)]]).run Tryz.prog w=.ok (.iface 239 (.agg #[.pointer (some ⟨17,119,none⟩)])) w:=by kernel_rfl
theorem implementsF (w : World) : (ReflectliteType.relation "Implements" ReflectliteType.implements_ #[.agg #[.pointer (some ⟨17, 119, none⟩)], .iface 239 (.agg #[.pointer (some ⟨17, 27, none⟩)])]).run Tryz.prog w = .ok (.bool true) w := by kernel_rfl
theorem typeOfF (v:Value) (w:World):(ReflectliteType.typeOf #[.iface 119 v]).run Tryz.prog w=.ok (.iface 239 (.agg #[.pointer (some ⟨17,119,none⟩)])) w:=by kernel_rfl
theorem assignableF (w : World) : (ReflectliteType.relation "AssignableTo" ReflectliteType.assignableTo #[.agg #[.pointer (some ⟨17, 119, none⟩)], .iface 239 (.agg #[.pointer (some ⟨17, 119, none⟩)])]).run Tryz.prog w = .ok (.bool true) w := by kernel_rfl
theorem valueOfF (e:Addr) (w:World):(ReflectliteValue.unpack (.iface 119 (.pointer (some e)))).run Tryz.prog w
 = .ok (.agg #[.pointer (some ⟨17,119,none⟩),.pointer (some ⟨w.heap.size,0,none⟩),.int .u64 150]) (w.alloc (.cells #[.pointer (some e)] 119)):=by kernel_rfl
theorem elemOfFF (w:World):(Rtype.elem? 120).run Tryz.prog w=.ok (some 119) w:=by kernel_rfl
theorem mkF (p:Addr) (w:World):(ReflectliteValue.mk 119 p ReflectliteValue.flagAddr).run Tryz.prog w=.ok (.agg #[.pointer (some ⟨17,119,none⟩),.pointer (some p),.int .u64 406]) w:=by kernel_rfl
theorem elemVFF (a p:Addr) (W:World) (ha:W.cell? a=some (.pointer (some p))) :
 (ReflectliteValue.method (ReflectliteValue.valueError "reflectlite.Value.Elem" 0) ReflectliteValue.elem #[.agg #[.pointer (some ⟨17, 120, none⟩), .pointer (some a), .int .u64 150]]).run Tryz.prog W
   = .ok (.agg #[.pointer (some ⟨17,119,none⟩),.pointer (some p),.int .u64 406]) W:=by
 rw [rlm]
 simp only [Sem.run_bind,partsFF,Result.andThen]
 simp [ReflectliteValue.elem,loadVar,isAgg,underlying,ha,Result.andThen,elemOfFF,mkF]
theorem rls (v x:Value):ReflectliteValue.set #[v,x]=(do
 let (some (dst,a,fl),some (src,b,_)):=(← ReflectliteValue.parts v,← ReflectliteValue.parts x)
  | unsupported (.noEntry "extern/(internal/reflectlite.Value).Set.zeroValue")
 if fl / ReflectliteValue.flagAddr % 2 == 0 then unsupported (.noEntry "extern/(internal/reflectlite.Value).Set.unaddressable")
 let val ← loadVar src b
 if ← Rtype.directlyAssignable dst src then storeVar dst a val
 else if ← Rtype.implements dst src then
  if (← Rtype.kind src)==20 then
   match val with
   | .nilIface => unsupported (.noEntry "extern/reflectlite: a nil value of one interface type handed on as a value of another")
   | _=>storeVar dst a val
  else storeVar dst a (.iface src val)
 else panicString ("reflectlite.Set: value of type " ++ (← Rtype.spelt src) ++ " is not assignable to type " ++ (← Rtype.spelt dst))
 pure (.tuple #[])):=rfl
theorem partsFa (a:Addr) (w:World):(ReflectliteValue.parts (.agg #[.pointer (some ⟨17,119,none⟩),.pointer (some a),.int .u64 406])).run Tryz.prog w=.ok (some (119,a,406)) w:=by kernel_rfl
theorem partsF (a:Addr) (w:World):(ReflectliteValue.parts (.agg #[.pointer (some ⟨17,119,none⟩),.pointer (some a),.int .u64 150])).run Tryz.prog w=.ok (some (119,a,150)) w:=by kernel_rfl
theorem directF (w:World):(Rtype.directlyAssignable 119 119).run Tryz.prog w=.ok true w:=by kernel_rfl
theorem setF (ta b e:Addr) (old:Value) (W:World) (hb:W.cell? b=some (.pointer (some e))) (ht:W.cell? ta=some old) (hf:W.frozen? ta=false) :
 (ReflectliteValue.set #[.agg #[.pointer (some ⟨17,119,none⟩),.pointer (some ta),.int .u64 406],.agg #[.pointer (some ⟨17,119,none⟩),.pointer (some b),.int .u64 150]]).run Tryz.prog W
   = .ok (.tuple #[]) (W.setCell ta (.pointer (some e))):=by
 rw [rls]
 simp only [Sem.run_bind,partsFa,partsF,Result.andThen]
 simp [ReflectliteValue.flagAddr,loadVar,isAgg,underlying,hb,Result.andThen,directF,storeVar,Value.cells,storeCells,Addr.add]
 rw [run_store Tryz.prog W ta _ _ (by rfl)]
 simp [ht,hf]
end Errs
end Go.Proofs.YtncpnaoabkjegaaGreatDoor
