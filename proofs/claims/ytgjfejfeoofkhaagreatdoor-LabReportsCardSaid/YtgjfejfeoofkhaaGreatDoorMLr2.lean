/-
  Texts that the proof leans on.
-/
import Derived.Test.YtgjfejfeoofkhaaGreatDoorMLr1
import Derived.Laws.BytesArg
import Derived.Maps.OwnSet
import Derived.StringKeys
set_option maxRecDepth 100000
namespace Go.Proofs.YtgjfejfeoofkhaaGreatDoor
inductive bH (adj:Nat->List Nat):Nat->Nat->Prop
 | refl (x:Nat):bH adj x x
 | step {x y z:Nat} (h:bH adj x y) (hz:z∈adj y):bH adj x z
theorem bH.one{adj:Nat->List Nat}{x y:Nat}(h:y∈adj x):bH adj x y:=.step (.refl x) h
theorem bH.trans{adj:Nat->List Nat}{x y z:Nat}(h:bH adj x y)(h2:bH adj y z):bH adj x z:=by
 induction h2 with
 | refl=>exact h
 | step _ hz ih=>exact .step ih hz
theorem bH.closed{adj:Nat->List Nat}{P:Nat->Prop}(hP:∀x,P x->∀t∈adj x,P t){x y:Nat}(h:bH adj x y)(hx:P x):P y:=by
 induction h with
 | refl=>exact hx
 | step _ hz ih=>exact hP _ ih _ hz
def aN{α:Type}(f:Nat->α)(v:Nat)(a:α):Nat->α:=λx=>if x=v then a else f x
theorem ai{α:Type}(f:Nat->α)(v:Nat)(a:α):aN f v a v=a:=by simp[aN]
theorem ag{α:Type}(f:Nat->α)(v:Nat)(a:α){x:Nat}(h:x≠v):aN f v a x=f x:=by simp[aN,h]
theorem QM{α:Type}(f:Nat->α)(v:Nat):aN f v (f v)=f:=by funext x;by_cases h:x=v<;>simp[aN,h]
structure TS where
 time:Nat
 low:Nat->Nat
 found:Nat->Nat
 idx:Nat->Nat
 jG:List Nat
 part:Nat->Int
 calls:List Nat
def bZ(S:TS)(v:Nat):TS:={ S with time:=S.time+1,low:=aN S.low v (S.time+1),found:=aN S.found v (S.time+1),idx:=aN S.idx v 0,jG:=v::S.jG,calls:=v::S.calls }
def jd(v:Nat):List Nat->(Nat->Int)->List Nat×(Nat->Int)
 | [],p=>([],p)
 | t::r,p=>if t=v then (r,aN p t v) else jd v r (aN p t v)
def ug(low:Nat->Nat)(v:Nat):List Nat->Nat->Nat
 | []=>low
 | u::_=>aN low u (min (low u) (low v))
def oH(S:TS)(v:Nat)(r:List Nat):TS :=
 if ug S.low v r v=S.found v then { S with low:=ug S.low v r,calls:=r,jG:=(jd v S.jG S.part).1,part:=(jd v S.jG S.part).2 }
 else { S with low:=ug S.low v r,calls:=r }
def qQ(adj:Nat->List Nat)(S:TS):TS :=
 match S.calls with
 | []=>S
 | v::r =>
  if S.idx v=(adj v).length then oH S v r
  else
   let t:=(adj v).getD (S.idx v) 0
   let S1:={ S with idx:=aN S.idx v (S.idx v+1) }
   if S.found t=0 then bZ S1 t
   else if S.part t<0 then { S1 with low:=aN S.low v (min (S.low v) (S.found t)) }
   else S1
theorem En{adj:Nat->List Nat}{S:TS}(hc:S.calls=[]):qQ adj S=S:=by
 cases S;simp only at hc;subst hc;rfl
theorem rP{adj:Nat->List Nat}{S:TS}{v:Nat}{r:List Nat}(hc:S.calls=v::r):qQ adj S =
 if S.idx v=(adj v).length then oH S v r
 else if S.found ((adj v).getD (S.idx v) 0)=0 then bZ { S with idx:=aN S.idx v (S.idx v+1) } ((adj v).getD (S.idx v) 0)
 else if S.part ((adj v).getD (S.idx v) 0)<0 then { S with idx:=aN S.idx v (S.idx v+1),low:=aN S.low v (min (S.low v) (S.found ((adj v).getD (S.idx v) 0))) }
 else { S with idx:=aN S.idx v (S.idx v+1) }:=by
 cases S;simp only at hc;subst hc;rfl
def yn(c found:Nat->Nat):Nat->Nat
 | 0=>0
 | n+1=>yn c found n+if found n=0 then c n else 0
theorem xy(c found:Nat->Nat)(t a:Nat)(ha:a≠0)(ht:found t=0)(n:Nat):
 yn c (aN found t a) n+(if t<n then c t else 0)=yn c found n:=by
 induction n with
 | zero=>simp[yn]
 | succ n ih =>
  simp only[yn];by_cases e:n=t;.subst e;rw[if_neg (Nat.lt_irrefl n)] at ih;rw[ai,if_neg ha,if_pos ht,if_pos (by omega)];omega
  .rw[ag _ _ _ e];by_cases h:t<n;.rw[if_pos h] at ih;rw[if_pos (show t<n+1 by omega)];omega
   .rw[if_neg h] at ih;rw[if_neg (show ¬ t<n+1 by omega)];omega
structure gm (n:Nat) (adj:Nat->List Nat) (S:TS):Prop where
 adjLt:∀v,v<n->∀t∈adj v,t<n
 seenLt:∀v,S.found v≠0->v<n
 leTime:∀v,S.found v<=S.time
 count:S.time+yn (λ_=>1) S.found n=n
 inj:∀x y,S.found x=S.found y->S.found x≠0->x=y
 opnIff:∀v,v∈S.jG↔S.found v≠0/\S.part v<0
 opnSorted:S.jG.Pairwise (λa b=>S.found b<S.found a)
 callsSorted:S.calls.Pairwise (λa b=>S.found b<S.found a)
 callsOpen:∀c∈S.calls,c∈S.jG
 idxLe:∀v,v∈S.jG->S.idx v<=(adj v).length
 idxDone:∀v,v∈S.jG->v∉S.calls->S.idx v=(adj v).length
 partSeen:∀v,0<=S.part v->S.found v≠0
 partLow:∀v,-1<=S.part v
 A:∀c∈S.calls,∀x∈S.jG,S.found c<=S.found x->bH adj c x
 B:∀x∈S.jG,∃c∈S.calls,S.found c<=S.found x/\bH adj x c
 C:∀x,0<=S.part x->∀t∈adj x,0<=S.part t
 D:∀x∈S.jG,∀j<S.idx x,∀t,(adj x)[j]?=some t->S.found t≠0
 E:∀x∈S.jG,∀j<S.idx x,∀t∈S.jG,(adj x)[j]?=some t->∀c∈S.calls,S.found c<=S.found x ->
  (∀d∈S.calls,S.found d<=S.found x->S.found d<=S.found c)->S.low c<=S.found t
 F:∀c∈S.calls,S.low c<=S.found c
 G:∀c∈S.calls,∃z∈S.jG,S.found z=S.low c/\bH adj c z
 P1:∀x,0<=S.part x->∃p:Nat,S.part x=p/\0<=S.part p/\bH adj x p/\bH adj p x
 P2:∀x y,0<=S.part x->0<=S.part y->bH adj x y->bH adj y x->S.part x=S.part y
variable {n:Nat} {adj:Nat->List Nat} {S:TS}
theorem gm.js(h:gm n adj S){c:Nat}(hc:c∈S.calls):S.found c≠0/\S.part c<0:=(h.opnIff c).1 (h.callsOpen c hc)
theorem gm.Fg(h:gm n adj S)(hc:S.calls=[]):S.jG=[]:=by
 cases e:S.jG with
 | nil=>rfl
 | cons x l =>
  obtain⟨c,hm,_⟩:=h.B x (by rw[e];exact List.mem_cons_self);rw[hc] at hm;cases hm
theorem gm.QX(h:gm n adj S)(hc:S.calls=[]){v:Nat}(hv:v<n)(hw:S.found v=0):gm n adj (bZ S v):=by
 have ho:=h.Fg hc;have hp:S.part v<0:=by
  by_cases hp:S.part v<0;.exact hp
  .exact absurd hw (h.partSeen v (by omega))
 have qP:=xy (λ_=>1) S.found v (S.time+1) (by omega) hw n;rw[if_pos hv] at qP;have ur:∀x,0<=S.part x->x≠v:=λx hx e=>by subst e;omega
 constructor;case adjLt=>exact h.adjLt
 case seenLt =>
  intro x hx;by_cases e:x=v;.omega
  .simp only[bZ,ag _ _ _ e] at hx;exact h.seenLt x hx
 case leTime =>
  intro x;simp only[bZ];by_cases e:x=v;.subst e;rw[ai];omega
  .rw[ag _ _ _ e];have:=h.leTime x;omega
 case count=>simp only[bZ];have:=h.count;omega
 case inj =>
  intro x y N1 hx;simp only[bZ] at N1 hx;by_cases ex:x=v<;>by_cases ey:y=v;.omega
  .subst ex;rw[ai,ag _ _ _ ey] at N1;have:=h.leTime y;omega
  .subst ey;rw[ai,ag _ _ _ ex] at N1;have:=h.leTime x;omega
  .rw[ag _ _ _ ex,ag _ _ _ ey] at N1;rw[ag _ _ _ ex] at hx;exact h.inj x y N1 hx
 case opnIff =>
  intro x;simp only[bZ,ho,List.mem_singleton];by_cases e:x=v;.subst e;rw[ai];exact⟨λ_=>⟨by omega,hp⟩,λ_=>rfl⟩
  .rw[ag _ _ _ e];refine⟨λh1=>absurd h1 e,λh1=>?_⟩;have:=(h.opnIff x).2 h1;rw[ho] at this;cases this
 case opnSorted=>simp only[bZ,ho];exact List.pairwise_singleton _ _
 case callsSorted=>simp only[bZ,hc];exact List.pairwise_singleton _ _
 case callsOpen=>intro c gL;simp only[bZ,hc,ho] at gL ⊢;exact gL
 case idxLe =>
  intro x hx;simp only[bZ,ho,List.mem_singleton] at hx ⊢;subst hx;rw[ai];omega
 case idxDone=>intro x hx Fk;simp only[bZ,hc,ho] at hx Fk;exact absurd hx Fk
 case partSeen =>
  intro x hx;simp only[bZ] at hx ⊢;rw[ag _ _ _ (ur x hx)];exact h.partSeen x hx
 case partLow=>exact h.partLow
 case A =>
  intro c gL x hx _;simp only[bZ,hc,ho,List.mem_singleton] at gL hx;subst gL;subst hx;exact .refl _
 case B =>
  intro x hx;simp only[bZ,ho,List.mem_singleton] at hx;subst hx;exact⟨x,by simp[bZ],Nat.le_refl _,.refl _⟩
 case C=>exact h.C
 case D =>
  intro x hx j hj;simp only[bZ,ho,List.mem_singleton] at hx hj;subst hx;rw[ai] at hj;omega
 case E =>
  intro x hx j hj;simp only[bZ,ho,List.mem_singleton] at hx hj;subst hx;rw[ai] at hj;omega
 case F =>
  intro c gL;simp only[bZ,hc,List.mem_singleton] at gL ⊢;subst gL;rw[ai,ai];exact Nat.le_refl _
 case G =>
  intro c gL;simp only[bZ,hc,List.mem_singleton] at gL ⊢;subst gL;exact⟨c,List.mem_cons_self,by rw[ai,ai],.refl _⟩
 case P1=>exact h.P1
 case P2=>exact h.P2
theorem gm.Px(h:gm n adj S){v:Nat}{r:List Nat}(hc:S.calls=v::r){t:Nat}(ht:(adj v)[S.idx v]?=some t)(hw:S.found t=0):
 gm n adj (bZ { S with idx:=aN S.idx v (S.idx v+1) } t):=by
 have AQ:v∈S.calls:=by rw[hc];exact List.mem_cons_self
 have Gx:=h.callsOpen v AQ;have VS:=h.js AQ;have zV:=h.seenLt v VS.1;have C9:t∈adj v:=List.mem_of_getElem? ht;have gY:=h.adjLt v zV t C9;have jM:S.idx v<(adj v).length:=by
  by_cases q:S.idx v<(adj v).length;.exact q
  .rw[List.getElem?_eq_none (by omega)] at ht;cases ht
 have hp:S.part t<0:=by
  by_cases hp:S.part t<0;.exact hp
  .exact absurd hw (h.partSeen t (by omega))
 have qP:=xy (λ_=>1) S.found t (S.time+1) (by omega) hw n;rw[if_pos gY] at qP;have ur:∀x,0<=S.part x->x≠t:=λx hx e=>by subst e;omega
 have LM:∀x,x∈S.jG->x≠t:=λx hx e=>by subst e;exact((h.opnIff x).1 hx).1 hw
 have hca:∀x,x∈S.calls->x≠t:=λx hx=>LM x (h.callsOpen x hx);have fo:∀x,x∈S.jG->aN S.found t (S.time+1) x=S.found x:=λx hx=>ag _ _ _ (LM x hx);have fc:∀x,x∈S.calls->aN S.found t (S.time+1) x=S.found x:=λx hx=>ag _ _ _ (hca x hx);have lc:∀x,x∈S.calls->aN S.low t (S.time+1) x=S.low x:=λx hx=>ag _ _ _ (hca x hx);have ft:aN S.found t (S.time+1) t=S.time+1:=ai _ _ _;have lt:aN S.low t (S.time+1) t=S.time+1:=ai _ _ _;have tU:∀c∈S.calls,bH adj c t:=λc C1=>by
  refine .step (h.A c C1 v Gx ?_) C9;have:=h.callsSorted;rw[hc] at this C1;rcases List.mem_cons.1 C1 with e | e;.rw[e];exact Nat.le_refl _
  .exact Nat.le_of_lt ((List.pairwise_cons.1 this).1 c e)
 have ix:∀x,x∈S.jG->∀j,j<aN (aN S.idx v (S.idx v+1)) t 0 x->j<S.idx x\/(x=v/\j=S.idx v):=λx hx j hj=>by
  rw[ag _ _ _ (LM x hx)] at hj;by_cases e:x=v;.subst e;rw[ai] at hj;omega
  .rw[ag _ _ _ e] at hj;exact .inl hj
 have mono:∀x,S.found x≠0->aN S.found t (S.time+1) x≠0:=λx hx=>by
  by_cases e:x=t;.subst e;exact absurd hw hx
  .rw[ag _ _ _ e];exact hx
 constructor;case adjLt=>exact h.adjLt
 case seenLt =>
  intro x hx;by_cases e:x=t;.omega
  .simp only[bZ,ag _ _ _ e] at hx;exact h.seenLt x hx
 case leTime =>
  intro x;simp only[bZ];by_cases e:x=t;.subst e;rw[ai];omega
  .rw[ag _ _ _ e];have:=h.leTime x;omega
 case count=>simp only[bZ];have:=h.count;omega
 case inj =>
  intro x y N1 hx;simp only[bZ] at N1 hx;by_cases ex:x=t<;>by_cases ey:y=t;.omega
  .subst ex;rw[ai,ag _ _ _ ey] at N1;have:=h.leTime y;omega
  .subst ey;rw[ai,ag _ _ _ ex] at N1;have:=h.leTime x;omega
  .rw[ag _ _ _ ex,ag _ _ _ ey] at N1;rw[ag _ _ _ ex] at hx;exact h.inj x y N1 hx
 case opnIff =>
  intro x;simp only[bZ,List.mem_cons];by_cases e:x=t;.subst e;rw[ai];exact⟨λ_=>⟨by omega,hp⟩,λ_=>.inl rfl⟩
  .rw[ag _ _ _ e,<-h.opnIff x];exact⟨λh1=>h1.resolve_left e,.inr⟩
 case opnSorted =>
  simp only[bZ];refine List.pairwise_cons.2 ⟨λx hx=>?_,h.opnSorted.imp_of_mem λha hb Ae=>?_⟩;.rw[fo x hx,ft];have:=h.leTime x;omega
  .rw[fo _ ha,fo _ hb];exact Ae
 case callsSorted =>
  simp only[bZ];refine List.pairwise_cons.2 ⟨λx hx=>?_,h.callsSorted.imp_of_mem λha hb Ae=>?_⟩;.rw[fc x hx,ft];have:=h.leTime x;omega
  .rw[fc _ ha,fc _ hb];exact Ae
 case callsOpen =>
  intro c gL;simp only[bZ,List.mem_cons] at gL ⊢;exact gL.imp id (h.callsOpen c)
 case idxLe =>
  intro x hx;simp only[bZ,List.mem_cons] at hx ⊢;rcases hx with rfl | hx;.rw[ai];omega
  .rw[ag _ _ _ (LM x hx)];by_cases e:x=v;.subst e;rw[ai];omega
   .rw[ag _ _ _ e];exact h.idxLe x hx
 case idxDone =>
  intro x hx Fk;simp only[bZ,List.mem_cons,not_or] at hx Fk ⊢;have hx3:=hx.resolve_left Fk.1;rw[ag _ _ _ Fk.1,ag _ _ _ (λe=>Fk.2 (by rw[e];exact AQ))];exact h.idxDone x hx3 Fk.2
 case partSeen =>
  intro x hx;simp only[bZ] at hx ⊢;rw[ag _ _ _ (ur x hx)];exact h.partSeen x hx
 case partLow=>exact h.partLow
 case A =>
  intro c gL x hx hle;simp only[bZ,List.mem_cons] at gL hx hle;rcases gL with rfl | gL
  .rcases hx with rfl | hx;.exact .refl _
   .rw[ft,fo x hx] at hle;have:=h.leTime x;omega
  .rcases hx with rfl | hx;.exact tU c gL
   .rw[fo x hx,fc c gL] at hle;exact h.A c gL x hx hle
 case B =>
  intro x hx;simp only[bZ,List.mem_cons] at hx;rcases hx with rfl | hx;.exact⟨x,by simp[bZ],Nat.le_refl _,.refl _⟩
  .obtain⟨c,h1,h2,h3⟩:=h.B x hx;refine⟨c,by simp only[bZ,List.mem_cons];exact .inr h1,?_,h3⟩;simp only[bZ];rw[fo x hx,fc c h1];exact h2
 case C=>exact h.C
 case D =>
  intro x hx j hj t' yi;simp only[bZ,List.mem_cons] at hx hj ⊢;rcases hx with rfl | hx;.rw[ai] at hj;omega
  .rcases ix x hx j hj with hj | ⟨rfl,rfl⟩;.exact mono _ (h.D x hx j hj t' yi)
   .rw[ht] at yi;cases yi;rw[ft];omega
 case E =>
  intro x hx j hj t' C3 yi c gL hle Av;simp only[bZ,List.mem_cons] at hx hj C3 gL hle Av ⊢;rcases hx with rfl | hx;.rw[ai] at hj;omega
  .rcases gL with rfl | gL;.rw[ft,fo x hx] at hle;have:=h.leTime x;omega
   .rw[fc c gL,fo x hx] at hle;rw[lc c gL];rcases C3 with rfl | C3;.rw[ft];have:=h.F c gL;have:=h.leTime c;omega
    .rw[fo _ C3];rcases ix x hx j hj with hj | ⟨rfl,rfl⟩;.refine h.E x hx j hj t' C3 yi c gL hle λd hd hd2=>?_;have:=Av d (.inr hd) (by rw[fc d hd,fo x hx];exact hd2);rwa [fc d hd,fc c gL] at this
     .rw[ht] at yi;cases yi;exact absurd rfl (LM _ C3)
 case F =>
  intro c gL;simp only[bZ,List.mem_cons] at gL ⊢;rcases gL with rfl | gL;.rw[ai,ai];exact Nat.le_refl _
  .rw[lc c gL,fc c gL];exact h.F c gL
 case G =>
  intro c gL;simp only[bZ,List.mem_cons] at gL ⊢;rcases gL with rfl | gL;.exact⟨c,.inl rfl,by rw[ai,ai],.refl _⟩
  .obtain⟨z,h1,h2,h3⟩:=h.G c gL;exact⟨z,.inr h1,by rw[lc c gL,fo z h1];exact h2,h3⟩
 case P1=>exact h.P1
 case P2=>exact h.P2
theorem gm.LN(h:gm n adj S){v:Nat}{r:List Nat}(hc:S.calls=v::r){t:Nat}(ht:(adj v)[S.idx v]?=some t)(hw:S.found t≠0)(lo:Nat->Nat)(Ap:∀c,c≠v->lo c=S.low c)(hle:lo v<=S.low v)(aT:S.part t<0->lo v<=S.found t)(hlg:lo v=S.low v\/(S.part t<0/\lo v=S.found t)):
 gm n adj { S with idx:=aN S.idx v (S.idx v+1),low:=lo }:=by
 have AQ:v∈S.calls:=by rw[hc];exact List.mem_cons_self
 have Gx:=h.callsOpen v AQ;have C9:t∈adj v:=List.mem_of_getElem? ht;have jM:S.idx v<(adj v).length:=by
  by_cases q:S.idx v<(adj v).length;.exact q
  .rw[List.getElem?_eq_none (by omega)] at ht;cases ht
 have lol:∀c,lo c<=S.low c:=λc=>by
  by_cases e:c=v;.rw[e];exact hle
  .rw[Ap c e];exact Nat.le_refl _
 have ix:∀x,∀j,j<aN S.idx v (S.idx v+1) x->j<S.idx x\/(x=v/\j=S.idx v):=λx j hj=>by
  by_cases e:x=v;.subst e;rw[ai] at hj;omega
  .rw[ag _ _ _ e] at hj;exact .inl hj
 constructor;case adjLt=>exact h.adjLt
 case seenLt=>exact h.seenLt
 case leTime=>exact h.leTime
 case count=>exact h.count
 case inj=>exact h.inj
 case opnIff=>exact h.opnIff
 case opnSorted=>exact h.opnSorted
 case callsSorted=>exact h.callsSorted
 case callsOpen=>exact h.callsOpen
 case idxLe =>
  intro x hx;show aN S.idx v (S.idx v+1) x<=_;by_cases e:x=v;.subst e;rw[ai];omega
  .rw[ag _ _ _ e];exact h.idxLe x hx
 case idxDone =>
  intro x hx Fk;show aN S.idx v (S.idx v+1) x=_;rw[ag _ _ _ (λe=>Fk (by rw[e];exact AQ))];exact h.idxDone x hx Fk
 case partSeen=>exact h.partSeen
 case partLow=>exact h.partLow
 case A=>exact h.A
 case B=>exact h.B
 case C=>exact h.C
 case D =>
  intro x hx j hj t' yi;rcases ix x j hj with hj | ⟨rfl,rfl⟩;.exact h.D x hx j hj t' yi
  .rw[ht] at yi;cases yi;exact hw
 case E =>
  intro x hx j hj t' C3 yi c gL RG Av;show lo c<=_;rcases ix x j hj with hj | ⟨rfl,rfl⟩;.exact Nat.le_trans (lol c) (h.E x hx j hj t' C3 yi c gL RG Av)
  .rw[ht] at yi;cases yi;have e:c=x:=by
    have h1:=Av x AQ (Nat.le_refl _);exact h.inj c x (by have h2:S.found c<=S.found x:=RG;have h3:S.found x<=S.found c:=h1;omega) (h.js gL).1
   subst e;exact aT ((h.opnIff t).1 C3).2
 case F=>intro c gL;exact Nat.le_trans (lol c) (h.F c gL)
 case G =>
  intro c gL;show ∃z∈S.jG,S.found z=lo c/\_;by_cases e:c=v
  .subst e;rcases hlg with e | ⟨e1,e2⟩;.rw[e];exact h.G c gL
   .exact⟨t,(h.opnIff t).2 ⟨hw,e1⟩,e2.symm,.one C9⟩
  .rw[Ap c e];exact h.G c gL
 case P1=>exact h.P1
 case P2=>exact h.P2
theorem gm.TX(h:gm n adj S){v:Nat}{r:List Nat}(hc:S.calls=v::r):ug S.low v r v=S.low v:=by
 cases r with
 | nil=>rfl
 | cons u r =>
  have:=h.callsSorted;rw[hc] at this;have h1:=(List.pairwise_cons.1 this).1 u List.mem_cons_self;exact ag _ _ _ (λe=>by subst e;omega)
theorem gm.aaJ(h:gm n adj S){v:Nat}{r:List Nat}(hc:S.calls=v::r)(hi:S.idx v=(adj v).length)(hl:S.low v≠S.found v):
 gm n adj { S with low:=ug S.low v r,calls:=r }:=by
 have AQ:v∈S.calls:=by rw[hc];exact List.mem_cons_self
 have Gx:=h.callsOpen v AQ;have Cg:=h.callsSorted;rw[hc] at Cg;have pg:∀c∈r,S.found c<S.found v:=(List.pairwise_cons.1 Cg).1;have nJ:∀c∈r,c∈S.calls:=λc hm=>by rw[hc];exact List.mem_cons_of_mem _ hm
 have uV:∀c∈S.calls,c=v\/c∈r:=λc hm=>by rw[hc] at hm;exact List.mem_cons.1 hm
 have hF:=h.F v AQ;obtain⟨z,kS,oU,hz3⟩:=h.G v AQ;obtain⟨g,wN,yT,hg3⟩:=h.B z kS;have qJ:g∈r:=(uV g wN).resolve_left (λe=>by subst e;omega);obtain⟨u,r',rfl⟩:∃u r',r=u::r':=by cases r with
  | nil=>cases qJ
  | cons u r'=>exact⟨u,r',rfl⟩
 have hur:u∈u::r':=List.mem_cons_self;have huc:=nJ u hur;have hru:∀c∈u::r',S.found c<=S.found u:=λc hm=>by
  rcases List.mem_cons.1 hm with e | e;.rw[e];exact Nat.le_refl _
  .exact Nat.le_of_lt ((List.pairwise_cons.1 (List.pairwise_cons.1 Cg).2).1 c e)
 have lol:∀c,ug S.low v (u::r') c<=S.low c:=λc=>by
  show aN S.low u _ c<=_;by_cases e:c=u;.subst e;rw[ai];omega
  .rw[ag _ _ _ e];exact Nat.le_refl _
 have lou:ug S.low v (u::r') u=min (S.low u) (S.low v):=ai _ _ _;have loc:∀c,c≠u->ug S.low v (u::r') c=S.low c:=λc e=>ag _ _ _ e;constructor;case adjLt=>exact h.adjLt
 case seenLt=>exact h.seenLt
 case leTime=>exact h.leTime
 case count=>exact h.count
 case inj=>exact h.inj
 case opnIff=>exact h.opnIff
 case opnSorted=>exact h.opnSorted
 case callsSorted=>exact(List.pairwise_cons.1 Cg).2
 case callsOpen=>exact λc hm=>h.callsOpen c (nJ c hm)
 case idxLe=>exact h.idxLe
 case idxDone =>
  intro x hx Fk;show S.idx x=_;by_cases e:x=v;.rw[e];exact hi
  .exact h.idxDone x hx (λhm=>(uV x hm).elim e Fk)
 case partSeen=>exact h.partSeen
 case partLow=>exact h.partLow
 case A=>exact λc hm=>h.A c (nJ c hm)
 case B =>
  intro x hx;obtain⟨c,h1,h2,h3⟩:=h.B x hx;rcases uV c h1 with rfl | hcr;.refine⟨g,qJ,?_,h3.trans (hz3.trans hg3)⟩;show S.found g<=S.found x;omega
  .exact⟨c,hcr,h2,h3⟩
 case C=>exact h.C
 case D=>exact h.D
 case E =>
  intro x hx j hj t C3 ht c gL RG Av;have RG:S.found c<=S.found x:=RG;have Av:∀d∈u::r',S.found d<=S.found x->S.found d<=S.found c:=Av;show ug S.low v (u::r') c<=S.found t;by_cases hvx:S.found v<=S.found x
  .have hux:=Av u hur (by have:=pg u hur;omega);have hcu:=hru c gL;have e:c=u:=h.inj c u (by omega) (h.js (nJ c gL)).1;rw[e,lou];have:=h.E x hx j hj t C3 ht v AQ hvx (λd hd _=>by
    rcases uV d hd with e | e;.rw[e];exact Nat.le_refl _
    .exact Nat.le_of_lt (pg d e));omega
  .refine Nat.le_trans (lol c) (h.E x hx j hj t C3 ht c (nJ c gL) RG λd hd hdx=>?_);rcases uV d hd with e | e;.rw[e] at hdx;exact absurd hdx hvx
   .exact Av d e hdx
 case F=>exact λc hm=>Nat.le_trans (lol c) (h.F c (nJ c hm))
 case G =>
  intro c gL;show ∃z∈S.jG,S.found z=ug S.low v (u::r') c/\_;by_cases e:c=u
  .subst e;rw[lou];by_cases q:S.low v<=S.low c;.rw[Nat.min_eq_right q];exact⟨z,kS,oU,(h.A c huc v Gx (Nat.le_of_lt (pg c hur))).trans hz3⟩
   .rw[Nat.min_eq_left (by omega)];exact h.G c huc
  .rw[loc c e];exact h.G c (nJ c gL)
 case P1=>exact h.P1
 case P2=>exact h.P2
theorem Ie(found:Nat->Nat)(v:Nat):∀(l:List Nat) (p:Nat->Int),l.Pairwise (λa b=>found b<found a)->v∈l ->
 (jd v l p).1.Sublist l/\(∀x,x∈(jd v l p).1↔x∈l/\found x<found v) /\
 (∀x,(x∈l/\found v<=found x)->(jd v l p).2 x=(v:Int))/\(∀x,¬ (x∈l/\found v<=found x)->(jd v l p).2 x=p x):=by
 intro l;induction l with
 | nil=>intro p _ h;cases h
 | cons t r ih =>
  intro p hs hv;have⟨h1,h2⟩:=List.pairwise_cons.1 hs;unfold jd;by_cases e:t=v
  .subst e;rw[if_pos rfl];refine⟨List.sublist_cons_self _ _,λx=>?_,fun x ⟨hx,hf⟩=>?_,λx hx=>?_⟩
   .refine⟨λhx=>⟨List.mem_cons_of_mem _ hx,h1 x hx⟩,λ⟨hx,hf⟩=>?_⟩;rcases List.mem_cons.1 hx with e | e;.subst e;omega
    .exact e
   .rcases List.mem_cons.1 hx with e | e;.subst e;exact ai _ _ _
    .have:=h1 x e;omega
   .exact ag _ _ _ (λe=>hx (by rw[e];exact⟨List.mem_cons_self,Nat.le_refl _⟩))
  .rw[if_neg e];have hvr:v∈r:=(List.mem_cons.1 hv).resolve_left (λq=>e q.symm);obtain⟨i1,i2,i3,i4⟩:=ih (aN p t v) h2 hvr;have OO:=h1 v hvr;refine⟨i1.trans (List.sublist_cons_self _ _),λx=>?_,fun x ⟨hx,hf⟩=>?_,λx hx=>?_⟩
   .rw[i2 x];refine⟨λ⟨a,b⟩=>⟨List.mem_cons_of_mem _ a,b⟩,λ⟨a,b⟩=>⟨?_,b⟩⟩;rcases List.mem_cons.1 a with e | e;.subst e;omega
    .exact e
   .by_cases Fm:x∈r;.exact i3 x ⟨Fm,hf⟩
    .rw[i4 x (λq=>Fm q.1)];rcases List.mem_cons.1 hx with e | e;.subst e;exact ai _ _ _
     .exact absurd e Fm
   .rw[i4 x (λq=>hx ⟨List.mem_cons_of_mem _ q.1,q.2⟩)];exact ag _ _ _ (λe=>hx (by rw[e];exact⟨List.mem_cons_self,Nat.le_of_lt OO⟩))
theorem gm.abf(h:gm n adj S){v:Nat}{r:List Nat}(hc:S.calls=v::r)(hi:S.idx v=(adj v).length)(hl:S.low v=S.found v):
 gm n adj { S with low:=ug S.low v r,calls:=r,jG:=(jd v S.jG S.part).1,part:=(jd v S.jG S.part).2 }:=by
 have AQ:v∈S.calls:=by rw[hc];exact List.mem_cons_self
 have Gx:=h.callsOpen v AQ;have Cg:=h.callsSorted;rw[hc] at Cg;have pg:∀c∈r,S.found c<S.found v:=(List.pairwise_cons.1 Cg).1;have nJ:∀c∈r,c∈S.calls:=λc hm=>by rw[hc];exact List.mem_cons_of_mem _ hm
 have uV:∀c∈S.calls,c=v\/c∈r:=λc hm=>by rw[hc] at hm;exact List.mem_cons.1 hm
 have jA:ug S.low v r=S.low:=by
  cases r with
  | nil=>rfl
  | cons u r' =>
   have h1:=pg u List.mem_cons_self;have h2:=h.F u (nJ u List.mem_cons_self);show aN S.low u _=_;rw[Nat.min_eq_left (by omega),QM]
 rw[jA];obtain⟨k1,k2,k3,k4⟩:=Ie S.found v S.jG S.part h.opnSorted Gx;generalize (jd v S.jG S.part).1=O at *;generalize (jd v S.jG S.part).2=P at *;have seg:∀x,x∈S.jG->S.found v<=S.found x->bH adj v x/\bH adj x v:=λx hx hf=>by
  refine⟨h.A v AQ x hx hf,?_⟩;obtain⟨c,h1,h2,h3⟩:=h.B x hx;rcases uV c h1 with e | e;.rw[<-e];exact h3
  .exact h3.trans (h.A c h1 v Gx (Nat.le_of_lt (pg c e)))
 have lW:∀x,0<=S.part x->P x=S.part x:=λx hx=>k4 x (λq=>by have:=((h.opnIff x).1 q.1).2;omega);have new:∀x,0<=P x->0<=S.part x\/(x∈S.jG/\S.found v<=S.found x):=λx hx=>by
  by_cases q:x∈S.jG/\S.found v<=S.found x;.exact .inr q
  .rw[k4 x q] at hx;exact .inl hx
 have C2:∀x,0<=P x->∀t∈adj x,0<=P t:=λx hx t ht=>by
  rcases new x hx with hx | ⟨AY,hxf⟩;.have:=h.C x hx t ht;rw[lW t this];exact this
  .obtain⟨j,hj⟩:=List.mem_iff_getElem?.1 ht;have dw:j<(adj x).length:=by
    by_cases q:j<(adj x).length;.exact q
    .rw[List.getElem?_eq_none (by omega)] at hj;cases hj
   have hix:S.idx x=(adj x).length:=by
    by_cases e:x=v;.rw[e];exact hi
    .refine h.idxDone x AY (λhm=>?_);rcases uV x hm with q | q;.exact e q
     .have:=pg x q;omega
   have pY:=h.D x AY j (by omega) t hj;by_cases hp:0<=S.part t;.rw[lW t hp];exact hp
   .have C3:=(h.opnIff t).2 ⟨pY,by omega⟩;have:=h.E x AY j (by omega) t C3 hj v AQ hxf (λd hd _=>by
     rcases uV d hd with e | e;.rw[e];exact Nat.le_refl _
     .exact Nat.le_of_lt (pg d e));rw[k3 t ⟨C3,by omega⟩];omega
 constructor;case adjLt=>exact h.adjLt
 case seenLt=>exact h.seenLt
 case leTime=>exact h.leTime
 case count=>exact h.count
 case inj=>exact h.inj
 case opnIff =>
  intro x;show x∈O↔S.found x≠0/\P x<0;rw[k2 x];constructor;.rintro⟨a,b⟩;have:=(h.opnIff x).1 a;rw[k4 x (λq=>by omega)];exact this
  .rintro⟨a,b⟩;by_cases q:x∈S.jG/\S.found v<=S.found x;.rw[k3 x q] at b;omega
   .rw[k4 x q] at b;have:=(h.opnIff x).2 ⟨a,b⟩;exact⟨this,by have:¬ S.found v<=S.found x:=λw=>q ⟨this,w⟩;omega⟩
 case opnSorted=>exact h.opnSorted.sublist k1
 case callsSorted=>exact(List.pairwise_cons.1 Cg).2
 case callsOpen=>exact λc hm=>(k2 c).2 ⟨h.callsOpen c (nJ c hm),pg c hm⟩
 case idxLe=>exact λx hx=>h.idxLe x ((k2 x).1 hx).1
 case idxDone =>
  intro x hx Fk;refine h.idxDone x ((k2 x).1 hx).1 (λhm=>?_);rcases uV x hm with e | e;.have:=((k2 x).1 hx).2;subst e;omega
  .exact Fk e
 case partSeen =>
  intro x hx;rcases new x hx with q | q;.exact h.partSeen x q
  .exact((h.opnIff x).1 q.1).1
 case partLow =>
  intro x;show -1<=P x;by_cases q:x∈S.jG/\S.found v<=S.found x;.rw[k3 x q];omega
  .rw[k4 x q];exact h.partLow x
 case A=>exact λc hm x hx hf=>h.A c (nJ c hm) x ((k2 x).1 hx).1 hf
 case B =>
  intro x hx;have⟨YK,Fk⟩:=(k2 x).1 hx;obtain⟨c,h1,h2,h3⟩:=h.B x YK;rcases uV c h1 with e | e;.subst e;omega
  .exact⟨c,e,h2,h3⟩
 case C=>exact C2
 case D=>exact λx hx=>h.D x ((k2 x).1 hx).1
 case E =>
  intro x hx j hj t C3 ht c gL RG Av;have⟨YK,Fk⟩:=(k2 x).1 hx;refine h.E x YK j hj t ((k2 t).1 C3).1 ht c (nJ c gL) RG λd hd hdx=>?_;rcases uV d hd with e | e;.subst e;omega
  .exact Av d e hdx
 case F=>exact λc hm=>h.F c (nJ c hm)
 case G =>
  intro c hm;obtain⟨z,h1,h2,h3⟩:=h.G c (nJ c hm);have:=h.F c (nJ c hm);have:=pg c hm;exact⟨z,(k2 z).2 ⟨h1,by omega⟩,h2,h3⟩
 case P1 =>
  intro x hx;rcases new x hx with q | q;.obtain⟨p,a,b,c,d⟩:=h.P1 x q;exact⟨p,by show P x=_;rw[lW x q];exact a,by show 0<=P p;rw[lW _ b];exact b,c,d⟩
  .have:=seg x q.1 q.2;exact⟨v,k3 x q,by show 0<=P v;rw[k3 v ⟨Gx,Nat.le_refl _⟩];omega,this.2,this.1⟩
 case P2 =>
  intro x y hx hy N1 hyx;show P x=P y;rcases new x hx with q | q<;>rcases new y hy with q' | q';.rw[lW x q,lW y q'];exact h.P2 x y q q' N1 hyx
  .have:=bH.closed (P:=λz=>0<=S.part z) h.C N1 q;have:=((h.opnIff y).1 q'.1).2;omega
  .have:=bH.closed (P:=λz=>0<=S.part z) h.C hyx q';have:=((h.opnIff x).1 q.1).2;omega
  .rw[k3 x q,k3 y q']
theorem gm.leave(h:gm n adj S){v:Nat}{r:List Nat}(hc:S.calls=v::r)(hi:S.idx v=(adj v).length):gm n adj (oH S v r):=by
 unfold oH;rw[h.TX hc];split;.next q=>exact h.abf hc hi q
 .next q=>exact h.aaJ hc hi q
theorem gm.Gr(h:gm n adj S){v:Nat}{r:List Nat}(hc:S.calls=v::r)(hi:S.idx v≠(adj v).length):
 S.idx v<(adj v).length/\(adj v)[S.idx v]?=some ((adj v).getD (S.idx v) 0)/\(adj v).getD (S.idx v) 0<n:=by
 have AQ:v∈S.calls:=by rw[hc];exact List.mem_cons_self
 have Gx:=h.callsOpen v AQ;have h1:S.idx v<(adj v).length:=by have:=h.idxLe v Gx;omega
 have h2:(adj v)[S.idx v]?=some ((adj v).getD (S.idx v) 0):=by simp[List.getD,List.getElem?_eq_getElem h1]
 exact⟨h1,h2,h.adjLt v (h.seenLt v (h.js AQ).1) _ (List.mem_of_getElem? h2)⟩
theorem gm.step(h:gm n adj S):gm n adj (qQ adj S):=by
 cases hc:S.calls with
 | nil=>rw[En hc];exact h
 | cons v r =>
  rw[rP hc];by_cases hi:S.idx v=(adj v).length;.rw[if_pos hi];exact h.leave hc hi
  .rw[if_neg hi];obtain⟨_,h2,_⟩:=h.Gr hc hi;by_cases hf:S.found ((adj v).getD (S.idx v) 0)=0;.rw[if_pos hf];exact h.Px hc h2 hf
   .rw[if_neg hf];by_cases hp:S.part ((adj v).getD (S.idx v) 0)<0
    .rw[if_pos hp];refine h.LN hc h2 hf (aN S.low v (min (S.low v) (S.found ((adj v).getD (S.idx v) 0)))) (fun c (p9:c≠v)=>ag S.low v _ p9) ?_ (λ_=>?_) ?_;.rw[ai];omega
     .rw[ai];omega
     .rw[ai];by_cases q:S.low v<=S.found ((adj v).getD (S.idx v) 0);.exact .inl (Nat.min_eq_left q)
      .exact .inr ⟨hp,Nat.min_eq_right (by omega)⟩
    .rw[if_neg hp];exact h.LN hc h2 hf S.low (λ_ _=>rfl) (Nat.le_refl _) (λq=>absurd q hp) (.inl rfl)
theorem vG(found:Nat->Nat):∀(l:List Nat) (b:Nat),l.Pairwise (λa b=>found b<found a)->(∀x∈l,found x≠0/\found x<=b)->l.length<=b
 | [],b,_,_=>Nat.zero_le b
 | a::l,b,hs,hb=>by
  have⟨h1,h2⟩:=List.pairwise_cons.1 hs;have ha:=hb a List.mem_cons_self;have:=vG found l (found a-1) h2 (λx hx=>⟨(hb x (List.mem_cons_of_mem _ hx)).1,by have:=h1 x hx;omega⟩);simp only[List.length_cons];omega
theorem gm.AK(h:gm n adj S):S.time<=n:=by have:=h.count;omega
theorem gm.yV(h:gm n adj S):S.calls.length<=n :=
 Nat.le_trans (vG S.found S.calls S.time h.callsSorted (λx hx=>⟨(h.js hx).1,h.leTime x⟩)) h.AK
theorem gm.Nx(h:gm n adj S):S.jG.length<=n :=
 Nat.le_trans (vG S.found S.jG S.time h.opnSorted (λx hx=>⟨((h.opnIff x).1 hx).1,h.leTime x⟩)) h.AK
def M9(n:Nat)(adj:Nat->List Nat)(S:TS):Nat :=
 (S.calls.map λv=>1+((adj v).length-S.idx v)).sum+yn (λv=>2+(adj v).length) S.found n
theorem EJ(adj:Nat->List Nat)(l:List Nat)(f g:Nat->Nat)(h:∀v∈l,f v=g v):
 (l.map λv=>1+((adj v).length-f v)).sum=(l.map λv=>1+((adj v).length-g v)).sum:=by
 congr 1;exact List.map_congr_left λv hv=>by rw[h v hv]
theorem gm.UP(h:gm n adj S){v:Nat}{r:List Nat}(hc:S.calls=v::r):M9 n adj (qQ adj S)<M9 n adj S:=by
 have Cg:=h.callsSorted;rw[hc] at Cg;have Rx:∀c∈r,c≠v:=λc hm e=>by have:=(List.pairwise_cons.1 Cg).1 c hm;subst e;omega
 have Nb:M9 n adj S=(1+((adj v).length-S.idx v))+(r.map λv=>1+((adj v).length-S.idx v)).sum+yn (λv=>2+(adj v).length) S.found n:=by
  unfold M9;rw[hc];simp
 have CG:∀lo,M9 n adj { S with idx:=aN S.idx v (S.idx v+1),low:=lo }=(1+((adj v).length-(S.idx v+1)))+(r.map λv=>1+((adj v).length-S.idx v)).sum+yn (λv=>2+(adj v).length) S.found n:=λlo=>by
  unfold M9;rw[hc];simp only[List.map_cons,List.sum_cons,ai];rw[EJ adj r _ S.idx (λc hm=>ag _ _ _ (Rx c hm))]
 rw[rP hc];by_cases hi:S.idx v=(adj v).length;.rw[if_pos hi,Nb];unfold oH;split<;>· unfold M9;dsimp only;omega
 .rw[if_neg hi];obtain⟨h1,h2,h3⟩:=h.Gr hc hi;by_cases hf:S.found ((adj v).getD (S.idx v) 0)=0
  .rw[if_pos hf,Nb];generalize (adj v).getD (S.idx v) 0=t at *;have hw:=xy (λv=>2+(adj v).length) S.found t (S.time+1) (by omega) hf n;rw[if_pos h3] at hw;have ZB:∀c∈S.calls,c≠t:=λc hm e=>by have:=(h.js hm).1;rw[e] at this;exact this hf
   unfold M9 bZ;dsimp only;rw[hc];simp only[List.map_cons,List.sum_cons,ai];rw[EJ adj r _ S.idx (λc hm=>by rw[ag _ _ _ (ZB c (by rw[hc];exact List.mem_cons_of_mem _ hm)),ag _ _ _ (Rx c hm)]),
    ag _ _ _ (ZB v (by rw[hc];exact List.mem_cons_self)),ai];omega
  .rw[if_neg hf];by_cases hp:S.part ((adj v).getD (S.idx v) 0)<0;.rw[if_pos hp,Nb];have:=CG (aN S.low v (min (S.low v) (S.found ((adj v).getD (S.idx v) 0))));omega
   .rw[if_neg hp,Nb];have:=CG S.low;have e:({ S with idx:=aN S.idx v (S.idx v+1),low:=S.low }:TS)={ S with idx:=aN S.idx v (S.idx v+1) }:=rfl;rw[e] at this;omega
def xX:TS:=⟨0,λ_=>0,λ_=>0,λ_=>0,[],λ_=>-1,[]⟩
theorem Mq(n:Nat):yn (λ_=>1) (λ_=>0) n=n:=by
 induction n with
 | zero=>rfl
 | succ n ih=>simp[yn,ih]
theorem gm.init(n:Nat)(adj:Nat->List Nat)(ha:∀v,v<n->∀t∈adj v,t<n):gm n adj xX:=by
 constructor;case adjLt=>exact ha
 case count=>simp[xX,Mq]
 case C=>intro x hx;simp[xX] at hx
 case P1=>intro x hx;simp[xX] at hx
 case P2=>intro x y hx;simp[xX] at hx
 all_goals simp[xX]
theorem ad2(adj:Nat->List Nat)(S:TS){x:Nat}(hx:S.found x≠0):(qQ adj S).found x=S.found x:=by
 cases hc:S.calls with
 | nil=>rw[En hc]
 | cons v r =>
  rw[rP hc];split;.unfold oH;split<;>rfl
  .split;.next hf=>exact ag _ _ _ (λe=>by rw[e] at hx;exact hx hf)
   .split<;>rfl
theorem gm.done(h:gm n adj S)(hc:S.calls=[])(jB:∀v,v<n->S.found v≠0):
 (∀v,v<n->0<=S.part v)/\∀x y,x<n->y<n->(S.part x=S.part y↔bH adj x y/\bH adj y x):=by
 have hp:∀v,v<n->0<=S.part v:=λv hv=>by
  by_cases q:S.part v<0;.have:=(h.opnIff v).2 ⟨jB v hv,q⟩;rw[h.Fg hc] at this;cases this
  .omega
 refine⟨hp,λx y hx hy=>⟨λe=>?_,λ⟨a,b⟩=>h.P2 x y (hp x hx) (hp y hy) a b⟩⟩;obtain⟨p,p1,_,p2,p3⟩:=h.P1 x (hp x hx);obtain⟨q,q1,_,q2,q3⟩:=h.P1 y (hp y hy);have:p=q:=by omega
 subst this;exact⟨p2.trans q3,q2.trans p3⟩
def l6:ByteArray:=⟨#[112,97,105,114,115]⟩
def rW(K N u s:Nat):Nat:=(u*K+s)%N
def lf(K:Nat)(T:List Int)(u s:Nat):Int:=T.getD (u*K+s) 0
def Kg(K N:Nat)(T:List Int)(u v s t:Nat):List Nat:=if lf K T u s=lf K T v t then [rW K N u s*N+rW K N v t] else []
def nQ(K N:Nat)(T:List Int)(u v s n:Nat):List Nat:=(List.range n).flatMap λt=>Kg K N T u v s t
def lN(K N:Nat)(T:List Int)(u v n:Nat):List Nat:=(List.range n).flatMap λs=>nQ K N T u v s K
theorem uz(K N:Nat)(T:List Int)(u v s n:Nat):nQ K N T u v s (n+1)=nQ K N T u v s n++Kg K N T u v s n:=by
 simp[nQ,List.range_succ]
theorem y9(K N:Nat)(T:List Int)(u v n:Nat):lN K N T u v (n+1)=lN K N T u v n++nQ K N T u v n K:=by
 simp[lN,List.range_succ]
theorem UQ(K N:Nat)(T:List Int)(u v s t:Nat):(Kg K N T u v s t).length<=1:=by unfold Kg;split<;>simp
theorem BB(K N:Nat)(T:List Int)(u v s n:Nat):(nQ K N T u v s n).length<=n:=by
 induction n with
 | zero=>simp[nQ]
 | succ n ih=>rw[uz,List.length_append];have:=UQ K N T u v s n;omega
theorem tY(K N:Nat)(T:List Int)(u v n:Nat):(lN K N T u v n).length<=n*K:=by
 induction n with
 | zero=>simp[lN]
 | succ n ih=>rw[y9,List.length_append,Nat.add_mul];have:=BB K N T u v n K;omega
def ZX(K N:Nat)(T:List Int)(u v q:Nat):Prop:=∃s t,s<K/\t<K/\lf K T u s=lf K T v t/\q=rW K N u s*N+rW K N v t
theorem Bz{K N:Nat}{T:List Int}{u v q:Nat}:q∈lN K N T u v K↔ZX K N T u v q:=by
 unfold lN nQ Kg ZX;simp only[List.mem_flatMap,List.mem_range];constructor
 .rintro⟨s,hs,t,ht,h⟩;split at h;.rename_i e;exact⟨s,t,hs,ht,e,by simpa using h⟩
  .cases h
 .rintro⟨s,t,hs,ht,e,h⟩;exact⟨s,hs,t,ht,by rw[if_pos e];simpa using h⟩
theorem vJ{K N u s:Nat}(hN:0<N):rW K N u s<N:=Nat.mod_lt _ hN
theorem pP{N a b:Nat}(ha:a<N)(hb:b<N):a*N+b<N*N:=by
 have:=Nat.mul_le_mul_right N (show a+1<=N by omega);rw[Nat.add_mul] at this;omega
theorem nj{N a b:Nat}(hb:b<N):(a*N+b)/N=a:=Cp hb
theorem nw{N a b:Nat}(hb:b<N):(a*N+b)%N=b:=Sa hb
theorem NT(p N:Nat):p/N*N+p%N=p:=by rw[Nat.mul_comm];exact Nat.div_add_mod p N
theorem oh{p N:Nat}(h:p<N*N):p/N<N:=Nat.div_lt_of_lt_mul h
theorem ZX.lt{K N:Nat}{T:List Int}{u v q:Nat}(hN:0<N)(h:ZX K N T u v q):q<N*N:=by
 obtain⟨s,t,_,_,_,rfl⟩:=h;exact pP (vJ hN) (vJ hN)
def bu(K N:Nat)(T:List Int)(p:Nat):List Nat:=(List.range (N*N)).filter λq=>decide (q∈lN K N T (p/N) (p%N) K)
theorem yb(K N:Nat)(T:List Int)(p:Nat):(bu K N T p).Pairwise (·<·):=List.Pairwise.filter _ List.pairwise_lt_range
theorem dU{K N:Nat}{T:List Int}{p q:Nat}(hN:0<N):q∈bu K N T p↔ZX K N T (p/N) (p%N) q:=by
 unfold bu;rw[List.mem_filter,List.mem_range,decide_eq_true_iff,Bz];exact⟨λh=>h.2,λh=>⟨h.lt hN,h⟩⟩
theorem yG{α:Type}[DecidableEq α]:∀{l m:List α},l.Nodup->l ⊆ m->l.length<=m.length
 | [],_,_,_=>by simp
 | a::l,m,hn,hs=>by
  obtain⟨h1,h2⟩:=List.nodup_cons.1 hn;have ha:=hs List.mem_cons_self;have:=yG (l:=l) (m:=m.erase a) h2 (λb hb=>(List.mem_erase_of_ne (λe=>h1 (by rw[<-e];exact hb))).2 (hs (List.mem_cons_of_mem _ hb)));have hl:=List.length_erase_of_mem ha;have:=List.length_pos_of_mem ha;simp only[List.length_cons];omega
theorem og(K N:Nat)(T:List Int)(p:Nat):(bu K N T p).length<=K*K:=by
 have hn:(bu K N T p).Nodup:=(yb K N T p).imp (λh=>Nat.ne_of_lt h);have hs:bu K N T p ⊆ lN K N T (p/N) (p%N) K:=λq hq=>by
  unfold bu at hq;simpa using (List.mem_filter.1 hq).2
 exact Nat.le_trans (yG hn hs) (tY ..)
def nodeAt(K m:Nat)(x:List Int)(i:Nat):Nat:=aI K ((x.drop i).take m)
theorem Ca{x:List Int}{i m:Nat}(h:i+m<x.length):(x.drop i).take (m+1)=(x.drop i).take m++[x.getD (i+m) 0]:=by
 rw[List.take_add_one,List.getElem?_drop];simp[List.getD,h]
theorem TR{x:List Int}{i m:Nat}:((x.drop i).take (m+1)).drop 1=(x.drop (i+1)).take m:=by
 rw[List.drop_take];simp
theorem eE{K:Int}{x:List Int}(h:bj K x)(i:Nat):bj K (x.drop i):=λy hy=>h y (List.mem_of_mem_drop hy)
theorem dN{K:Int}{x:List Int}(h:bj K x)(i:Nat):bj K (x.take i):=λy hy=>h y (List.mem_of_mem_take hy)
theorem FZ{K:Nat}{x:List Int}(h:bj K x){i:Nat}(hi:i<x.length):0<=x.getD i 0/\x.getD i 0<K/\(x.getD i 0).toNat<K:=by
 have:=h (x[i]) (List.getElem_mem hi);simp only[List.getD_eq_getElem?_getD,List.getElem?_eq_getElem hi,Option.getD_some];omega
theorem NK{K m:Nat}{x:List Int}{i:Nat}(h:i+m<x.length):aI K ((x.drop i).take (m+1))=nodeAt K m x i*K+(x.getD (i+m) 0).toNat:=by
 rw[Ca h,cp];rfl
theorem AM{K m:Nat}{x:List Int}(hx:bj K x){i:Nat}(h:i+m<=x.length):nodeAt K m x i<pw K m:=by
 have:=gH _ (dN (eE hx i) m);rwa [show((x.drop i).take m).length=m by simp;omega] at this
theorem uL{K m:Nat}{x:List Int}(hx:bj K x){i:Nat}(h:i+m<x.length):nodeAt K m x (i+1)=rW K (pw K m) (nodeAt K m x i) (x.getD (i+m) 0).toNat:=by
 have hl:((x.drop i).take m).length=m:=by simp;omega
 have hs:bj K ((x.drop i).take m++[x.getD (i+m) 0]):=by rw[<-Ca h];exact dN (eE hx i) _
 have:=OA hs;rw[<-Ca h,TR,hl,NK h] at this;exact this
theorem Ga{K R:Nat}{T x:List Int}{i:Nat}(h:i+2*R<x.length):(eM K R T x).getD i 0=lf K T (nodeAt K (2*R) x i) (x.getD (i+2*R) 0).toNat:=by
 rw[gj _ _ _ _ _ (by omega),NK h];rfl
theorem TZ{K R:Nat}{T x y:List Int}(hl:x.length=y.length):eM K R T x=eM K R T y ↔
 ∀i,i+2*R<x.length->lf K T (nodeAt K (2*R) x i) (x.getD (i+2*R) 0).toNat=lf K T (nodeAt K (2*R) y i) (y.getD (i+2*R) 0).toNat:=by
 constructor;.intro h i hi;rw[<-Ga hi,<-Ga (by omega),h]
 .intro h;refine List.ext_getElem (by rw[aM,aM,hl]) λi h1 h2=>?_;rw[aM] at h1 h2;have:=h i (by omega);rw[<-Ga (by omega),<-Ga (by omega)] at this;simpa [List.getD_eq_getElem?_getD,aM,h1,h2] using this
theorem JK{K R:Nat}{T x y:List Int}(hx:bj K x)(hy:bj K y)(hl:x.length=y.length)(he:eM K R T x=eM K R T y){i:Nat}(hi:i+2*R<x.length):
 ZX K (pw K (2*R)) T (nodeAt K (2*R) x i) (nodeAt K (2*R) y i) (nodeAt K (2*R) x (i+1)*pw K (2*R)+nodeAt K (2*R) y (i+1)) :=
 ⟨_,_,(FZ hx hi).2.2,(FZ hy (by omega)).2.2,(TZ hl).1 he i hi,by rw[uL hx hi,uL hy (by omega)]⟩
def l7(K N:Nat)(T:List Int)(p q:Nat):Prop :=
 rW K N (p/N) (q/N%K)=q/N/\rW K N (p%N) (q%N%K)=q%N/\lf K T (p/N) (q/N%K)=lf K T (p%N) (q%N%K)
instance (K N:Nat) (T:List Int) (p q:Nat):Decidable (l7 K N T p q):=by unfold l7;exact inferInstance
theorem Gw{K R u s:Nat}(_hK:1<=K)(hR:1<=R)(hs:s<K):rW K (pw K (2*R)) u s%K=s:=by
 unfold rW;have:K ∣ pw K (2*R):=⟨pw K (2*R-1),by rw[Nat.mul_comm K,<-dW];congr 1;omega⟩;rw[Nat.mod_mod_of_dvd _ this,Sa hs]
theorem Ki{K R:Nat}{T:List Int}{p q:Nat}(hK:1<=K)(hR:1<=R)(hq:q<pw K (2*R)*pw K (2*R)):
 l7 K (pw K (2*R)) T p q↔ZX K (pw K (2*R)) T (p/pw K (2*R)) (p%pw K (2*R)) q:=by
 have hN:=eN (K:=K) (2*R) hK;constructor;.rintro⟨h1,h2,h3⟩;exact⟨_,_,Nat.mod_lt _ (by omega),Nat.mod_lt _ (by omega),h3,by rw[h1,h2,NT]⟩
 .rintro⟨s,t,hs,ht,e,rfl⟩;unfold l7;rw[nj (vJ (by omega)),nw (vJ (by omega)),Gw hK hR hs,Gw hK hR ht];exact⟨rfl,rfl,e⟩
def dF(K m:Nat)(F:Nat->Nat)(way:List Nat):List Int:=aV K m (F (way.getD 0 0))++(way.drop 1).map λp=>((F p%K:Nat):Int)
theorem ew(K m:Nat)(F:Nat->Nat)(way:List Nat):(dF K m F way).length=m+(way.length-1):=by simp[dF,aK]
theorem ng{K m:Nat}(hK:1<=K)(F:Nat->Nat)(way:List Nat):bj K (dF K m F way):=by
 intro y hy;rcases List.mem_append.1 hy with hy | hy;.exact fM hK _ _ y hy
 .obtain⟨p,_,rfl⟩:=List.mem_map.1 hy;have:=Nat.mod_lt (F p) (show 0<K by omega);omega
theorem ru{K m:Nat}{F:Nat->Nat}{way:List Nat}{i:Nat}(h:i+1<way.length):(dF K m F way).getD (i+m) 0=((F (way.getD (i+1) 0)%K:Nat):Int):=by
 unfold dF;rw[List.getD_eq_getElem?_getD,List.getElem?_append_right (by rw[aK];omega),aK,Nat.add_sub_cancel,List.getElem?_map,List.getElem?_drop,Nat.add_comm 1 i];rw[List.getElem?_eq_getElem h];simp[List.getD,h]
theorem wM{K m:Nat}(hK:1<=K){F:Nat->Nat}{way:List Nat}(h0:F (way.getD 0 0)<pw K m)(hs:∀i,i+1<way.length->rW K (pw K m) (F (way.getD i 0)) (F (way.getD (i+1) 0)%K)=F (way.getD (i+1) 0)):
 ∀i,i<way.length->nodeAt K m (dF K m F way) i=F (way.getD i 0)
 | 0,_=>by
  unfold nodeAt dF;rw[List.drop_zero,List.take_append_of_le_length (by rw[aK];omega),List.take_of_length_le (by rw[aK];omega),j6 hK _ _ h0]
 | i+1,hi=>by
  have ih:=wM hK h0 hs i (by omega);rw[uL (ng hK F way) (by rw[ew];omega),ih,ru hi,Int.toNat_natCast];exact hs i hi
theorem CQ{K R:Nat}(hK:1<=K)(hR:1<=R){F:Nat->Nat}{x:List Int}(hx:bj K x)(hl:2*R<=x.length){way:List Nat}(hw:way.length=x.length-2*R+1)(hF:∀i,i<way.length->F (way.getD i 0)=nodeAt K (2*R) x i):dF K (2*R) F way=x:=by
 have hN:=eN (K:=K) (2*R) hK;refine List.ext_getElem (by rw[ew];omega) λi h1 h2=>?_;by_cases hi:i<2*R
 .have e:aV K (2*R) (F (way.getD 0 0))=x.take (2*R):=by
   rw[hF 0 (by omega)];have:=iH hK (x.take (2*R)) (dN hx _);rw[show(x.take (2*R)).length=2*R by simp;omega] at this;simpa [nodeAt] using this
  simp only[dF,e];rw[List.getElem_append_left (by simp;omega),List.getElem_take]
 .obtain⟨j,rfl⟩:∃j,i=j+2*R:=⟨i-2*R,by omega⟩;have hj:j+1<way.length:=by omega
  have:=ru (K:=K) (m:=2*R) (F:=F) hj;rw[hF (j+1) hj,uL hx (by omega),Gw hK hR (FZ hx (by omega)).2.2] at this;simp only[List.getD_eq_getElem?_getD,List.getElem?_eq_getElem h1,List.getElem?_eq_getElem h2,Option.getD_some] at this;rw[this];have:=(hx (x[j+2*R]) (List.getElem_mem _)).1;omega
structure dH (K R:Nat) (T a b:List Int):Prop where
 sa:bj K a
 sb:bj K b
 len:a.length=b.length
 ne:a≠b
 low:2*R<=a.length
 front:a.take (2*R)=b.take (2*R)
 back:a.drop (a.length-2*R)=b.drop (b.length-2*R)
 img:eM K R T a=eM K R T b
theorem dH.symm{K R:Nat}{T a b:List Int}(h:dH K R T a b):dH K R T b a :=
 ⟨h.sb,h.sa,h.len.symm,h.ne.symm,by rw[<-h.len];exact h.low,h.front.symm,h.back.symm,h.img.symm⟩
def bP(N p:Nat):Prop:=p/N=p%N
instance (N p:Nat):Decidable (bP N p):=by unfold bP;exact inferInstance
theorem M7{N u:Nat}(h:u<N):bP N (u*N+u):=by unfold bP;rw[nj h,nw h]
theorem bP.eq{N p:Nat}(h:bP N p):p=p/N*N+p/N:=by
 have:=NT p N;rw[<-h] at this;exact this.symm
structure er (N:Nat) (adj:Nat->List Nat) (w:List Nat):Prop where
 len:3<=w.length
 low:∀i,i<w.length->w.getD i 0<N*N
 arr:∀i,i+1<w.length->w.getD (i+1) 0∈adj (w.getD i 0)
 fst:bP N (w.getD 0 0)
 lst:bP N (w.getD (w.length-1) 0)
 gK:∀i,0<i->i+1<w.length->¬ bP N (w.getD i 0)
theorem ES{N:Nat}{W:Nat->Nat}(h0:bP N (W 0)):∀i,¬ bP N (W i)->∃k,k<i/\bP N (W k)/\∀j,k<j->j<=i->¬ bP N (W j)
 | 0,h=>absurd h0 h
 | i+1,h=>by
  by_cases q:bP N (W i);.exact⟨i,by omega,q,λj h1 h2=>by obtain rfl:j=i+1:=(by omega);exact h⟩
  .obtain⟨k,h1,h2,h3⟩:=ES h0 i q;refine⟨k,by omega,h2,λj h4 h5=>?_⟩;by_cases e:j=i+1;.subst e;exact h
   .exact h3 j h4 (by omega)
theorem DZ{N:Nat}{W:Nat->Nat}{i:Nat}(h:¬ bP N (W i)):∀k,bP N (W (i+k))->∃m,i<m/\m<=i+k/\bP N (W m)/\∀j,i<=j->j<m->¬ bP N (W j)
 | 0,hk=>absurd hk h
 | k+1,hk=>by
  by_cases q:∃m,i<m/\m<=i+k/\bP N (W m)/\∀j,i<=j->j<m->¬ bP N (W j);.obtain⟨m,h1,h2,h3⟩:=q;exact⟨m,h1,by omega,h3⟩
  .refine⟨i+(k+1),by omega,Nat.le_refl _,hk,λj h1 h2 hd=>q ?_⟩;obtain⟨d,rfl⟩:∃d,j=i+d:=⟨j-i,by omega⟩;obtain⟨m,m1,m2,m3⟩:=DZ h d hd;exact⟨m,m1,by omega,m3⟩
theorem tQ(f:Nat->Nat)(n i:Nat)(h:i<n):((List.range n).map f).getD i 0=f i:=by simp[List.getD,h]
theorem dH.way{K R:Nat}{T a b:List Int}(hK:1<=K)(hR:1<=R)(h:dH K R T a b):∃w,er (pw K (2*R)) (bu K (pw K (2*R)) T) w/\2*R+(w.length-1)<=a.length:=by
 have hlen:=h.len;have jA:=h.low;have hN:=eN (K:=K) (2*R) hK;have na:∀i,i+2*R<=a.length->nodeAt K (2*R) a i<pw K (2*R):=λi hi=>AM h.sa hi;have nb:∀i,i+2*R<=a.length->nodeAt K (2*R) b i<pw K (2*R):=λi hi=>AM h.sb (by omega);obtain⟨W,hW⟩:∃W:Nat->Nat,W=λi=>nodeAt K (2*R) a i*pw K (2*R)+nodeAt K (2*R) b i:=⟨_,rfl⟩;have hWi:∀i,W i=nodeAt K (2*R) a i*pw K (2*R)+nodeAt K (2*R) b i:=λi=>by rw[hW]
 have dg:∀i,i+2*R<=a.length->(bP (pw K (2*R)) (W i)↔nodeAt K (2*R) a i=nodeAt K (2*R) b i):=λi hi=>by
  unfold bP;rw[hWi,nj (nb i hi),nw (nb i hi)]
 have d0:bP (pw K (2*R)) (W 0):=by
  rw[dg 0 (by omega)];unfold nodeAt;rw[List.drop_zero,List.drop_zero,h.front]
 obtain⟨n,hn⟩:∃n,a.length=n+2*R:=⟨a.length-2*R,by omega⟩;have dn:bP (pw K (2*R)) (W n):=by
  rw[dg n (by omega)];unfold nodeAt;have:=h.back;rw[<-hlen,hn,Nat.add_sub_cancel] at this;rw[this]
 have hex:∃i,i<=n/\¬ bP (pw K (2*R)) (W i):=by
  apply Classical.byContradiction;intro ig;have jB:∀i,i<=n->nodeAt K (2*R) a i=nodeAt K (2*R) b i:=λi hi=>(dg i (by omega)).1 (Classical.byContradiction λq=>ig ⟨i,hi,q⟩);apply h.ne;have ph:∀i,i<n+1->((List.range (n+1)).map (nodeAt K (2*R) a)).getD i 0=nodeAt K (2*R) a i:=λi hi=>tQ _ _ _ hi;have e1:=CQ (F:=id) (way:=(List.range (n+1)).map (nodeAt K (2*R) a)) hK hR h.sa h.low (by simp;omega) (λi hi=>ph i (by simpa using hi));have e2:=CQ (F:=id) (way:=(List.range (n+1)).map (nodeAt K (2*R) a)) hK hR h.sb (by omega) (by simp;omega) (λi hi=>by
   have hi:i<n+1:=by simpa using hi
   show((List.range (n+1)).map (nodeAt K (2*R) a)).getD i 0=_;rw[ph i hi,jB i (by omega)]);rw[<-e1,e2]
 obtain⟨i,hi,Rx⟩:=hex;obtain⟨k,k1,k2,k3⟩:=ES d0 i Rx;obtain⟨m,m1,m2,m3,m4⟩:=DZ Rx (n-i) (by rw[show i+(n-i)=n by omega];exact dn);have ph:∀j,j<m-k+1->((List.range (m-k+1)).map λj=>W (k+j)).getD j 0=W (k+j):=λj hj=>tQ _ _ _ hj;refine⟨(List.range (m-k+1)).map λj=>W (k+j),⟨by simp;omega,λj hj=>?_,λj hj=>?_,?_,?_,λj j0 j1=>?_⟩,by simp;omega⟩
 .rw[ph j (by simpa using hj),hWi];have:j<m-k+1:=by simpa using hj
  exact pP (na _ (by omega)) (nb _ (by omega))
 .have hj:j+1<m-k+1:=by simpa using hj
  rw[ph j (by omega),ph (j+1) hj,dU (by omega),hWi,hWi,nj (nb _ (by omega)),nw (nb _ (by omega)),<-Nat.add_assoc];exact JK h.sa h.sb hlen h.img (by omega)
 .rw[ph 0 (by omega)];exact k2
 .rw[List.length_map,List.length_range,Nat.add_sub_cancel,ph _ (by omega),show k+(m-k)=m by omega];exact m3
 .have hj:j+1<m-k+1:=by simpa using j1
  rw[ph j (by omega)];by_cases q:k+j<=i;.exact k3 _ (by omega) q
  .exact m4 _ (by omega) (by omega)
theorem B6{K R:Nat}{T:List Int}{w:List Nat}(hK:1<=K)(hR:1<=R)(hw:1<=w.length)(low:∀i,i<w.length->w.getD i 0<pw K (2*R)*pw K (2*R))(arr:∀i,i+1<w.length->w.getD (i+1) 0∈bu K (pw K (2*R)) T (w.getD i 0)):
 (∀i,i<w.length->nodeAt K (2*R) (dF K (2*R) (·/pw K (2*R)) w) i=w.getD i 0/pw K (2*R)/\nodeAt K (2*R) (dF K (2*R) (·%pw K (2*R)) w) i=w.getD i 0%pw K (2*R)) /\
 eM K R T (dF K (2*R) (·/pw K (2*R)) w)=eM K R T (dF K (2*R) (·%pw K (2*R)) w):=by
 have hN:=eN (K:=K) (2*R) hK;have fits:∀i,i+1<w.length->l7 K (pw K (2*R)) T (w.getD i 0) (w.getD (i+1) 0):=λi hi=>
  (Ki hK hR (low _ hi)).2 ((dU (by omega)).1 (arr i hi));have n1:=wM (K:=K) (m:=2*R) (F:=(·/pw K (2*R))) (way:=w) hK (oh (low 0 (by omega))) (λi hi=>(fits i hi).1);have n2:=wM (K:=K) (m:=2*R) (F:=(·%pw K (2*R))) (way:=w) hK (Nat.mod_lt _ (by omega)) (λi hi=>(fits i hi).2.1);refine⟨λi hi=>⟨n1 i hi,n2 i hi⟩,?_⟩;rw[TZ (by rw[ew,ew])];intro i hi;rw[ew] at hi;rw[n1 i (by omega),n2 i (by omega),ru (by omega),ru (by omega),Int.toNat_natCast,Int.toNat_natCast];exact(fits i (by omega)).2.2
theorem er.twins{K R:Nat}{T:List Int}{w:List Nat}(hK:1<=K)(hR:1<=R)(h:er (pw K (2*R)) (bu K (pw K (2*R)) T) w):
 dH K R T (dF K (2*R) (·/pw K (2*R)) w) (dF K (2*R) (·%pw K (2*R)) w):=by
 have hN:=eN (K:=K) (2*R) hK;have h3:=h.len;obtain⟨hn,hi⟩:=B6 hK hR (by omega) h.low h.arr;have la:=ew K (2*R) (·/pw K (2*R)) w;have lb:=ew K (2*R) (·%pw K (2*R)) w;have sa:=ng (m:=2*R) hK (·/pw K (2*R)) w;have sb:=ng (m:=2*R) hK (·%pw K (2*R)) w;generalize dF K (2*R) (·/pw K (2*R)) w=a at *;generalize dF K (2*R) (·%pw K (2*R)) w=b at *;have same:∀i,i<w.length->bP (pw K (2*R)) (w.getD i 0)->(a.drop i).take (2*R)=(b.drop i).take (2*R):=λi hi hd=>by
  obtain⟨e1,e2⟩:=hn i hi;have q1:=iH hK _ (dN (eE sa i) (2*R));have q2:=iH hK _ (dN (eE sb i) (2*R));rw[show((a.drop i).take (2*R)).length=2*R by simp;omega] at q1;rw[show((b.drop i).take (2*R)).length=2*R by simp;omega] at q2;rw[<-q1,<-q2];show aV K (2*R) (nodeAt K (2*R) a i)=aV K (2*R) (nodeAt K (2*R) b i);rw[e1,e2,hd]
 refine⟨sa,sb,by omega,λe=>?_,by omega,?_,?_,hi⟩;.subst e;obtain⟨e1,e2⟩:=hn 1 (by omega);exact h.gK 1 (by omega) (by omega) (e1.symm.trans e2)
 .have:=same 0 (by omega) h.fst;simpa using this
 .have:=same (w.length-1) (by omega) h.lst;rw[List.take_of_length_le (by simp;omega),List.take_of_length_le (by simp;omega)] at this;rw[show a.length-2*R=w.length-1 by omega,show b.length-2*R=w.length-1 by omega];exact this
def xd(K R:Nat)(T:List Int)(n:Nat):Prop:=(∃a b,dH K R T a b/\a.length=n)/\∀a b,dH K R T a b->n<=a.length
theorem zx{K R:Nat}{T:List Int}{w:List Nat}(hK:1<=K)(hR:1<=R)(h:er (pw K (2*R)) (bu K (pw K (2*R)) T) w)(hm:∀u,er (pw K (2*R)) (bu K (pw K (2*R)) T) u->w.length<=u.length):xd K R T (2*R+(w.length-1)):=by
 refine⟨⟨_,_,h.twins hK hR,ew ..⟩,λa b Ae=>?_⟩;obtain⟨u,hu,hl⟩:=Ae.way hK hR;have:=hm u hu;omega
theorem IK{K R:Nat}{T:List Int}(hK:1<=K)(hR:1<=R)(hm:∀u,¬ er (pw K (2*R)) (bu K (pw K (2*R)) T) u)(a b:List Int):¬ dH K R T a b:=λh=>by
 obtain⟨u,hu,_⟩:=h.way hK hR;exact hm u hu
theorem mH{K:Int}{x:List Int}(h:bj K x){i:Nat}(hi:i<x.length):0<=x.getD i 0/\x.getD i 0<K:=by
 have e:x.getD i 0=x[i]:=by simp[List.getD,hi]
 rw[e];exact h _ (List.getElem_mem hi)
open Go.RowKit
theorem qM:OneCell 221 5 (.int .u8 0) 1:=⟨by kernel_rfl,by kernel_rfl,rfl,by decide,λ_=>by kernel_rfl⟩
theorem ZA:Tryz.prog.underlying 5=some (.int .u8):=by kernel_rfl
theorem SX:Tryz.prog.underlying 9=some .string:=by kernel_rfl
theorem Mu{T E:TypeId}{z:Value}{b:Nat}(oc:OneCell T E z b){w:World}{ops:Array Oper}{rest:List Oper}{o:Oper}{a:Act}{Q:Exit->Act->World->Prop}(hg:o.guard=none)(l c:Operand)(LM:o.op=Op.makeSlice T l c)(n:Nat)(hl:a.eval l=.int .i64 0)(hc:a.eval c=.int .i64 (n:Int))(hC:n<=100000)(hK:∀v w',aZ E w.heap.size w' v []->Below w.heap.size w w'->wpList Tryz.prog ops Q rest (a.put o.dst v) w'):
 wpList Tryz.prog ops Q (o::rest) a w:=by
 obtain⟨i,hi,qq,kS,oU⟩:=info_parts oc.hi;have hb:=oc.hb;refine wpList_make_own w hg l c T LM w.heap.size E i z 1 oc.ht hi qq kS .i64 .i64 n n hl hc rfl (by
  rw[oU];calc b*n<=32*100000:=Nat.mul_le_mul hb hC
   _<=_:=by decide) (by unfold maxLen;omega) (Nat.le_refl _) ?_;intro w' aO mY;exact hK _ _ aO ((Below.refl _ _).grown mY (Nat.le_refl _) (by intro k hk;cases hk))
theorem SB{T E:TypeId}{z:Value}{b:Nat}(oc:OneCell T E z b){w:World}{ops:Array Oper}{rest:List Oper}{o:Oper}{a:Act}{Q:Exit->Act->World->Prop}(jZ:o.guard=none)(s x:Operand)(ho:o.op=.call { callee:=.builtin .append,args:=#[s,x],argTypes:=#[T,T] })(B:Nat)(v:Value)(xs:List Value)(y:Value)(hy:y.oneCell'=true)(aO:aZ E B w v xs)(hs:a.eval s=v)(hx:a.eval x=.slice (some ⟨w.heap.size,0,none⟩) 1 1)(hlen:xs.length<4398046511104)(hB:B<=w.heap.size)(h:∀v' w',aZ E B w' v' (xs++[y])->Below B w w'->wpList Tryz.prog ops Q rest (a.put o.dst v') w'):
 wpList Tryz.prog ops Q (o::rest) a (w.alloc (.cells #[y] E)):=by
 refine wpList_plain jZ λK hK=>?_;obtain⟨v',w',hr,h2,h3⟩:=xQ oc (w.alloc (.cells #[y] E)) B o.type v _ (aO.alloc _) ⟨w.heap.size,0,none⟩ 1 [y] (by simp) (cell_one_new _ _ _) (by simp[hy]) (by simp;omega) (by simp;omega);unfold Oper.wp execOp;simp only[ho,resolve,invoke,builtin,Sem.run_bind,Sem.run_pure,Result.andThen_ok,List.map_toArray,List.map_cons,List.map_nil,hs,hx];rw[show([y]:List Value).length=1 from rfl] at hr;rw[hr];have hJ:∀row,w.grownBy (w.alloc (.cells #[y] E)) row:=λrow=>World.grownBy_alloc w _ row;rcases h3 with ⟨_,hg⟩ | ⟨_,hg⟩;.exact hK _ _ (h v' w' h2 ((Below.refl _ _).grown ((hJ v.ownBlock).trans hg) hB (λk hk=>(aO.lt k hk).1)))
 .exact hK _ _ (h v' w' h2 ((Below.refl _ _).grown ((hJ none).trans hg) hB (by intro k hk;cases hk)))
structure Row where
 E:TypeId
 size:Nat
 v:Value
 n:Nat
 xs:List Value
def Row.own(B:Nat)(w:World)(r:Row):Prop:=w.ownsRow B r.E r.size r.v r.n r.xs
abbrev Names:=Nat×Nat->Option Row
def Rows(B:Nat)(w:World)(f:Names):Prop :=
 (∀i r,f i=some r->r.own B w)/\(∀i j r s,f i=some r->f j=some s->i≠j->r.v.ownBlock=none\/r.v.ownBlock≠s.v.ownBlock)
def ch(f:Names)(i:Nat×Nat)(r:Option Row):Names:=λj=>if j=i then r else f j
theorem ah(f:Names)(i:Nat×Nat)(r:Option Row):ch f i r i=r:=by simp[ch]
theorem ad(f:Names){i j:Nat×Nat}(r:Option Row)(h:j≠i):ch f i r j=f j:=by simp[ch,h]
theorem Rows.void(B:Nat)(w:World):Rows B w (λ_=>Option.none):=by
 refine⟨?_,?_⟩;.intro i r h;cases h
 .intro i j r s h;cases h
theorem Rows.below{B:Nat}{w w':World}{f:Names}(h:Rows B w f)(hb:Below w.heap.size w w'):Rows B w' f :=
 ⟨λi r hi=>by
   have ho:=h.1 i r hi;refine⟨ho.1,?_⟩;rcases ho.2 with h2 | ⟨g,cap,cur,e,hB,hg,rest⟩;.exact .inl h2
   .exact .inr ⟨g,cap,cur,e,hB,by rw[hb.block g (Array.getElem?_eq_some_iff.1 hg).1];exact hg,rest⟩,h.2⟩
theorem Rows.drop{B:Nat}{w:World}{f:Names}(h:Rows B w f)(i:Nat×Nat):Rows B w (ch f i none) :=
 ⟨λj r hj=>by
   by_cases e:j=i;.subst e;rw[ah] at hj;cases hj
   .rw[ad _ _ e] at hj;exact h.1 j r hj,λj k r s hj hk bM=>by
   by_cases e:j=i;.subst e;rw[ah] at hj;cases hj
   by_cases e':k=i;.subst e';rw[ah] at hk;cases hk
   rw[ad _ _ e] at hj;rw[ad _ _ e'] at hk;exact h.2 j k r s hj hk bM⟩
theorem Rows.lt{B:Nat}{w:World}{f:Names}(h:Rows B w f){i:Nat×Nat}{r:Row}(hi:f i=some r):∀k,r.v.ownBlock=some k->B<=k/\k<w.heap.size:=World.ownsRow.lt (h.1 i r hi)
theorem Rows.grown{B:Nat}{w w':World}{f:Names}{i:Nat×Nat}{r r':Row}(h:Rows B w f)(hi:f i=some r)(hg:w.grownBy w' r.v.ownBlock)(ho:r'.own B w')(hb:r'.v.ownBlock=r.v.ownBlock\/∃k,r'.v.ownBlock=some k/\w.heap.size<=k):
 Rows B w' (ch f i (some r')):=by
 have vy:∀j s,f j=some s->j≠i->s.v.ownBlock=none\/s.v.ownBlock≠r'.v.ownBlock:=λj s hj bM=>by
  rcases hb with e | ⟨k,e,hk⟩;.rw[e];exact h.2 j i s r hj hi bM
  .cases hs:s.v.ownBlock with
   | none=>exact .inl rfl
   | some m =>
    have:=(h.lt hj m hs).2;right;rw[e];intro e2;injection e2 with e2;omega
 refine⟨λj s hj=>?_,λj k s t hj hk bM=>?_⟩
 .by_cases e:j=i;.subst e;rw[ah] at hj;cases hj;exact ho
  .rw[ad _ _ e] at hj;exact World.ownsRow.kept (h.1 j s hj) hg (h.2 j i s r hj hi e)
 .by_cases e:j=i
  .subst e;rw[ah] at hj;cases hj;rw[ad _ _ (Ne.symm bM)] at hk;rcases vy k t hk (Ne.symm bM) with e2 | e2;.cases hr:r'.v.ownBlock with
    | none=>exact .inl rfl
    | some m=>right;rw[e2];simp
   .exact .inr (Ne.symm e2)
  .rw[ad _ _ e] at hj;by_cases e':k=i;.subst e';rw[ah] at hk;cases hk;exact vy j s hj e
   .rw[ad _ _ e'] at hk;exact h.2 j k s t hj hk bM
theorem Rows.fresh{B:Nat}{w w':World}{f:Names}{i:Nat×Nat}{r':Row}(h:Rows B w f)(hg:w.grownBy w' none)(ho:r'.own B w')(hb:∀k,r'.v.ownBlock=some k->w.heap.size<=k):
 Rows B w' (ch f i (some r')):=by
 refine⟨λj s hj=>?_,λj k s t hj hk bM=>?_⟩
 .by_cases e:j=i;.subst e;rw[ah] at hj;cases hj;exact ho
  .rw[ad _ _ e] at hj;exact World.ownsRow.kept (h.1 j s hj) hg (by cases s.v.ownBlock<;>simp)
 .by_cases e:j=i;.subst e;rw[ah] at hj;cases hj;rw[ad _ _ (Ne.symm bM)] at hk;cases hr:r'.v.ownBlock with
   | none=>exact .inl rfl
   | some m =>
    right;intro e2;have h1:=hb m hr;have h2:=(h.lt hk m e2.symm).2;omega
  .rw[ad _ _ e] at hj;by_cases e':k=i;.subst e';rw[ah] at hk;cases hk;cases hs:s.v.ownBlock with
    | none=>exact .inl rfl
    | some m =>
     right;intro e2;have h1:=hb m e2.symm;have h2:=(h.lt hj m hs).2;omega
   .rw[ad _ _ e'] at hk;exact h.2 j k s t hj hk bM
theorem HC{w w':World}(h:Below w.heap.size w w')(row:Option Nat):w.grownBy w' row:=⟨h.os,h.tape,h.output,h.size,λk hk _=>h.block k hk⟩
theorem EO{w w':World}(h:w.grownBy w' none)(row:Option Nat):w.grownBy w' row:=⟨h.os,h.tape,h.output,h.size,λk hk _=>h.block k hk (by simp)⟩
theorem Rows.add{B:Nat}{w w':World}{f:Names}{i:Nat×Nat}{r':Row}(h:Rows B w f)(hb:Below w.heap.size w w')(ho:r'.own B w')(hn:∀k,r'.v.ownBlock=some k->w.heap.size<=k):Rows B w' (ch f i (some r')) :=
 h.fresh (HC hb none) ho hn
theorem Rows.move{B:Nat}{w:World}{f:Names}{i j:Nat×Nat}{r r':Row}(h:Rows B w f)(hi:f i=some r)(ho:r'.own B w)(hb:r'.v.ownBlock=r.v.ownBlock):Rows B w (ch (ch f i none) j (some r')):=by
 refine⟨λk s hk=>?_,λk l s t hk hl bM=>?_⟩
 .by_cases e:k=j;.subst e;rw[ah] at hk;cases hk;exact ho
  .rw[ad _ _ e] at hk;exact(h.drop i).1 k s hk
 .by_cases e:k=j
  .subst e;rw[ah] at hk;cases hk;rw[ad _ _ (Ne.symm bM)] at hl;by_cases e2:l=i;.subst e2;rw[ah] at hl;cases hl
   .rw[ad _ _ e2] at hl;rw[hb];exact h.2 i l r t hi hl (Ne.symm e2)
  .rw[ad _ _ e] at hk;by_cases e':l=j
   .subst e';rw[ah] at hl;cases hl;by_cases e2:k=i;.subst e2;rw[ah] at hk;cases hk
    .rw[ad _ _ e2] at hk;rw[hb];exact h.2 k i s r hk hi e2
   .rw[ad _ _ e'] at hl;exact(h.drop i).2 k l s t hk hl bM
theorem Row.own.shape{B:Nat}{w:World}{r:Row}(h:r.own B w)(hn:0<r.n):∃g cap,r.v=.slice (some ⟨g,0,none⟩) r.n cap/\B<=g:=by
 rcases h.2 with ⟨_,h0⟩ | ⟨g,cap,cur,e,hB,_⟩;.omega
 .exact⟨g,cap,e,hB⟩
theorem Rows.set{B:Nat}{w:World}{f:Names}{i:Nat×Nat}{r:Row}(h:Rows B w f)(hi:f i=some r){g cap:Nat}(hv:r.v=.slice (some ⟨g,0,none⟩) r.n cap)(k:Nat)(y:Value):
 Rows B (w.setCell ⟨g,k,none⟩ y) (ch f i (some { r with xs:=r.xs.set k y })):=by
 have ho:=h.1 i r hi;unfold Row.own at ho;rw[hv] at ho;have hs:=World.ownsRow.stored ho k y;refine h.grown hi (by rw[hv];exact hs.2) ?_ (.inl rfl);unfold Row.own;rw[hv];exact hs.1
theorem Rows.cell{B:Nat}{w:World}{f:Names}{i:Nat×Nat}{r:Row}(h:Rows B w f)(hi:f i=some r){g cap:Nat}(hv:r.v=.slice (some ⟨g,0,none⟩) r.n cap)(k:Nat)(hk:k<r.n*r.size):w.cell? ⟨g,k,none⟩=r.xs[k]?:=by
 have ho:=h.1 i r hi;unfold Row.own at ho;rw[hv] at ho;exact ho.cellAt k hk
theorem Rows.frozen{B:Nat}{w:World}{f:Names}{i:Nat×Nat}{r:Row}(h:Rows B w f)(hi:f i=some r){g cap:Nat}(hv:r.v=.slice (some ⟨g,0,none⟩) r.n cap)(k:Nat):w.frozen? ⟨g,k,none⟩=false:=by
 have ho:=h.1 i r hi;unfold Row.own at ho;rw[hv] at ho;exact ho.frozenAt k
theorem Rows.drew{B:Nat}{w:World}{f:Names}(h:Rows B w f):Rows B w.drew f:=h
theorem Rows.drewN{B:Nat}{w:World}{f:Names}(h:Rows B w f)(n:Nat):Rows B (w.drewN n) f:=h
abbrev aD(v:Value)(xs:List Int):Row:=⟨3,1,v,xs.length,xs.map (Value.int .i64)⟩
abbrev bY(E:TypeId)(v:Value)(vs:List Value):Row:=⟨E,1,v,vs.length,vs⟩
theorem Rows.aR{B:Nat}{w:World}{f:Names}{i:Nat×Nat}{v:Value}{xs:List Int}(h:Rows B w f)(hi:f i=some (aD v xs)):aj B w v xs:=h.1 i _ hi
theorem Rows.ff{B:Nat}{w:World}{f:Names}{i:Nat×Nat}{E:TypeId}{v:Value}{vs:List Value}(h:Rows B w f)(hi:f i=some (bY E v vs)):aZ E B w v vs:=h.1 i _ hi
theorem Rows.Aw{B:Nat}{w:World}{f:Names}{i:Nat×Nat}{v:Value}{xs:List Int}(h:Rows B w f)(hi:f i=some (aD v xs))(k:Nat)(hk:k<xs.length)(y:Int):
 Rows B (w.setCell (af v k) (.int .i64 y)) (ch f i (some (aD v (xs.set k y)))):=by
 have ho:=h.aR hi;have hs:=ho.set k hk y;refine h.grown hi ?_ hs (.inl rfl);have:=ho.yB.oE k (by simpa using hk) (.int .i64 y);exact this
theorem Rows.L4{B:Nat}{w:World}{f:Names}{i:Nat×Nat}{E:TypeId}{v:Value}{vs:List Value}(h:Rows B w f)(hi:f i=some (bY E v vs))(k:Nat)(hk:k<vs.length)(y:Value):
 Rows B (w.setCell (af v k) y) (ch f i (some (bY E v (vs.set k y)))):=by
 have ho:=h.ff hi;refine h.grown hi (ho.oE k hk y) ?_ (.inl rfl);have:=ho.set k hk y;unfold Row.own;exact this
def gV(g:Nat->List Int->Bool×List Int):List Nat->List Int->Bool×List Int
 | [],dQ=>(true,dQ)
 | s::l,dQ=>if (g s dQ).1=true then gV g l (g s dQ).2 else g s dQ
def gT(K R W:Nat)(T:List Int):Nat->Nat->Nat->Nat->List Int->Bool×List Int
 | 0,_,image,middle,dQ=>if 0<=dQ.getD image 0/\dQ.getD image 0≠(middle:Int) then (false,dQ) else (true,dQ.set image middle)
 | f+1,front,image,middle,dQ=>gV (λs t=>gT K R W T f ((front*K+s)%(T.length/K)) (if 2*R<=W-(f+1) then image*K+(T.getD (front*K+s) 0).toNat else image) (if W-(f+1)=W/2 then s else middle) t) (List.range K) dQ
theorem E6{g:Nat->List Int->Bool×List Int}(hg:∀s t,(g s t).2.length=t.length)(l:List Nat)(dQ:List Int):(gV g l dQ).2.length=dQ.length:=by
 induction l generalizing dQ with
 | nil=>rfl
 | cons s l ih =>
  unfold gV;split;.rw[ih,hg]
  .exact hg s dQ
theorem OG(K R W:Nat)(T:List Int)(f front image middle:Nat)(dQ:List Int):(gT K R W T f front image middle dQ).2.length=dQ.length:=by
 induction f generalizing front image middle dQ with
 | zero=>unfold gT;split<;>simp
 | succ f ih=>unfold gT;exact E6 (λs t=>ih _ _ _ _) _ _
theorem k8(g:Nat->List Int->Bool×List Int)(s:Nat)(l:List Nat)(dQ:List Int):gV g (s::l) dQ=if (g s dQ).1=true then gV g l (g s dQ).2 else g s dQ:=rfl
theorem rD(g:Nat->List Int->Bool×List Int)(l m:List Nat)(dQ:List Int):gV g (l++m) dQ=if (gV g l dQ).1=true then gV g m (gV g l dQ).2 else gV g l dQ:=by
 induction l generalizing dQ with
 | nil=>simp[gV]
 | cons s l ih =>
  rw[List.cons_append,k8,k8];by_cases h:(g s dQ).1=true;.rw[if_pos h,if_pos h];exact ih _
  .rw[if_neg h,if_neg h,if_neg h]
theorem mN{g:Nat->List Int->Bool×List Int}{i:Nat}{dQ t:List Int}(h:gV g (List.range i) dQ=(true,t)):gV g (List.range (i+1)) dQ=g i t:=by
 rw[List.range_succ,rD,h,if_pos rfl,k8];by_cases hh:(g i t).1=true;.rw[if_pos hh];exact Prod.ext hh.symm rfl
 .rw[if_neg hh]
theorem oK{g:Nat->List Int->Bool×List Int}{i n:Nat}{dQ t:List Int}(hi:i<n)(h:gV g (List.range i) dQ=(true,t))(hf:(g i t).1=false):gV g (List.range n) dQ=g i t:=by
 obtain⟨m,rfl⟩:∃m,n=(i+1)+m:=⟨n-(i+1),by omega⟩;rw[List.range_add,rD,mN h,if_neg (by rw[hf];decide)]
def vd(K R:Nat)(T:List Int)(d:Nat):Bool×List Int:=gT K R (2*(R+d)+1) T (2*(R+d)+1) 0 0 0 (List.replicate (pw K (2*d+1)) (-1))
def findF(K R:Nat)(T:List Int):Nat->Nat->Option (Nat×List Int)
 | 0,_=>none
 | m+1,d=>if (vd K R T d).1=true then some (d,(vd K R T d).2) else findF K R T m (d+1)
def pI(K R:Nat)(T:List Int):Option (Nat×List Int):=findF K R T 4 0
def xU(K R W:Nat)(T:List Int)(i:Nat)(dQ:List Int):Bool×List Int :=
 if 0<=dQ.getD (aI K (eM K R T (aV K W i))) 0/\dQ.getD (aI K (eM K R T (aV K W i))) 0≠(aV K W i).getD (W/2) 0 then (false,dQ) else (true,dQ.set (aI K (eM K R T (aV K W i))) ((aV K W i).getD (W/2) 0))
theorem MY(g:Nat->List Int->Bool×List Int)(b:Nat->List Nat)(l:List Nat)(dQ:List Int):gV (λs t=>gV g (b s) t) l dQ=gV g (l.flatMap b) dQ:=by
 induction l generalizing dQ with
 | nil=>rfl
 | cons s l ih=>rw[k8,List.flatMap_cons,rD,ih]
theorem IB{g h:Nat->List Int->Bool×List Int}{l:List Nat}(e:∀s∈l,∀t,g s t=h s t)(dQ:List Int):gV g l dQ=gV h l dQ:=by
 induction l generalizing dQ with
 | nil=>rfl
 | cons s l ih =>
  rw[k8,k8,e s (by simp),ih λt ht=>e t (by simp[ht])]
theorem QJ(k m:Nat):List.range (k*m)=(List.range k).flatMap λs=>(List.range m).map λi=>s*m+i:=by
 induction k with
 | zero=>simp
 | succ k ih=>rw[Nat.succ_mul,List.range_add,ih,List.range_succ,List.flatMap_append];simp
theorem EC{K D:Nat}{x s:Nat}(hs:s<K):(x%D)*K+s=(x*K+s)%(D*K):=by
 have h1:=Nat.mod_add_div x D;have h2:x*K+s=((x%D)*K+s)+(D*K)*(x/D):=by
  conv=>lhs;rw[<-h1]
  rw[Nat.add_mul,Nat.mul_right_comm];omega
 rw[h2,Nat.add_mul_mod_self_left];by_cases hD:D=0;.subst hD;simp
 .refine(Nat.mod_eq_of_lt ?_).symm;have h3:=Nat.mod_lt x (show 0<D by omega);have h4:(x%D+1)*K<=D*K:=Nat.mul_le_mul_right _ h3;rw[Nat.add_mul] at h4;omega
theorem Lh{K R W:Nat}{T:List Int}(hr:aG K R T)(f:Nat)(u:List Int)(dQ:List Int)(hl:u.length+f=W)(hu:bj K u):
 gT K R W T f (aI K u%(T.length/K)) (aI K (eM K R T u)) (if W/2<u.length then (u.getD (W/2) 0).toNat else 0) dQ=gV (xU K R W T) ((List.range (pw K f)).map λi=>aI K u*pw K f+i) dQ:=by
 induction f generalizing u dQ with
 | zero =>
  have hd:aV K W (aI K u)=u:=by
   rw[<-hl,Nat.add_zero];exact iH hr.k1 u hu
  have hW:W/2<u.length\/u.length=0:=by omega
  have hc:((if W/2<u.length then (u.getD (W/2) 0).toNat else 0:Nat):Int)=u.getD (W/2) 0:=by
   rcases hW with h | h
   .rw[if_pos h];have e:u.getD (W/2) 0=u[W/2]:=by simp[List.getD,h]
    have:=hu _ (List.getElem_mem h);rw[e];omega
   .obtain rfl:=List.eq_nil_of_length_eq_zero h;simp
  unfold gT;rw[hc,Nl];show _=gV _ [aI K u*1+0] dQ;rw[Nat.mul_one,Nat.add_zero,k8];have:xU K R W T (aI K u) dQ=if 0<=dQ.getD (aI K (eM K R T u)) 0/\dQ.getD (aI K (eM K R T u)) 0≠u.getD (W/2) 0 then (false,dQ) else (true,dQ.set (aI K (eM K R T u)) (u.getD (W/2) 0)):=by
   unfold xU;rw[hd]
  rw[this];split;.rfl
  .rfl
 | succ f ih =>
  have hK:=hr.k1;have hD:T.length=T.length/K*K:=by
   rw[hr.len,dW,Nat.mul_div_cancel _ (by omega)]
  unfold gT;rw[dW,Nat.mul_comm (pw K f) K,QJ,List.map_flatMap,<-MY];refine IB (λs hs t=>?_) dQ;have XP:=List.mem_range.1 hs;have yx:bj K (u++[(s:Int)]):=λx hx=>by
   rcases List.mem_append.1 hx with hx | hx;.exact hu x hx
   .simp at hx;omega
  have hn:W-(f+1)=u.length:=by omega
  have hw:aI K (u++[(s:Int)])=aI K u*K+s:=by rw[cp];simp
  have h1:(aI K u%(T.length/K)*K+s)%(T.length/K)=aI K (u++[(s:Int)])%(T.length/K):=by
   rw[hw,EC XP];exact Nat.mod_mul_right_mod _ _ _
  have h2:aI K u%(T.length/K)*K+s=aI K (u++[(s:Int)])%T.length:=by
   rw[hw,EC XP,<-hD]
  have h3:(if 2*R<=W-(f+1) then aI K (eM K R T u)*K+(T.getD (aI K u%(T.length/K)*K+s) 0).toNat else aI K (eM K R T u))=aI K (eM K R T (u++[(s:Int)])):=by
   rw[PY hr.len yx,hn,h2];split;.exact(cp _ _ _).symm
   .rfl
  have h4:(if W-(f+1)=W/2 then s else if W/2<u.length then (u.getD (W/2) 0).toNat else 0)=(if W/2<(u++[(s:Int)]).length then ((u++[(s:Int)]).getD (W/2) 0).toNat else 0):=by
   rw[hn,List.length_append,List.length_singleton];by_cases e:u.length=W/2;.rw[if_pos e,if_pos (by omega),<-e];simp[List.getD]
   .rw[if_neg e];by_cases e2:W/2<u.length;.rw[if_pos e2,if_pos (by omega)];simp[List.getD,List.getElem?_append_left e2]
    .rw[if_neg e2,if_neg (by omega)]
  rw[h1,h3,h4,ih (u++[(s:Int)]) t (by rw[List.length_append,List.length_singleton];omega) yx,hw,List.map_map];congr 1;refine List.map_congr_left λi _=>?_;simp only[Function.comp_apply];rw[Nat.add_mul,Nat.mul_assoc,Nat.add_assoc]
def mC(K R:Nat)(T:List Int)(n front image:Nat):Prop:=front<T.length/K/\image<pw K (n-2*R)
theorem mC.zero{K R:Nat}{T:List Int}(hr:aG K R T):mC K R T 0 0 0 :=
 ⟨by rw[hr.len,dW,Nat.mul_div_cancel _ (by have:=hr.k1;omega)];exact eN _ hr.k1,by rw[Nat.zero_sub];exact eN _ hr.k1⟩
theorem mC.Sh{K R:Nat}{T:List Int}{n front image s:Nat}(hr:aG K R T)(h:mC K R T n front image)(hs:s<K):front*K+s<T.length:=by
 have hD:T.length=T.length/K*K:=by
  rw[hr.len,dW,Nat.mul_div_cancel _ (by have:=hr.k1;omega)]
 have h1:(front+1)*K<=T.length/K*K:=Nat.mul_le_mul_right _ h.1;rw[Nat.add_mul] at h1;omega
theorem mC.step{K R:Nat}{T:List Int}{n front image s:Nat}(hr:aG K R T)(h:mC K R T n front image)(hs:s<K):
 mC K R T (n+1) ((front*K+s)%(T.length/K)) (if 2*R<=n then image*K+(T.getD (front*K+s) 0).toNat else image):=by
 refine⟨Nat.mod_lt _ (by have:=h.1;omega),?_⟩;split
 .rename_i hn;have hw:=h.Sh hr hs;have e:T.getD (front*K+s) 0=T[front*K+s]:=by simp[List.getD,hw]
  have h1:=hr.syms _ (List.getElem_mem hw);rw[e,show n+1-2*R=(n-2*R)+1 by omega,dW];have h2:(image+1)*K<=pw K (n-2*R)*K:=Nat.mul_le_mul_right _ h.2;rw[Nat.add_mul] at h2;omega
 .rename_i hn;have h2:=h.2;rw[show n-2*R=0 by omega] at h2;rw[show n+1-2*R=0 by omega];exact h2
theorem QI{K R:Nat}{T:List Int}(hr:aG K R T)(d:Nat):vd K R T d=gV (xU K R (2*(R+d)+1) T) (List.range (pw K (2*(R+d)+1))) (List.replicate (pw K (2*d+1)) (-1)):=by
 have h:=Lh (W:=2*(R+d)+1) hr (2*(R+d)+1) [] (List.replicate (pw K (2*d+1)) (-1)) (by simp) (λx hx=>by cases hx);have e:eM K R T []=[]:=by simp[eM]
 rw[e] at h;simp only[show aI K []=0 from rfl,Nat.zero_mod,List.length_nil,Nat.not_lt_zero,if_false,Nat.zero_mul,Nat.zero_add,List.map_id'] at h;exact h
theorem Np{K R:Nat}{T:List Int}(h:aG K R T){x:List Int}(hx:bj K x):eM K R (nG K (2*R+1) T) x=(eM K R T x.reverse).reverse:=by
 refine List.ext_getElem (by simp[aM]) λi h1 h2=>?_;have h1':=h1;rw[aM] at h1';have e1:=gj K R (nG K (2*R+1) T) x i h1';rw[List.getD_eq_getElem?_getD,List.getElem?_eq_getElem h1,Option.getD_some] at e1;rw[e1,List.getElem_reverse];have hj:(eM K R T x.reverse).length-1-i<x.reverse.length-2*R:=by simp only[aM,List.length_reverse];omega
 have e2:=gj K R T x.reverse _ hj;rw[List.getD_eq_getElem?_getD,List.getElem?_eq_getElem (show(eM K R T x.reverse).length-1-i<(eM K R T x.reverse).length by rw[aM] at hj ⊢;exact hj),Option.getD_some] at e2;rw[e2,yh h.k1 h.len _ (dN (eE hx _) _) (by simp;omega)];congr 2;rw[aM,List.length_reverse];refine List.ext_getElem (by simp;omega) λj a b=>?_;simp only[List.length_reverse,List.length_take,List.length_drop] at a b;simp only[List.getElem_reverse,List.getElem_take,List.getElem_drop,List.length_take,List.length_drop];congr 1;omega
theorem EH{K R:Nat}{T T':List Int}(hi:∀x,bj K x->eM K R T' x=(eM K R T x.reverse).reverse){a b:List Int}(t:dH K R T' a b):dH K R T a.reverse b.reverse:=by
 have hl:=t.len;have hw:=t.low;refine⟨iy t.sa,iy t.sb,by simpa using hl,λe=>t.ne (List.reverse_inj.1 e),by simpa using hw,?_,?_,?_⟩;.rw[List.take_reverse,List.take_reverse,t.back]
 .rw[List.drop_reverse,List.drop_reverse,List.length_reverse,List.length_reverse,show a.length-(a.length-2*R)=2*R by omega,show b.length-(b.length-2*R)=2*R by omega,t.front]
 .have:=t.img;rw[hi a t.sa,hi b t.sb] at this;exact List.reverse_inj.1 this
theorem PX{K R:Nat}{T:List Int}(h:aG K R T){a b:List Int}:dH K R (nG K (2*R+1) T) a b↔dH K R T a.reverse b.reverse:=by
 constructor;.exact EH λx hx=>Np h hx
 .intro t;have:=EH (T:=nG K (2*R+1) T) (λx hx=>by rw[Np h (iy hx),List.reverse_reverse,List.reverse_reverse]) t;rwa [List.reverse_reverse,List.reverse_reverse] at this
theorem Pu{K R:Nat}{T:List Int}(h:aG K R T){a b:List Int}(t:dH K R T a b):dH K R (nG K (2*R+1) T) a.reverse b.reverse:=(PX h).2 (by rwa [List.reverse_reverse,List.reverse_reverse])
def jb(K R d:Nat)(T:List Int):List Int:=(List.range (pw K (2*(R+d)+1))).map λi=>T.getD (aI K (((aV K (2*(R+d)+1) i).drop d).take (2*R+1))) 0
theorem nV(K R d:Nat)(T:List Int):(jb K R d T).length=pw K (2*(R+d)+1):=by simp[jb]
theorem Sf{K R d:Nat}{T:List Int}(h:aG K R T)(hd:R+d<=3):aG K (R+d) (jb K R d T) :=
 ⟨h.k1,h.k4,hd,nV ..,λy hy=>by
   obtain⟨i,_,rfl⟩:=List.mem_map.1 hy;exact h.syms.getD (by have:=h.k1;omega) _⟩
theorem UJ{K R d:Nat}{T:List Int}(hK:1<=K)(w:List Int)(hw:bj K w)(hl:w.length=2*(R+d)+1):(jb K R d T).getD (aI K w) 0=T.getD (aI K ((w.drop d).take (2*R+1))) 0:=by
 have aT:=gH w hw;rw[hl] at aT;have:(jb K R d T).getD (aI K w) 0=T.getD (aI K (((aV K (2*(R+d)+1) (aI K w)).drop d).take (2*R+1))) 0:=by simp[jb,List.getD,aT]
 rw[this,<-hl,iH hK w hw]
theorem xt{K R d:Nat}{T:List Int}(hK:1<=K)(x:List Int)(hx:bj K x):eM K (R+d) (jb K R d T) x=eM K R T ((x.drop d).take (x.length-2*d)):=by
 refine List.ext_getElem (by rw[aM,aM];simp;omega) λi h1 h2=>?_;have e1:=gj K (R+d) (jb K R d T) x i (by rw[aM] at h1;exact h1);have e2:=gj K R T ((x.drop d).take (x.length-2*d)) i (by rw[aM] at h2;exact h2);rw[aM] at h1;rw[List.getD_eq_getElem?_getD,List.getElem?_eq_getElem (by rw[aM];exact h1),Option.getD_some] at e1;rw[List.getD_eq_getElem?_getD,List.getElem?_eq_getElem h2,Option.getD_some] at e2;rw[e1,e2,UJ hK _ (dN (eE hx i) _) (by simp;omega)];congr 2;rw[List.drop_take,List.take_take,List.drop_drop,List.drop_take,List.drop_drop,List.take_take,Nat.add_comm d i];congr 1;omega
theorem mf{x:List Int}{i m j:Nat}(h:j<m):((x.drop i).take m).getD j 0=x.getD (i+j) 0:=by
 simp[List.getD,h,List.getElem?_drop]
theorem tf{a b:List Int}(hl:a.length=b.length)(h:∀t,t<a.length->a.getD t 0=b.getD t 0):a=b :=
 List.ext_getElem hl λt h1 h2=>by have:=h t h1;simpa [List.getD,h1,h2] using this
theorem ne_at{a b:List Int}(hl:a.length=b.length)(bM:a≠b):∃j,j<a.length/\a.getD j 0≠b.getD j 0:=by
 apply Classical.byContradiction;intro h;exact bM (tf hl λt ht=>Classical.byContradiction λq=>h ⟨t,ht,q⟩)
theorem NM{K R:Nat}{T x:List Int}{i m:Nat}(h:i+m<=x.length):eM K R T ((x.drop i).take m)=((eM K R T x).drop i).take (m-2*R):=by
 have hl:((x.drop i).take m).length=m:=by simp;omega
 refine tf (by simp only[aM,hl,List.length_take,List.length_drop];omega) λt ht=>?_;rw[aM,hl] at ht;rw[gj _ _ _ _ _ (by rw[hl];exact ht),mf ht,gj _ _ _ _ _ (by omega)];congr 2;rw[List.drop_take,List.take_take,List.drop_drop,Nat.min_eq_left (by omega)]
def Split(K R:Nat)(T:List Int)(n:Nat):Prop:=∃x y,bj K x/\bj K y/\x.length=2*n+1/\y.length=2*n+1/\x.getD n 0≠y.getD n 0/\eM K R T x=eM K R T y
def dY(K R:Nat)(T:List Int):Prop:=∀n,Split K R T n
theorem Sv{K R:Nat}{T x y:List Int}(sx:bj K x)(sy:bj K y)(hl:x.length=y.length){j n:Nat}(h1:n<=j)(h2:j+n<x.length)(bM:x.getD j 0≠y.getD j 0)(hi:eM K R T ((x.drop (j-n)).take (2*n+1))=eM K R T ((y.drop (j-n)).take (2*n+1))):Split K R T n :=
 ⟨_,_,dN (eE sx _) _,dN (eE sy _) _,by simp;omega,by simp;omega,by
   rw[mf (by omega),mf (by omega),show j-n+n=j by omega];exact bM,hi⟩
theorem DY{K R:Nat}{T x y:List Int}(sx:bj K x)(sy:bj K y)(hl:x.length=y.length){j n:Nat}(h1:n<=j)(h2:j+n<x.length)(bM:x.getD j 0≠y.getD j 0)(hi:eM K R T x=eM K R T y):Split K R T n :=
 Sv sx sy hl h1 h2 bM (by rw[NM (by omega),NM (by omega),hi])
theorem Split.mono{K R:Nat}{T:List Int}{n m:Nat}(h:Split K R T n)(hm:m<=n):Split K R T m:=by
 obtain⟨x,y,sx,sy,lx,ly,bM,hi⟩:=h;exact DY sx sy (by omega) (j:=n) hm (by omega) bM hi
theorem NZ{z a v:List Int}{n j:Nat}(hz:z.length=n)(hj:j<a.length):(z++a++v).getD (n+j) 0=a.getD j 0:=by
 subst hz;rw[List.append_assoc,List.getD_eq_getElem?_getD,List.getElem?_append_right (by omega),Nat.add_sub_cancel_left,List.getElem?_append_left hj,<-List.getD_eq_getElem?_getD]
theorem xS{K:Nat}(hK:1<=K){a:List Int}(h:bj K a)(n m:Nat):bj K (List.replicate n 0++a++List.replicate m 0):=by
 intro y hy;rcases List.mem_append.1 hy with hy | hy
 .rcases List.mem_append.1 hy with hy | hy;.rw[List.eq_of_mem_replicate hy];omega
  .exact h y hy
 .rw[List.eq_of_mem_replicate hy];omega
theorem Il{K R d:Nat}{T:List Int}(hK:1<=K):dY K (R+d) (jb K R d T)↔dY K R T:=by
 constructor;.intro h n;obtain⟨x,y,sx,sy,lx,ly,bM,e⟩:=h (n+d);rw[xt hK x sx,xt hK y sy] at e;refine⟨_,_,dN (eE sx d) _,dN (eE sy d) _,by simp;omega,by simp;omega,?_,e⟩;rw[mf (by omega),mf (by omega),Nat.add_comm d n];exact bM
 .intro h n;obtain⟨x,y,sx,sy,lx,ly,bM,e⟩:=h n;have mid:∀u:List Int,((List.replicate d (0:Int)++u++List.replicate d 0).drop d).take ((List.replicate d (0:Int)++u++List.replicate d 0).length-2*d)=u:=λu=>by
   rw[List.append_assoc,List.drop_left' (by simp),List.take_left' (by simp;omega)]
  refine Split.mono (n:=n+d) ⟨_,_,xS hK sx d d,xS hK sy d d,by simp;omega,by simp;omega,?_,?_⟩ (by omega);.rw[Nat.add_comm n d,NZ (by simp) (by omega),NZ (by simp) (by omega)];exact bM
  .rw[xt hK _ (xS hK sx d d),xt hK _ (xS hK sy d d),mid,mid,e]
def Onto(K R:Nat)(T:List Int):Prop:=∀y,bj K y->∃x,bj K x/\x.length=y.length+2*R/\eM K R T x=y
def jj(K N:Nat)(T:List Int)(l:List Bool)(s:Int):List Bool :=
 (List.range N).map λv=>(List.range N).any λu=>l.getD u false&&(List.range K).any λc=>decide ((u*K+c)%N=v)&&decide (T.getD (u*K+c) 0=s)
theorem xY(K N:Nat)(T:List Int)(l:List Bool)(s:Int):(jj K N T l s).length=N:=by simp[jj]
theorem J1{K N:Nat}{T:List Int}{l:List Bool}{s:Int}{v:Nat}(hv:v<N):
 (jj K N T l s).getD v false=true↔∃u,u<N/\l.getD u false=true/\∃c,c<K/\(u*K+c)%N=v/\T.getD (u*K+c) 0=s:=by
 have e:(jj K N T l s).getD v false=(List.range N).any λu=>l.getD u false&&(List.range K).any λc=>decide ((u*K+c)%N=v)&&decide (T.getD (u*K+c) 0=s):=by
  unfold jj;simp[List.getD,hv]
 rw[e,List.any_eq_true];constructor;.rintro⟨u,hu,h⟩;rw[Bool.and_eq_true,List.any_eq_true] at h;obtain⟨h1,c,hc,h2⟩:=h;rw[Bool.and_eq_true,decide_eq_true_iff,decide_eq_true_iff] at h2;exact⟨u,List.mem_range.1 hu,h1,c,List.mem_range.1 hc,h2.1,h2.2⟩
 .rintro⟨u,hu,h1,c,hc,h2,h3⟩;refine⟨u,List.mem_range.2 hu,?_⟩;rw[Bool.and_eq_true,List.any_eq_true];refine⟨h1,c,List.mem_range.2 hc,?_⟩;rw[Bool.and_eq_true,decide_eq_true_iff,decide_eq_true_iff];exact⟨h2,h3⟩
def ad0(K N:Nat)(T:List Int)(y:List Int):List Bool:=y.foldl (jj K N T) (List.replicate N true)
theorem Pm{P:List Int->Prop}(h0:P [])(h1:∀y s,P y->P (y++[s]))(y:List Int):P y:=by
 generalize hn:y.length=n;induction n generalizing y with
 | zero=>rw[List.eq_nil_of_length_eq_zero hn];exact h0
 | succ n ih =>
  have bM:y≠[]:=by intro e;subst e;simp at hn
  obtain⟨b,x,rfl⟩:∃b x,y=b++[x]:=⟨y.dropLast,y.getLast bM,(List.dropLast_concat_getLast bM).symm⟩;exact h1 _ _ (ih b (by simpa using hn))
theorem MA{K:Int}{y:List Int}{s:Int}:bj K (y++[s])↔bj K y/\0<=s/\s<K :=
 ⟨λh=>⟨λx hx=>h x (by simp[hx]),h s (by simp)⟩,λh x hx=>by
   rcases List.mem_append.1 hx with hx | hx;.exact h.1 x hx
   .simp at hx;subst hx;exact h.2⟩
theorem FM{l:List Bool}{N:Nat}(hl:l.length=N):l.any id=true↔∃v,v<N/\l.getD v false=true:=by
 subst hl;rw[List.any_eq_true];constructor;.rintro⟨b,hb,h⟩;obtain⟨i,hi,rfl⟩:=List.getElem_of_mem hb;exact⟨i,hi,by simpa [List.getD,hi] using h⟩
 .rintro⟨v,hv,h⟩;exact⟨l[v],List.getElem_mem hv,by simpa [List.getD,hv] using h⟩
inductive Cl where
 | on (sets:List (List Bool)) (words:List (List Int))
 | dr (w:List Int)
 | nO
def Ge(K N:Nat)(T:List Int)(i t:Nat)(sets:List (List Bool))(words:List (List Int)):Cl :=
 if (jj K N T (sets.getD i []) t).any id=false then .dr (words.getD i []++[(t:Int)])
 else if jj K N T (sets.getD i []) t∈sets then .on sets words
 else if sets.length=4096 then .nO
 else .on (sets++[jj K N T (sets.getD i []) t]) (words++[words.getD i []++[(t:Int)]])
def Gh(K N:Nat)(T:List Int)(i:Nat):Nat->Nat->List (List Bool)->List (List Int)->Cl
 | 0,_,sets,words=>.on sets words
 | m+1,t,sets,words=>match Ge K N T i t sets words with
  | .on a b=>Gh K N T i m (t+1) a b
  | r=>r
def Na(K N:Nat)(T:List Int):Nat->Nat->List (List Bool)->List (List Int)->Cl
 | 0,_,sets,words=>.on sets words
 | f+1,i,sets,words=>if i<sets.length then match Gh K N T i K 0 sets words with
  | .on a b=>Na K N T f (i+1) a b
  | r=>r
  else .on sets words
def DK(K N:Nat)(T:List Int):Cl:=Na K N T 4097 0 [List.replicate N true] [[]]
structure abl (K N:Nat) (T:List Int) (i:Nat) (sets:List (List Bool)) (words:List (List Int)):Prop where
 ll:words.length=sets.length
 z0:0<sets.length
 z1:sets.getD 0 []=List.replicate N true
 z2:words.getD 0 []=[]
 eq:∀j,j<sets.length->sets.getD j []=ad0 K N T (words.getD j [])
 sy:∀j,j<sets.length->bj K (words.getD j [])
 ne:∀j,j<sets.length->(sets.getD j []).any id=true
 mono:∀j k,j<=k->k<sets.length->(words.getD j []).length<=(words.getD k []).length
 close:∀j,j<i->∀s,s<K->∃k,k<sets.length/\sets.getD k []=jj K N T (sets.getD j []) (s:Nat)/\(words.getD k []).length<=(words.getD j []).length+1
 small:sets.length<=4096
structure SubMid (K N:Nat) (T:List Int) (i t:Nat) (sets:List (List Bool)) (words:List (List Int)):Prop extends abl K N T i sets words where
 il:i<sets.length
 top:∀k,k<sets.length->(words.getD k []).length<=(words.getD i []).length+1
 part:∀s,s<t->∃k,k<sets.length/\sets.getD k []=jj K N T (sets.getD i []) (s:Nat)/\(words.getD k []).length<=(words.getD i []).length+1
theorem Bq{α:Type}{l m:List α}{j:Nat}{d:α}(h:j<l.length):(l++m).getD j d=l.getD j d:=by
 simp[List.getD,List.getElem?_append_left h]
theorem Jd{α:Type}{l:List α}{x d:α}:(l++[x]).getD l.length d=x:=by simp[List.getD]
def rj:List Bool->Nat
 | []=>0
 | b::l=>b.toNat+2*rj l
theorem vB:∀(l:List Bool) (i:Nat),(rj l).testBit i=l.getD i false
 | [],i=>by simp[rj]
 | b::l,0=>by
  unfold rj;rw[Nat.testBit_zero];cases b<;>simp
 | b::l,i+1=>by
  unfold rj;rw[Nat.testBit_succ,show(b.toNat+2*rj l)/2=rj l by cases b<;>simp<;>omega,vB l i];simp
theorem JG:∀(l:List Bool),rj l<2 ^ l.length
 | []=>by simp[rj]
 | b::l=>by
  have:=JG l;unfold rj;rw[List.length_cons,Nat.pow_succ];have:b.toNat<=1:=Bool.toNat_le b;omega
theorem Lw(n:Nat):rj (List.replicate n false)=0:=by
 induction n with
 | zero=>rfl
 | succ n ih=>rw[List.replicate_succ];simp[rj,ih]
def mu(l:List Bool)(w:Nat):Nat:=rj ((l.drop (64*w)).take 64)
def bg(l:List Bool):List Nat:=(List.range ((l.length+63)/64)).map (mu l)
theorem jk(l:List Bool):(bg l).length=(l.length+63)/64:=by simp[bg]
theorem BG{l:List Bool}{w:Nat}(h:w<(l.length+63)/64):(bg l).getD w 0=mu l w:=by simp[bg,List.getD,h]
theorem qT(l:List Bool)(w:Nat):mu l w<2 ^ 64:=by
 refine Nat.lt_of_lt_of_le (JG _) (Nat.pow_le_pow_right (by decide) ?_);rw[List.length_take];omega
theorem ju{l:List Bool}{w j:Nat}(hj:j<64):(mu l w).testBit j=l.getD (64*w+j) false:=by
 unfold mu;rw[vB,List.getD_eq_getElem?_getD,List.getD_eq_getElem?_getD,List.getElem?_take,if_pos hj,List.getElem?_drop]
theorem Qr{l:List Bool}{x:Nat}(h:x<l.length)(w:Nat):mu (l.set x true) w=if w=x/64 then mu l w ||| 2 ^ (x%64) else mu l w:=by
 refine Nat.eq_of_testBit_eq λj=>?_;by_cases hj:j<64
 .rw[ju hj];split
  .rename_i e;rw[Nat.testBit_or,ju hj,Nat.testBit_two_pow];by_cases e2:x=64*w+j
   .have e3:x%64=j:=by omega
    rw[<-e2];simp[List.getD,h,e3]
   .have e3:¬ x%64=j:=by omega
    simp[List.getD,List.getElem?_set_ne e2,e3]
  .rename_i e;rw[ju hj];have e2:x≠64*w+j:=by omega
   simp[List.getD,List.getElem?_set_ne e2]
 .have nO:∀m,m<2 ^ 64->m.testBit j=false:=λm hm=>Nat.testBit_lt_two_pow (Nat.lt_of_lt_of_le hm (Nat.pow_le_pow_right (by decide) (by omega)));rw[nO _ (qT _ _)];split
  .rw[Nat.testBit_or,nO _ (qT _ _),Nat.testBit_two_pow];have:¬ x%64=j:=by omega
   simp[this]
  .rw[nO _ (qT _ _)]
theorem LO{l:List Bool}{x:Nat}(h:x<l.length):bg (l.set x true)=(bg l).set (x/64) (mu l (x/64) ||| 2 ^ (x%64)):=by
 refine List.ext_getElem (by simp[jk]) λi h1 h2=>?_;rw[List.getElem_set];simp only[bg,List.getElem_map,List.getElem_range];rw[Qr h];by_cases e:i=x/64;.subst e;simp
 .rw[if_neg e,if_neg (λq=>e q.symm)]
theorem J5(n:Nat):bg (List.replicate n false)=List.replicate ((n+63)/64) 0:=by
 unfold bg;refine List.ext_getElem (by simp) λi h1 h2=>?_;simp only[List.getElem_map,List.getElem_range,List.getElem_replicate];unfold mu;rw[List.drop_replicate,List.take_replicate];exact Lw _
def jz(w:Nat):List Nat:=(List.range 8).map λi=>w/256 ^ i%256
theorem oG(w:Nat):(jz w).length=8:=by simp[jz]
theorem uo{w i b:Nat}(hb:b<8):(w/256 ^ i%256).testBit b=w.testBit (8*i+b):=by
 rw[show(256:Nat)=2 ^ 8 from rfl,<-Nat.pow_mul,Nat.testBit_mod_two_pow,Nat.testBit_div_two_pow];simp[hb,Nat.add_comm]
theorem Lb{w v:Nat}(hw:w<2 ^ 64)(hv:v<2 ^ 64)(h:jz w=jz v):w=v:=by
 refine Nat.eq_of_testBit_eq λj=>?_;by_cases hj:j<64
 .have hi:j/8<8:=by omega
  have e:=congrArg (fun l:List Nat=>l.getD (j/8) 0) h;simp only[jz,List.getD_eq_getElem?_getD,List.getElem?_map,List.getElem?_range hi,Option.map_some,Option.getD_some] at e;have e2:=congrArg (fun m:Nat=>m.testBit (j%8)) e;rw[uo (Nat.mod_lt _ (by decide)),uo (Nat.mod_lt _ (by decide)),Nat.div_add_mod] at e2;exact e2
 .have nO:∀m,m<2 ^ 64->m.testBit j=false:=λm hm=>Nat.testBit_lt_two_pow (Nat.lt_of_lt_of_le hm (Nat.pow_le_pow_right (by decide) (by omega)));rw[nO _ hw,nO _ hv]
def pr(ws:List Nat):List Nat:=ws.flatMap jz
theorem IF:∀{ws vs:List Nat},(∀w∈ws,w<2 ^ 64)->(∀w∈vs,w<2 ^ 64)->ws.length=vs.length->pr ws=pr vs->ws=vs
 | [],[],_,_,_,_=>rfl
 | w::ws,v::vs,hw,hv,hl,h=>by
  unfold pr at h;rw[List.flatMap_cons,List.flatMap_cons] at h;obtain⟨h1,h2⟩:=List.append_inj h (by rw[oG,oG]);rw[Lb (hw w (by simp)) (hv v (by simp)) h1,IF (λx hx=>hw x (by simp[hx])) (λx hx=>hv x (by simp[hx])) (by simpa using hl) h2]
theorem qH(l:List Bool):∀w∈bg l,w<2 ^ 64:=λw hw=>by
 obtain⟨i,_,rfl⟩:=List.mem_map.1 hw;exact qT _ _
theorem LW{l m:List Bool}(hl:l.length=m.length)(h:bg l=bg m):l=m:=by
 refine List.ext_getElem hl λi h1 h2=>?_;have hi:i/64<(l.length+63)/64:=by omega
 have e:=congrArg (fun q:List Nat=>(q.getD (i/64) 0).testBit (i%64)) h;rw[BG hi,BG (by omega),ju (Nat.mod_lt _ (by decide)),ju (Nat.mod_lt _ (by decide)),Nat.div_add_mod] at e;simpa [List.getD,h1,h2] using e
theorem key_inj{l m:List Bool}(hl:l.length=m.length)(h:pr (bg l)=pr (bg m)):l=m :=
 LW hl (IF (qH l) (qH m) (by rw[jk,jk,hl]) h)
theorem adW(l:List Bool)(x:Nat):mu l (x/64)/2 ^ (x%64) &&& 1=if l.getD x false=true then 1 else 0:=by
 have h:=ju (l:=l) (w:=x/64) (j:=x%64) (Nat.mod_lt _ (by decide));rw[Nat.div_add_mod,Nat.testBit_eq_decide_div_mod_eq] at h;rw[Nat.and_one_is_mod];cases hb:l.getD x false with
 | true =>
  rw[hb] at h;rw[if_pos rfl];exact of_decide_eq_true h
 | false =>
  rw[hb] at h;have:=of_decide_eq_false h;rw[if_neg (by decide)];omega
theorem Qp(ws:List Nat)(w:Nat):pr (ws++[w])=pr ws++jz w:=by simp[pr]
theorem Jg(w i:Nat)(h:i<8):(jz w).take (i+1)=(jz w).take i++[w/256 ^ i%256]:=by
 rw[List.take_add_one];simp[jz,h]
theorem Bx(ws:List Nat):(pr ws).length=8*ws.length:=by
 induction ws with
 | nil=>rfl
 | cons w ws ih=>unfold pr at *;rw[List.flatMap_cons,List.length_append,oG,ih,List.length_cons];omega
def nM(l:List Bool)(n:Nat):List Nat:=(List.range n).filter λx=>l.getD x false
theorem OV(l:List Bool)(n:Nat):nM l (n+1)=nM l n++if l.getD n false then [n] else []:=by
 unfold nM;rw[List.range_succ,List.filter_append];congr 1;by_cases h:l.getD n false=true;.rw[if_pos h,List.filter_cons,if_pos h];rfl
 .rw[if_neg h,List.filter_cons,if_neg h];rfl
def setOf(n:Nat)(xs:List Nat):List Bool:=xs.foldl (λl x=>l.set x true) (List.replicate n false)
theorem setOf_snoc(n:Nat)(xs:List Nat)(x:Nat):setOf n (xs++[x])=(setOf n xs).set x true:=by simp[setOf]
theorem j8(n:Nat)(xs:List Nat):(setOf n xs).length=n:=by
 unfold setOf;have key:∀(xs:List Nat) (l:List Bool),(xs.foldl (λl x=>l.set x true) l).length=l.length:=by
  intro xs;induction xs with
  | nil=>intro l;rfl
  | cons x xs ih=>intro l;rw[List.foldl_cons,ih,List.length_set]
 rw[key,List.length_replicate]
theorem yK{n:Nat}{xs:List Nat}{v:Nat}(hv:v<n):(setOf n xs).getD v false=decide (v∈xs):=by
 unfold setOf;have key:∀(xs:List Nat) (l:List Bool),l.length=n->(xs.foldl (λl x=>l.set x true) l).getD v false=(l.getD v false||decide (v∈xs)):=by
  intro xs;induction xs with
  | nil=>intro l _;simp
  | cons x xs ih =>
   intro l hl;rw[List.foldl_cons,ih _ (by rw[List.length_set];exact hl)];by_cases e:x=v;.subst e;simp[List.getD,hl,hv]
   .have e2:¬ v=x:=λq=>e q.symm;simp[List.getD,List.getElem?_set_ne e,e2]
 rw[key _ _ (by simp)];simp[List.getD,hv]
theorem Ps(n:Nat):setOf n (List.range n)=List.replicate n true:=by
 refine List.ext_getElem (by rw[j8,List.length_replicate]) λi h1 h2=>?_;rw[j8] at h1;have:=yK (n:=n) (xs:=List.range n) h1;rw[List.getD_eq_getElem?_getD,List.getElem?_eq_getElem (by rw[j8];exact h1),Option.getD_some] at this;rw[this];simp[h1]
def AA(M:Int->Option Int)(p x:Int):Int->Option Int:=λq=>if q=p then some x else M q
def iN(p:Nat->Int):Nat->(Int->Option Int)×Nat
 | 0=>(λ_=>none,0)
 | k+1=>if ((iN p k).1 (p k)).isSome then iN p k else (AA (iN p k).1 (p k) ((iN p k).2:Int),(iN p k).2+1)
def rK(p:Nat->Int)(k:Nat):Int:=((iN p (k+1)).1 (p k)).getD 0
theorem E7(p:Nat->Int):∀k,(iN p k).2<=k
 | 0=>Nat.le_refl _
 | k+1=>by
  have:=E7 p k;simp only[iN];split<;>simp<;>omega
theorem D0(p:Nat->Int){q x:Int}(k:Nat)(h:(iN p k).1 q=some x):∀d,(iN p (k+d)).1 q=some x
 | 0=>h
 | d+1=>by
  have ih:=D0 p k h d;show(iN p (k+d+1)).1 q=some x;simp only[iN];split;.exact ih
  .next hn =>
   show AA _ _ _ q=some x;unfold AA;by_cases e:q=p (k+d);.subst e;rw[ih] at hn;exact absurd rfl hn
   .rw[if_neg e];exact ih
theorem Ke(p:Nat->Int)(k:Nat):(iN p (k+1)).1 (p k)=some (rK p k):=by
 unfold rK;have:((iN p (k+1)).1 (p k)).isSome:=by
  simp only[iN];split;.next h=>exact h
  .simp[AA]
 obtain⟨x,hx⟩:=Option.isSome_iff_exists.1 this;rw[hx];rfl
theorem wB(p:Nat->Int):∀k q x,(iN p k).1 q=some x->0<=x/\x<(iN p k).2
 | 0,q,x,h=>by cases h
 | k+1,q,x,h=>by
  have ih:=wB p k q x;simp only[iN] at h ⊢;split at h;.next hs=>rw[if_pos hs];exact ih h
  .next hs =>
   rw[if_neg hs];simp only[AA] at h ⊢;by_cases e:q=p k;.rw[if_pos e] at h;injection h with h;omega
   .rw[if_neg e] at h;have:=ih h;omega
theorem JP(p:Nat->Int):∀k q q' x,(iN p k).1 q=some x->(iN p k).1 q'=some x->q=q'
 | 0,q,q',x,h,_=>by cases h
 | k+1,q,q',x,h,h'=>by
  have ih:=JP p k q q' x;simp only[iN] at h h';split at h;.next hs=>rw[if_pos hs] at h';exact ih h h'
  .next hs =>
   rw[if_neg hs] at h';simp only[AA] at h h';by_cases e:q=p k<;>by_cases e':q'=p k;.rw[e,e']
   .rw[if_pos e] at h;rw[if_neg e'] at h';have:=wB p k q' x h';injection h with h;omega
   .rw[if_neg e] at h;rw[if_pos e'] at h';have:=wB p k q x h;injection h' with h';omega
   .rw[if_neg e] at h;rw[if_neg e'] at h';exact ih h h'
theorem Ym(p:Nat->Int)(i j:Nat):rK p i=rK p j↔p i=p j:=by
 have key:∀i d,(iN p (i+1+d)).1 (p i)=some (rK p i):=λi d=>D0 p (i+1) (Ke p i) d;have hi:=key i j;have hj:=key j i;rw[show j+1+i=i+1+j by omega] at hj;constructor;.intro h;rw[h] at hi;exact JP p _ _ _ _ hi hj
 .intro h;rw[h] at hi;rw[hi] at hj;injection hj
def rY(n:Nat)(adj:Nat->List Nat)(ps:List Int):Prop :=
 ∃p:Nat->Int,(∀x y,x<n->y<n->(p x=p y↔bH adj x y/\bH adj y x))/\ps=(List.range n).map (rK p)
theorem rY.len{n:Nat}{adj:Nat->List Nat}{ps:List Int}(h:rY n adj ps):ps.length=n:=by
 obtain⟨p,_,rfl⟩:=h;simp
theorem rY.eq{n:Nat}{adj:Nat->List Nat}{ps:List Int}(h:rY n adj ps){x y:Nat}(hx:x<n)(hy:y<n):ps.getD x 0=ps.getD y 0↔bH adj x y/\bH adj y x:=by
 obtain⟨p,hp,rfl⟩:=h;simp only[List.getD_eq_getElem?_getD,List.getElem?_map,List.getElem?_range hx,List.getElem?_range hy,Option.map_some,Option.getD_some];rw[Ym,hp x y hx hy]
open Go.RowKit Go.Maps Go.WideMaps
theorem Eb:Tryz.prog.underlying 187=some (.map 9 3):=by kernel_rfl
theorem sZ:Keyed Tryz.prog 9:=string_keyed SX
theorem NW(w:World):(zeroValue 3).run Tryz.prog w=.ok (.int .i64 0) w:=by kernel_rfl
def Of(v:Value):Option (DataW Value×List MemPlace):=some (.held v,[])
def vo(ws:List Nat):List Int:=(pr ws).map fun n:Nat=>(n:Int)
def AG(ws:List Nat):ByteArray:=strOfNums (vo ws)
def AJ(ws:List Nat):Lit:=.string (AG ws).data.toList
theorem Rk(ws:List Nat):(AG ws).size=8*ws.length:=by
 unfold AG;rw[strOfNums_size];unfold vo;rw[List.length_map,Bx]
theorem Gk{ws:List Nat}(h:ws.length<=4096):keyOf Tryz.prog 9 (.string (AG ws))=some (AJ ws):=keyOf_string_mk SX (by rw[Rk];unfold maxLen;omega)
theorem DU(ws:List Nat):∀b∈pr ws,b<256:=λb hb=>by
 unfold pr at hb;obtain⟨w,_,hb⟩:=List.mem_flatMap.1 hb;unfold jz at hb;obtain⟨i,_,rfl⟩:=List.mem_map.1 hb;exact Nat.mod_lt _ (by decide)
theorem Jz{l m:List Bool}(hl:l.length=m.length)(h:AJ (bg l)=AJ (bg m)):l=m:=by
 have h2:(AG (bg l)).data.toList=(AG (bg m)).data.toList:=by injection h
 unfold AG at h2;rw[strOfNums_data,strOfNums_data] at h2;unfold vo at h2;rw[List.map_map,List.map_map] at h2;have key:∀(a b:List Nat),(∀x∈a,x<256)->(∀x∈b,x<256)->a.map ((fun n:Int=>UInt8.ofNat n.toNat) ∘ fun n:Nat=>(n:Int))=b.map ((fun n:Int=>UInt8.ofNat n.toNat) ∘ fun n:Nat=>(n:Int))->a=b:=by
  intro a;induction a with
  | nil =>
   intro b _ _ h;cases b with
   | nil=>rfl
   | cons _ _=>simp at h
  | cons p a ih =>
   intro b ha hb h;cases b with
   | nil=>simp at h
   | cons q b =>
    rw[List.map_cons,List.map_cons] at h;injection h with h1 h2;have e1:=ha p List.mem_cons_self;have e2:=hb q List.mem_cons_self;have:p=q:=by
     have h3:=congrArg UInt8.toNat h1;simp only[Function.comp,UInt8.toNat_ofNat',Int.toNat_natCast] at h3;omega
    rw[this,ih b (λz hz=>ha z (List.mem_cons_of_mem _ hz)) (λz hz=>hb z (List.mem_cons_of_mem _ hz)) h2]
 exact key_inj hl (key _ _ (DU _) (DU _) h2)
def gy(w:World)(b n:Nat)(sets:List (List Bool)):Prop :=
 ∃D:DataW Value,w.ownsMap Tryz.prog 9 Of b sets.length D/\(∀y,y.length=n->(Maps.has D (AJ (bg y))=true↔y∈sets))/\∀i,i<sets.length->D.atKey (AJ (bg (sets.getD i []))) (.held (.int .i64 0))=.held (.int .i64 (i:Nat))
theorem gy.made(w:World)(n:Nat):gy (w.alloc (.map #[] 0)) w.heap.size n [] :=
 ⟨_,World.ownsMap_made w Tryz.prog 9 _,λy _=>⟨λh=>(by cases h),λh=>(by cases h)⟩,λi hi=>absurd hi (Nat.not_lt_zero _)⟩
section
variable {w:World} {b n:Nat} {sets:List (List Bool)}
theorem gy.vq(h:gy w b n sets):∃es c,w.heap[b]?=some (.map es c):=by
 obtain⟨D,⟨es,c,hb,_⟩,_⟩:=h;exact⟨es,c,hb⟩
theorem gy.lt(h:gy w b n sets):b<w.heap.size:=by
 obtain⟨D,h1,_⟩:=h;exact h1.lt
theorem gy.below{w':World}(h:gy w b n sets)(hb:Below w.heap.size w w'):gy w' b n sets:=by
 obtain⟨D,h1,h2⟩:=h;refine⟨D,?_,h2⟩;have aT:=h1.lt;obtain⟨es,clock,nh,F,hs,hD⟩:=h1;exact⟨es,clock,(hb.block b aT).trans nh,F,hs,hD⟩
theorem gy.kept{w':World}{row:Option Nat}(h:gy w b n sets)(hg:w.grownBy w' row)(bM:some b≠row):gy w' b n sets:=by
 obtain⟨D,h1,h2⟩:=h;exact⟨D,h1.kept hg bM,h2⟩
theorem gy.HA(h:gy w b n sets){y:List Bool}(hm:y∈sets)(hl:y.length=n)(hn:n<=4096):
 (Instr.lookup 187 (.map (some b)) (.string (AG (bg y))) true).run Tryz.prog w=.ok (.tuple #[.int .i64 (sets.idxOf y:Nat),.bool true]) w:=by
 obtain⟨D,h1,h2,h3⟩:=h;have hk:=List.idxOf_lt_length_of_mem hm;have e0:sets.getD (sets.idxOf y) []=y:=by
  rw[List.getD_eq_getElem?_getD,List.getElem?_eq_getElem hk,Option.getD_some];exact List.getElem_idxOf hk
 have h4:=h3 _ hk;rw[e0] at h4;obtain⟨v,ps,hr,hv⟩:=h1.look_ok sZ Eb (NW w) (zd:=.held (.int .i64 0)) (zp:=[]) rfl (Gk (ws:=bg y) (by rw[jk];omega));rw[h4] at hv;unfold Of at hv;have e1:=Option.some.inj hv;have e2:DataW.held v=DataW.held (Value.int .i64 (sets.idxOf y:Nat)):=congrArg Prod.fst e1;have e:v=Value.int .i64 (sets.idxOf y:Nat):=by injection e2
 rw[hr,e,(h2 _ hl).2 hm]
theorem gy.sK(h:gy w b n sets){y:List Bool}(hm:y∉sets)(hl:y.length=n)(hn:n<=4096):
 ∃v,(Instr.lookup 187 (.map (some b)) (.string (AG (bg y))) true).run Tryz.prog w=.ok (.tuple #[v,.bool false]) w:=by
 obtain⟨D,h1,h2,h3⟩:=h;obtain⟨v,ps,hr,hv⟩:=h1.look_ok sZ Eb (NW w) (zd:=.held (.int .i64 0)) (zp:=[]) rfl (Gk (ws:=bg y) (by rw[jk];omega));have:Maps.has D (AJ (bg y))=false:=by
  cases hh:Maps.has D (AJ (bg y)) with
  | false=>rfl
  | true=>exact absurd ((h2 y hl).1 hh) hm
 exact⟨v,by rw[hr,this]⟩
theorem gy.store(h:gy w b n sets){y:List Bool}(hm:y∉sets)(hl:y.length=n)(hn:n<=4096)(jB:∀x∈sets,x.length=n)(hj:sets.length<100000):
 ∃w',(Instr.mapUpdate 187 (.map (some b)) (.string (AG (bg y))) (.int .i64 (sets.length:Nat))).run Tryz.prog w=.ok () w'/\gy w' b n (sets++[y])/\w.grownBy w' (some b):=by
 obtain⟨D,h1,h2,h3⟩:=h;have hI:=h1.isMap;have UN:=Gk (ws:=bg y) (by rw[jk];omega);obtain⟨w',hr,ho,hg⟩:=h1.update sZ Eb (by unfold maxLen;omega) UN (val:=.int .i64 (sets.length:Nat)) (d:=.held (.int .i64 (sets.length:Nat))) (ps:=[]) rfl;have sr:WideAt.IsKeyLit (AJ (bg y)):=sZ.key UN;refine⟨w',hr,⟨_,by rw[List.length_append,List.length_singleton];exact ho,λz hz=>?_,λi hi=>?_⟩,hg⟩
 .by_cases e:z=y;.subst e;exact⟨λ_=>by simp,λ_=>Maps.has_put_same hI sr _⟩
  .have bM:AJ (bg z)≠AJ (bg y):=λh=>e (Jz (by rw[hz,hl]) h);rw[Maps.has_put_other bM,h2 z hz];simp[e]
 .rw[List.length_append,List.length_singleton] at hi;by_cases e:i=sets.length
  .subst e;have e2:(sets++[y]).getD sets.length []=y:=by simp[List.getD]
   rw[e2,Maps.atKey_put_same hI sr]
  .have Au:i<sets.length:=by omega
   have e2:(sets++[y]).getD i []=sets.getD i []:=by simp[List.getD,List.getElem?_append_left Au]
   have Xo:sets.getD i []∈sets:=by
    rw[List.getD_eq_getElem?_getD,List.getElem?_eq_getElem Au,Option.getD_some];exact List.getElem_mem Au
   have bM:AJ (bg (sets.getD i []))≠AJ (bg y):=λh=>hm (Jz (by rw[jB _ Xo,hl]) h▸Xo);rw[e2,Maps.atKey_put_other bM];exact h3 i Au
end
theorem Rows.mapB{B:Nat}{w w':World}{f:Names}{b:Nat}{es:Array MapEntry}{c:Nat}(h:Rows B w f)(hb:w.heap[b]?=some (.map es c))(hg:w.grownBy w' (some b)):Rows B w' f :=
 ⟨λi r hi=>(by
   have ho:=h.1 i r hi;refine World.ownsRow.kept ho hg ?_;rcases ho.2 with ⟨e,_⟩ | ⟨g,cap,cur,e,_,hh,_⟩;.left;rw[e];rfl
   .right;rw[e];intro q;have:g=b:=by injection q
    subst this;rw[hh] at hb;cases hb),h.2⟩
def bI(b:Bool):Int:=if b=true then 1 else 0
def Ar(l:List Bool):ByteArray:=strOfNums (l.map bI)
def Aq(l:List Bool):Lit:=.string (Ar l).data.toList
theorem Qe(l:List Bool):(Ar l).size=l.length:=by unfold Ar;rw[strOfNums_size];simp
theorem FT{l:List Bool}(h:l.length<=4096):keyOf Tryz.prog 9 (.string (Ar l))=some (Aq l):=keyOf_string_mk SX (by rw[Qe];unfold maxLen;omega)
theorem Kd{l m:List Bool}(h:Aq l=Aq m):l=m:=by
 have h2:(Ar l).data.toList=(Ar m).data.toList:=by injection h
 unfold Ar at h2;rw[strOfNums_data,strOfNums_data,List.map_map,List.map_map] at h2;have key:∀(a b:List Bool),a.map ((fun n:Int=>UInt8.ofNat n.toNat) ∘ bI)=b.map ((fun n:Int=>UInt8.ofNat n.toNat) ∘ bI)->a=b:=by
  intro a;induction a with
  | nil=>intro b h;cases b with
   | nil=>rfl
   | cons _ _=>simp at h
  | cons p a ih =>
   intro b h;cases b with
   | nil=>simp at h
   | cons q b =>
    rw[List.map_cons,List.map_cons] at h;injection h with h1 h2;rw[ih b h2];cases p<;>cases q<;>first | rfl | exact absurd h1 (by decide)
 exact key l m h2
def ez(w:World)(b n:Nat)(sets:List (List Bool)):Prop :=
 ∃D:DataW Value,w.ownsMap Tryz.prog 9 Of b sets.length D/\(∀y,y.length=n->(Maps.has D (Aq y)=true↔y∈sets))/\∀i,i<sets.length->D.atKey (Aq (sets.getD i [])) (.held (.int .i64 0))=.held (.int .i64 (i:Nat))
theorem ez.made(w:World)(n:Nat):ez (w.alloc (.map #[] 0)) w.heap.size n [] :=
 ⟨_,World.ownsMap_made w Tryz.prog 9 _,λy _=>⟨λh=>(by cases h),λh=>(by cases h)⟩,λi hi=>absurd hi (Nat.not_lt_zero _)⟩
section
variable {w:World} {b n:Nat} {sets:List (List Bool)}
theorem ez.vq(h:ez w b n sets):∃es c,w.heap[b]?=some (.map es c):=by
 obtain⟨D,⟨es,c,hb,_⟩,_⟩:=h;exact⟨es,c,hb⟩
theorem ez.lt(h:ez w b n sets):b<w.heap.size:=by
 obtain⟨D,h1,_⟩:=h;exact h1.lt
theorem ez.below{w':World}(h:ez w b n sets)(hb:Below w.heap.size w w'):ez w' b n sets:=by
 obtain⟨D,h1,h2⟩:=h;refine⟨D,?_,h2⟩;have aT:=h1.lt;obtain⟨es,clock,nh,F,hs,hD⟩:=h1;exact⟨es,clock,(hb.block b aT).trans nh,F,hs,hD⟩
theorem ez.kept{w':World}{row:Option Nat}(h:ez w b n sets)(hg:w.grownBy w' row)(bM:some b≠row):ez w' b n sets:=by
 obtain⟨D,h1,h2⟩:=h;exact⟨D,h1.kept hg bM,h2⟩
theorem ez.HA(h:ez w b n sets){y:List Bool}(hm:y∈sets)(hl:y.length=n)(hn:n<=4096):
 (Instr.lookup 187 (.map (some b)) (.string (Ar y)) true).run Tryz.prog w=.ok (.tuple #[.int .i64 (sets.idxOf y:Nat),.bool true]) w:=by
 obtain⟨D,h1,h2,h3⟩:=h;have hk:=List.idxOf_lt_length_of_mem hm;have e0:sets.getD (sets.idxOf y) []=y:=by
  rw[List.getD_eq_getElem?_getD,List.getElem?_eq_getElem hk,Option.getD_some];exact List.getElem_idxOf hk
 have h4:=h3 _ hk;rw[e0] at h4;obtain⟨v,ps,hr,hv⟩:=h1.look_ok sZ Eb (NW w) (zd:=.held (.int .i64 0)) (zp:=[]) rfl (FT (l:=y) (by omega));rw[h4] at hv;unfold Of at hv;have e1:=Option.some.inj hv;have e2:DataW.held v=DataW.held (Value.int .i64 (sets.idxOf y:Nat)):=congrArg Prod.fst e1;have e:v=Value.int .i64 (sets.idxOf y:Nat):=by injection e2
 rw[hr,e,(h2 _ hl).2 hm]
theorem ez.sK(h:ez w b n sets){y:List Bool}(hm:y∉sets)(hl:y.length=n)(hn:n<=4096):
 ∃v,(Instr.lookup 187 (.map (some b)) (.string (Ar y)) true).run Tryz.prog w=.ok (.tuple #[v,.bool false]) w:=by
 obtain⟨D,h1,h2,h3⟩:=h;obtain⟨v,ps,hr,hv⟩:=h1.look_ok sZ Eb (NW w) (zd:=.held (.int .i64 0)) (zp:=[]) rfl (FT (l:=y) (by omega));have:Maps.has D (Aq y)=false:=by
  cases hh:Maps.has D (Aq y) with
  | false=>rfl
  | true=>exact absurd ((h2 y hl).1 hh) hm
 exact⟨v,by rw[hr,this]⟩
theorem ez.store(h:ez w b n sets){y:List Bool}(hm:y∉sets)(hl:y.length=n)(hn:n<=4096)(hj:sets.length<100000):
 ∃w',(Instr.mapUpdate 187 (.map (some b)) (.string (Ar y)) (.int .i64 (sets.length:Nat))).run Tryz.prog w=.ok () w'/\ez w' b n (sets++[y])/\w.grownBy w' (some b):=by
 obtain⟨D,h1,h2,h3⟩:=h;have hI:=h1.isMap;have UN:=FT (l:=y) (by omega);obtain⟨w',hr,ho,hg⟩:=h1.update sZ Eb (by unfold maxLen;omega) UN (val:=.int .i64 (sets.length:Nat)) (d:=.held (.int .i64 (sets.length:Nat))) (ps:=[]) rfl;have sr:WideAt.IsKeyLit (Aq y):=sZ.key UN;refine⟨w',hr,⟨_,by rw[List.length_append,List.length_singleton];exact ho,λz hz=>?_,λi hi=>?_⟩,hg⟩
 .by_cases e:z=y;.subst e;exact⟨λ_=>by simp,λ_=>Maps.has_put_same hI sr _⟩
  .have bM:Aq z≠Aq y:=λh=>e (Kd h);rw[Maps.has_put_other bM,h2 z hz];simp[e]
 .rw[List.length_append,List.length_singleton] at hi;by_cases e:i=sets.length
  .subst e;have e2:(sets++[y]).getD sets.length []=y:=by simp[List.getD]
   rw[e2,Maps.atKey_put_same hI sr]
  .have Au:i<sets.length:=by omega
   have e2:(sets++[y]).getD i []=sets.getD i []:=by simp[List.getD,List.getElem?_append_left Au]
   have Xo:sets.getD i []∈sets:=by
    rw[List.getD_eq_getElem?_getD,List.getElem?_eq_getElem Au,Option.getD_some];exact List.getElem_mem Au
   have bM:Aq (sets.getD i [])≠Aq y:=λh=>hm (Kd h▸Xo);rw[e2,Maps.atKey_put_other bM];exact h3 i Au
end
def uY(K N:Nat)(T:List Int)(u:Nat)(s:Int)(t:Nat):List Nat:=((List.range t).filter λc=>decide (T.getD (u*K+c) 0=s)).map λc=>(u*K+c)%N
theorem PF(K N:Nat)(T:List Int)(u:Nat)(s:Int):uY K N T u s 0=[]:=rfl
theorem QU(K N:Nat)(T:List Int)(u:Nat)(s:Int)(t:Nat):uY K N T u s (t+1)=uY K N T u s t++if T.getD (u*K+t) 0=s then [(u*K+t)%N] else []:=by
 unfold uY;rw[List.range_succ,List.filter_append,List.map_append];congr 1;by_cases h:T.getD (u*K+t) 0=s;.rw[if_pos h,List.filter_cons,if_pos (decide_eq_true h)];rfl
 .rw[if_neg h,List.filter_cons,if_neg (by rw[decide_eq_false h];decide)];rfl
def nX(K N:Nat)(T:List Int)(us:List Nat)(s:Int):List Nat:=us.flatMap λu=>uY K N T u s K
theorem P9(K N:Nat)(T:List Int)(us:List Nat)(u:Nat)(s:Int):nX K N T (us++[u]) s=nX K N T us s++uY K N T u s K:=by simp[nX]
theorem HV{K N:Nat}{T:List Int}{us:List Nat}{s:Int}{v:Nat}:v∈nX K N T us s↔∃u∈us,∃c,c<K/\(u*K+c)%N=v/\T.getD (u*K+c) 0=s:=by
 unfold nX uY;simp only[List.mem_flatMap,List.mem_map,List.mem_filter,List.mem_range,decide_eq_true_eq];constructor;.rintro⟨u,hu,c,⟨hc,h2⟩,h3⟩;exact⟨u,hu,c,hc,h3,h2⟩
 .rintro⟨u,hu,c,hc,h3,h2⟩;exact⟨u,hu,c,⟨hc,h2⟩,h3⟩
theorem Co{l:List Bool}{n u:Nat}:u∈nM l n↔u<n/\l.getD u false=true:=by
 unfold nM;rw[List.mem_filter,List.mem_range]
theorem Nz{K N:Nat}{T:List Int}{us:List Nat}{s:Int}(hN:0<N):∀v∈nX K N T us s,v<N:=λv hv=>by
 obtain⟨u,_,c,_,e,_⟩:=HV.1 hv;rw[<-e];exact Nat.mod_lt _ hN
theorem qX{K N:Nat}{T:List Int}{l:List Bool}{s:Int}:setOf N (nX K N T (nM l N) s)=jj K N T l s:=by
 refine List.ext_getElem (by rw[j8,xY]) λv h1 h2=>?_;have h3:v<N:=by rw[j8] at h1;exact h1
 have e1:=yK (n:=N) (xs:=nX K N T (nM l N) s) h3;rw[List.getD_eq_getElem?_getD,List.getElem?_eq_getElem h1,Option.getD_some] at e1;rw[e1];have hi:=J1 (K:=K) (T:=T) (l:=l) (s:=s) h3;rw[List.getD_eq_getElem?_getD,List.getElem?_eq_getElem h2,Option.getD_some] at hi;have hm:v∈nX K N T (nM l N) s↔(jj K N T l s)[v]=true:=by
  rw[hi,HV];constructor;.rintro⟨u,hu,c,hc,a,b⟩;obtain⟨p,q⟩:=Co.1 hu;exact⟨u,p,q,c,hc,a,b⟩
  .rintro⟨u,p,q,c,hc,a,b⟩;exact⟨u,Co.2 ⟨p,q⟩,c,hc,a,b⟩
 by_cases hv:v∈nX K N T (nM l N) s;.rw[decide_eq_true hv];exact(hm.1 hv).symm
 .rw[decide_eq_false hv];cases hb:(jj K N T l s)[v] with
  | false=>rfl
  | true=>exact absurd (hm.2 hb) hv
theorem Bb{K N:Nat}{T:List Int}{l:List Bool}{s:Int}(hN:0<N):nX K N T (nM l N) s=[]↔(jj K N T l s).any id=false:=by
 constructor;.intro h;have e:=qX (K:=K) (N:=N) (T:=T) (l:=l) (s:=s);rw[h] at e;rw[<-e];show(List.replicate N false).any id=false;rw[List.any_eq_false];intro x hx;rw[List.eq_of_mem_replicate hx];decide
 .intro h;apply List.eq_nil_iff_forall_not_mem.2;intro v hv;have aT:=Nz hN v hv;have e1:=yK (n:=N) (xs:=nX K N T (nM l N) s) aT;rw[qX,decide_eq_true hv] at e1;have:=(FM (xY K N T l s)).2 ⟨v,aT,e1⟩;rw[h] at this;cases this
def FK(K N:Nat)(T:List Int)(s:Int)(u c:Nat)(out:List Bool):List Bool:=if T.getD (u*K+c) 0=s then out.set ((u*K+c)%N) true else out
def wG(K N:Nat)(T:List Int)(s:Int)(u:Nat):Nat->List Bool->List Bool
 | 0,out=>out
 | c+1,out=>FK K N T s u c (wG K N T s u c out)
def sF(K N:Nat)(T:List Int)(l:List Bool)(s:Int):Nat->List Bool
 | 0=>List.replicate N false
 | u+1=>if l.getD u false=true then wG K N T s u K (sF K N T l s u) else sF K N T l s u
theorem SG(K N:Nat)(T:List Int)(s:Int)(u c:Nat)(out:List Bool):(FK K N T s u c out).length=out.length:=by
 unfold FK;split<;>simp
theorem xZ(K N:Nat)(T:List Int)(s:Int)(u:Nat):∀(c:Nat) (out:List Bool),(wG K N T s u c out).length=out.length
 | 0,_=>rfl
 | c+1,out=>by unfold wG;rw[SG,xZ K N T s u c out]
theorem rh(K N:Nat)(T:List Int)(l:List Bool)(s:Int):∀u,(sF K N T l s u).length=N
 | 0=>by simp[sF]
 | u+1=>by
  unfold sF;split;.rw[xZ,rh K N T l s u]
  .exact rh K N T l s u
theorem O9{l:List Bool}{i v:Nat}(hi:i<l.length):(l.set i true).getD v false=true↔l.getD v false=true\/i=v:=by
 by_cases e:i=v;.subst e;simp[List.getD,hi]
 .simp[List.getD,List.getElem?_set_ne e,e]
theorem HK{K N:Nat}{T:List Int}{s:Int}{u:Nat}(hN:0<N):∀(c:Nat) (out:List Bool) (v:Nat),out.length=N ->
 ((wG K N T s u c out).getD v false=true↔out.getD v false=true\/∃c',c'<c/\(u*K+c')%N=v/\T.getD (u*K+c') 0=s)
 | 0,out,v,_=>by unfold wG;simp
 | c+1,out,v,hl=>by
  have ih:=HK hN c out v hl (K:=K) (T:=T) (s:=s) (u:=u);unfold wG FK;split
  .rename_i e;rw[O9 (by rw[xZ,hl];exact Nat.mod_lt _ hN),ih];constructor
   .rintro((h | ⟨c',h1,h2⟩) | h);.exact .inl h
    .exact .inr ⟨c',by omega,h2⟩
    .exact .inr ⟨c,by omega,h,e⟩
   .rintro(h | ⟨c',h1,h2,h3⟩);.exact .inl (.inl h)
    .by_cases q:c'=c;.subst q;exact .inr h2
     .exact .inl (.inr ⟨c',by omega,h2,h3⟩)
  .rename_i e;rw[ih];constructor
   .rintro(h | ⟨c',h1,h2⟩);.exact .inl h
    .exact .inr ⟨c',by omega,h2⟩
   .rintro(h | ⟨c',h1,h2,h3⟩);.exact .inl h
    .by_cases q:c'=c;.subst q;exact absurd h3 e
     .exact .inr ⟨c',by omega,h2,h3⟩
theorem HJ{K N:Nat}{T:List Int}{l:List Bool}{s:Int}(hN:0<N):∀(n v:Nat),
 ((sF K N T l s n).getD v false=true↔∃u,u<n/\l.getD u false=true/\∃c,c<K/\(u*K+c)%N=v/\T.getD (u*K+c) 0=s)
 | 0,v=>by
  have:(List.replicate N false).getD v false=false:=by
   by_cases h:v<N<;>simp[List.getD,h]
  unfold sF;rw[this];exact⟨λh=>(by cases h),λ⟨u,h,_⟩=>absurd h (Nat.not_lt_zero _)⟩
 | n+1,v=>by
  have ih:=HJ hN n v (K:=K) (T:=T) (l:=l) (s:=s);unfold sF;split
  .rename_i e;rw[HK hN _ _ _ (rh _ _ _ _ _ _),ih];constructor
   .rintro(⟨u,h1,h2⟩ | h);.exact⟨u,by omega,h2⟩
    .exact⟨n,by omega,e,h⟩
   .rintro⟨u,h1,h2,h3⟩;by_cases q:u=n;.subst q;exact .inr h3
    .exact .inl ⟨u,by omega,h2,h3⟩
  .rename_i e;rw[ih];constructor;.rintro⟨u,h1,h2⟩;exact⟨u,by omega,h2⟩
   .rintro⟨u,h1,h2,h3⟩;by_cases q:u=n;.subst q;exact absurd h2 e
    .exact⟨u,by omega,h2,h3⟩
theorem Tb{K N:Nat}{T:List Int}{l:List Bool}{s:Int}(hN:0<N):sF K N T l s N=jj K N T l s:=by
 refine List.ext_getElem (by rw[rh,xY]) λv h1 h2=>?_;have hv:v<N:=by rw[rh] at h1;exact h1
 have a:=HJ hN N v (K:=K) (T:=T) (l:=l) (s:=s);have b:=J1 (K:=K) (T:=T) (l:=l) (s:=s) hv;rw[<-b] at a;rw[List.getD_eq_getElem?_getD,List.getElem?_eq_getElem h1,Option.getD_some,List.getD_eq_getElem?_getD,List.getElem?_eq_getElem h2,Option.getD_some] at a;cases x:(sF K N T l s N)[v]<;>cases y:(jj K N T l s)[v]<;>simp_all
structure WO (words:List (List Int)) (fr bs:List Int):Prop where
 fl:fr.length=words.length
 bl:bs.length=words.length
 z0:words.getD 0 []=[]
 up:∀j,0<j->j<words.length->∃q:Nat,q<j/\fr.getD j 0=q/\words.getD j []=words.getD q []++[bs.getD j 0]
theorem WO.init:WO [[]] [0] [0]:=⟨rfl,rfl,rfl,λj h1 h2=>by simp at h2;omega⟩
theorem mO{α:Type}{l m:List α}{j:Nat}{d:α}(h:j<l.length):(l++m).getD j d=l.getD j d:=by
 simp[List.getD,List.getElem?_append_left h]
theorem yY{α:Type}{l:List α}{x d:α}{n:Nat}(h:l.length=n):(l++[x]).getD n d=x:=by subst h;simp[List.getD]
theorem WO.more{words:List (List Int)}{fr bs:List Int}(h:WO words fr bs){i:Nat}(hi:i<words.length)(t:Int):WO (words++[words.getD i []++[t]]) (fr++[(i:Int)]) (bs++[t]):=by
 refine⟨by simp[h.fl],by simp[h.bl],by rw[mO (by omega)];exact h.z0,λj h1 h2=>?_⟩;rw[List.length_append,List.length_singleton] at h2;by_cases e:j=words.length;.subst e;refine⟨i,hi,yY h.fl,?_⟩;rw[yY rfl,yY h.bl,mO hi]
 .obtain⟨q,a,b,c⟩:=h.up j h1 (by omega);refine⟨q,a,by rw[mO (by rw[h.fl];omega)];exact b,?_⟩;rw[mO (show j<words.length by omega),mO (show q<words.length by omega),mO (by rw[h.bl];omega)];exact c
end Go.Proofs.YtgjfejfeoofkhaaGreatDoor
