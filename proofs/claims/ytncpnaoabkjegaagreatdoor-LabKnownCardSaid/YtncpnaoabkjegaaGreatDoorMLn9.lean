/-
  Texts that the proof leans on.
-/
import Derived.Test.YtncpnaoabkjegaaGreatDoorMLn8
namespace Go.Proofs.YtncpnaoabkjegaaGreatDoor
structure MIn (N:Nat) (adj:Nat→List Nat) (D:Nat→Nat) (q:List Nat) (i v:Nat) (pre:List Nat):Prop where
 at_:q[i]?=some v
 nodup:q.Nodup
 low:∀ x∈q,x<N*N
 diag:∀ x,x<N*N→Diag N x→x∈q∧D x=0
 old:∀ x,x<N*N→¬ Diag N x→(x∈q↔0<D x)
 mono:∀ (j k x y:Nat),j≤k→q[j]?=some x→q[k]?=some y→D x≤D y
 top:∀ x∈q,D x≤D v+1
 bnd:∀ x∈q,D x≤q.length
 done:∀ (k x:Nat),k<i→q[k]?=some x→∀ t∈adj x,(¬ Diag N t→t∈q∧D t≤D x+1)∧(Diag N t→Diag N x)
 now:∀ t∈pre,(¬ Diag N t→t∈q∧D t≤D v+1)∧(Diag N t→Diag N v)
structure MOut (N:Nat) (adj:Nat→List Nat) (D:Nat→Nat) (q:List Nat) (i:Nat):Prop where
 nodup:q.Nodup
 low:∀ x∈q,x<N*N
 diag:∀ x,x<N*N→Diag N x→x∈q∧D x=0
 old:∀ x,x<N*N→¬ Diag N x→(x∈q↔0<D x)
 mono:∀ (j k x y:Nat),j≤k→q[j]?=some x→q[k]?=some y→D x≤D y
 top:∀ v:Nat,q[i]?=some v→∀ x∈q,D x≤D v+1
 bnd:∀ x∈q,D x≤q.length
 done:∀ (k x:Nat),k<i→q[k]?=some x→∀ t∈adj x,(¬ Diag N t→t∈q∧D t≤D x+1)∧(Diag N t→Diag N x)
section
variable {N:Nat} {adj:Nat→List Nat} {D:Nat→Nat} {q:List Nat} {i v:Nat} {pre:List Nat}
def diags (N:Nat):List Nat:=(List.range N).map fun u=>u*N+u
theorem mem_diags {N x:Nat}:x∈diags N↔∃ u,u<N∧x=u*N+u:=by
 unfold diags; rw [List.mem_map]
 constructor
 ·rintro ⟨u,h,rfl⟩; exact ⟨u,List.mem_range.1 h,rfl⟩
 ·rintro ⟨u,h,rfl⟩; exact ⟨u,List.mem_range.2 h,rfl⟩
theorem MOut.init (N:Nat) (adj:Nat→List Nat):MOut N adj (fun _=>0) (diags N) 0:=by
 refine ⟨?_,fun x hx=>?_,fun x hx hd=>⟨mem_diags.2 ⟨x/N,div_lt_of hx,hd.eq⟩,rfl⟩,fun x hx hd=>⟨fun h=>?_,fun h=>absurd h (by simp)⟩,fun _ _ _ _ _ _ _=>Nat.le_refl _,fun _ _ _ _=>by simp,fun _ _=>Nat.zero_le _,fun k x hk=>by omega⟩
 ·unfold diags
  rw [List.nodup_iff_pairwise_ne,List.pairwise_map]
  refine List.pairwise_lt_range.imp_of_mem fun {a b} ha hb h e=>?_
  have hb:=List.mem_range.1 hb
  have:=Nat.mul_le_mul_right N (show a+1≤b by omega)
  rw [Nat.add_mul] at this
  omega
 ·obtain ⟨u,hu,rfl⟩:=mem_diags.1 hx
  exact pair_lt hu hu
 ·obtain ⟨u,hu,rfl⟩:=mem_diags.1 h
  exact absurd (diag_mk hu) hd
theorem MOut.enter (h:MOut N adj D q i) (hv:q[i]?=some v):MIn N adj D q i v [] :=
 ⟨hv,h.nodup,h.low,h.diag,h.old,h.mono,h.top v hv,h.bnd,h.done,fun _ ht=>by cases ht⟩
theorem MIn.leave (h:MIn N adj D q i v pre) (hp:pre=adj v):MOut N adj D q (i+1):=by
 subst hp
 refine ⟨h.nodup,h.low,h.diag,h.old,h.mono,fun y hy x hx=>?_,h.bnd,fun k x hk hx=>?_⟩
 ·have:=h.mono i (i+1) v y (by omega) h.at_ hy
  have:=h.top x hx
  omega
 ·by_cases e:k=i
  ·subst e
   rw [h.at_] at hx; cases hx
   exact h.now
  ·exact h.done k x (by omega) hx
theorem MIn.skip (h:MIn N adj D q i v pre) {t:Nat} (ht:(Diag N t∧Diag N v)∨(¬ Diag N t∧t∈q)):MIn N adj D q i v (pre++[t]):=by
 refine ⟨h.at_,h.nodup,h.low,h.diag,h.old,h.mono,h.top,h.bnd,h.done,fun s hs=>?_⟩
 rcases List.mem_append.1 hs with hs | hs
 ·exact h.now s hs
 ·cases List.mem_singleton.1 hs
  rcases ht with ⟨h1,h2⟩ | ⟨h1,h2⟩
  ·exact ⟨fun q=>absurd h1 q,fun _=>h2⟩
  ·exact ⟨fun _=>⟨h2,h.top _ h2⟩,fun q=>absurd q h1⟩
theorem MIn.add (h:MIn N adj D q i v pre) {t:Nat} (htl:t<N*N) (ht:¬ Diag N t) (hq:t∉q):MIn N adj (updN D t (D v+1)) (q++[t]) i v (pre++[t]):=by
 have hi:i<q.length:=(List.getElem?_eq_some_iff.1 h.at_).1
 have hvq:v∈q:=List.mem_of_getElem? h.at_
 have hvt:v≠t:=fun e=>hq (by rw [← e]; exact hvq)
 have hD:∀ x,x∈q→updN D t (D v+1) x=D x:=fun x hx=>updN_other _ _ _ (fun e=>hq (by rw [← e]; exact hx))
 have hget:∀ k x,(q++[t])[k]?=some x→(q[k]?=some x∧k<q.length)∨(k=q.length∧x=t):=fun k x hx=>by
  rw [List.getElem?_append] at hx
  split at hx
  ·exact .inl ⟨hx,by assumption⟩
  ·right
   cases hk:k-q.length with
   | zero=>rw [hk] at hx; simp at hx; exact ⟨by omega,hx.symm⟩
   | succ n=>rw [hk] at hx; simp at hx
 refine ⟨by rw [List.getElem?_append_left hi]; exact h.at_,List.nodup_append.2 ⟨h.nodup,by simp,fun a ha b hb e=>by cases List.mem_singleton.1 hb; subst e; exact hq ha⟩,fun x hx=>?_,fun x hx hd=>?_,fun x hx hd=>?_,fun j k x y hjk hx hy=>?_,fun x hx=>?_,fun x hx=>?_,fun k x hk hx s hs=>?_,fun s hs=>?_⟩
 ·rcases List.mem_append.1 hx with hx | hx
  ·exact h.low x hx
  ·cases List.mem_singleton.1 hx; exact htl
 ·obtain ⟨h1,h2⟩:=h.diag x hx hd
  exact ⟨List.mem_append_left _ h1,by rw [hD x h1]; exact h2⟩
 ·by_cases e:x=t
  ·subst e; rw [updN_same]; simp
  ·rw [updN_other _ _ _ e,← h.old x hx hd]; simp [e]
 ·rcases hget j x hx with ⟨a1,_⟩ | ⟨a1,rfl⟩
  ·rw [hD x (List.mem_of_getElem? a1)]
   rcases hget k y hy with ⟨b1,_⟩ | ⟨b1,rfl⟩
   ·rw [hD y (List.mem_of_getElem? b1)]; exact h.mono j k x y hjk a1 b1
   ·rw [updN_same]; exact h.top x (List.mem_of_getElem? a1)
  ·rcases hget k y hy with ⟨b1,b2⟩ | ⟨b1,rfl⟩
   ·omega
   ·exact Nat.le_refl _
 ·rw [updN_other D t (D v+1) hvt]
  rcases List.mem_append.1 hx with hx | hx
  ·rw [hD x hx]; exact h.top x hx
  ·cases List.mem_singleton.1 hx; rw [updN_same]; exact Nat.le_refl _
 ·rw [List.length_append,List.length_singleton]
  rcases List.mem_append.1 hx with hx | hx
  ·rw [hD x hx]; have:=h.bnd x hx; omega
  ·cases List.mem_singleton.1 hx; rw [updN_same]; have:=h.bnd v hvq; omega
 ·rcases hget k x hx with ⟨a1,_⟩ | ⟨a1,rfl⟩
  ·rw [hD x (List.mem_of_getElem? a1)]
   obtain ⟨c1,c2⟩:=h.done k x hk a1 s hs
   exact ⟨fun q'=>by
    obtain ⟨d1,d2⟩:=c1 q'
    exact ⟨List.mem_append_left _ d1,by rw [hD s d1]; exact d2⟩,c2⟩
  ·omega
 ·rw [updN_other D t (D v+1) hvt]
  rcases List.mem_append.1 hs with hs | hs
  ·obtain ⟨c1,c2⟩:=h.now s hs
   exact ⟨fun q'=>by
    obtain ⟨d1,d2⟩:=c1 q'
    exact ⟨List.mem_append_left _ d1,by rw [hD s d1]; exact d2⟩,c2⟩
  ·cases List.mem_singleton.1 hs
   exact ⟨fun _=>⟨List.mem_append_right _ (by simp),by rw [updN_same]; exact Nat.le_refl _⟩,fun q'=>absurd q' ht⟩
theorem MOut.along (h:MOut N adj D q i) {u:List Nat} (hu:ApartWay N adj u):∀ j,j+1<u.length →
 (∃ k,k≤j∧u.getD k 0∈q∧D (u.getD k 0)≤k∧∀ m,m<i→q[m]?≠some (u.getD k 0))∨(u.getD j 0∈q∧D (u.getD j 0)≤j∧∃ m,m<i∧q[m]?=some (u.getD j 0))
 | 0,h1=>by
  obtain ⟨a,b⟩:=h.diag _ (hu.low 0 (by omega)) hu.fst
  by_cases q':∃ m,m<i∧q[m]?=some (u.getD 0 0)
  ·exact .inr ⟨a,by omega,q'⟩
  ·exact .inl ⟨0,Nat.le_refl _,a,by omega,fun m hm e=>q' ⟨m,hm,e⟩⟩
 | j+1,h1=>by
  rcases h.along hu j (by omega) with ⟨k,k1,k2,k3,k4⟩ | ⟨_,a2,m,m1,m2⟩
  ·exact .inl ⟨k,by omega,k2,k3,k4⟩
  ·obtain ⟨c1,_⟩:=h.done m _ m1 m2 _ (hu.arr j (by omega))
   obtain ⟨d1,d2⟩:=c1 (hu.inn (j+1) (by omega) h1)
   by_cases q':∃ m,m<i∧q[m]?=some (u.getD (j+1) 0)
   ·exact .inr ⟨d1,by omega,q'⟩
   ·exact .inl ⟨j+1,Nat.le_refl _,d1,by omega,fun m hm e=>q' ⟨m,hm,e⟩⟩
theorem MOut.none (h:MOut N adj D q i) (hi:q.length≤i) (u:List Nat):¬ ApartWay N adj u:=fun hu=>by
 have h3:=hu.len
 rcases h.along hu (u.length-2) (by omega) with ⟨k,_,k2,_,k4⟩ | ⟨_,_,m,m1,m2⟩
 ·obtain ⟨m,hm⟩:=List.mem_iff_getElem?.1 k2
  have:=(List.getElem?_eq_some_iff.1 hm).1
  exact k4 m (by omega) hm
 ·obtain ⟨_,c2⟩:=h.done m _ m1 m2 _ (hu.arr (u.length-2) (by omega))
  refine hu.inn (u.length-2) (by omega) (by omega) (c2 ?_)
  rw [show u.length-2+1=u.length-1 by omega]
  exact hu.lst
theorem MIn.best (h:MIn N adj D q i v pre) {u:List Nat} (hu:ApartWay N adj u):D v+3≤u.length+1:=by
 have h3:=hu.len
 have ho:MOut N adj D q i:=⟨h.nodup,h.low,h.diag,h.old,h.mono,fun y hy=>by rw [h.at_] at hy; cases hy; exact h.top,h.bnd,h.done⟩
 rcases ho.along hu (u.length-2) (by omega) with ⟨k,k1,k2,k3,k4⟩ | ⟨_,_,m,m1,m2⟩
 ·obtain ⟨m,hm⟩:=List.mem_iff_getElem?.1 k2
  have hmi:i≤m:=Nat.le_of_not_lt fun q'=>k4 m q' hm
  have:=h.mono i m v _ hmi h.at_ hm
  omega
 ·obtain ⟨_,c2⟩:=h.done m _ m1 m2 _ (hu.arr (u.length-2) (by omega))
  refine absurd (c2 ?_) (hu.inn (u.length-2) (by omega) (by omega))
  rw [show u.length-2+1=u.length-1 by omega]
  exact hu.lst
def CameOf (N:Nat) (adj:Nat→List Nat) (D:Nat→Nat) (q:List Nat) (came:Nat→Int):Prop :=
 (∀ x,x<N*N→((came x<0↔Diag N x∨x∉q)∧(came x<0→came x=-1)))∧∀ x,x<N*N→0≤came x→∃ p:Nat,came x=p∧p∈q∧x∈adj p∧D x=D p+1
theorem CameOf.init (N:Nat) (adj:Nat→List Nat):CameOf N adj (fun _=>0) (diags N) (fun _=>-1):=by
 refine ⟨fun x hx=>⟨⟨fun _=>?_,fun _=>(by show (-1:Int)<0; decide)⟩,fun _=>rfl⟩,fun x _ h=>by simp at h⟩
 by_cases hd:Diag N x
 ·exact .inl hd
 ·right
  intro hm
  obtain ⟨u,hu,rfl⟩:=mem_diags.1 hm
  exact hd (diag_mk hu)
theorem CameOf.add (h:MIn N adj D q i v pre) {came:Nat→Int} (hc:CameOf N adj D q came) {t:Nat} (ht:¬ Diag N t) (hq:t∉q) (ha:t∈adj v):CameOf N adj (updN D t (D v+1)) (q++[t]) (updN came t (v:Int)):=by
 have hvq:v∈q:=List.mem_of_getElem? h.at_
 have hvt:v≠t:=fun e=>hq (by rw [← e]; exact hvq)
 refine ⟨fun x hx=>?_,fun x hx h0=>?_⟩
 ·by_cases e:x=t
  ·subst e; rw [updN_same]
   exact ⟨⟨fun q'=>by omega,fun q'=>by rcases q' with q' | q'; exact absurd q' ht; exact absurd (List.mem_append_right _ (by simp)) q'⟩,fun q'=>by omega⟩
  ·rw [updN_other _ _ _ e]
   obtain ⟨a,b⟩:=hc.1 x hx
   refine ⟨?_,b⟩
   rw [a]; simp [e]
 ·by_cases e:x=t
  ·subst e
   refine ⟨v,updN_same ..,List.mem_append_left _ hvq,ha,?_⟩
   rw [updN_same,updN_other _ _ _ hvt]
  ·rw [updN_other _ _ _ e] at h0 ⊢
   obtain ⟨p,p1,p2,p3,p4⟩:=hc.2 x hx h0
   refine ⟨p,p1,List.mem_append_left _ p2,p3,?_⟩
   rw [updN_other _ _ _ e,updN_other _ _ _ (fun e'=>hq (by rw [← e']; exact p2))]
   exact p4
inductive BackWay (N:Nat) (adj:Nat→List Nat) (came:Nat→Int):Nat→List Nat→Prop
 | stop (x:Nat) (h:came x=-1) (hd:Diag N x):BackWay N adj came x [x]
 | step (x p:Nat) (c:List Nat) (h:came x=p) (hd:¬ Diag N x) (ha:x∈adj p) (hp:p<N*N) (hc:BackWay N adj came p c):BackWay N adj came x (x::c)
theorem CameOf.back {came:Nat→Int} (hq:∀ x∈q,x<N*N) (h0:∀ x∈q,¬ Diag N x→0<D x) (hc:CameOf N adj D q came):∀ n x,D x=n→x∈q→∃ c,BackWay N adj came x c∧c.length≤n+1
 | n,x,hn,hx=>by
  obtain ⟨a,b⟩:=hc.1 x (hq x hx)
  by_cases hd:Diag N x
  ·exact ⟨[x],.stop x (b (a.2 (.inl hd))) hd,by simp⟩
  ·have h1:0≤came x:=by
    apply Classical.byContradiction
    intro q'
    rcases a.1 (by omega) with q' | q'
    ·exact hd q'
    ·exact q' hx
   obtain ⟨p,p1,p2,p3,p4⟩:=hc.2 x (hq x hx) h1
   obtain ⟨c,c1,c2⟩:=CameOf.back hq h0 hc (n-1) p (by omega) p2
   exact ⟨x::c,.step x p c p1 hd p3 (hq p p2) c1,by simp; omega⟩
termination_by n=>n
decreasing_by all_goals (have:=h0 x hx hd; omega)
theorem BackWay.ne {came:Nat→Int} {x:Nat} {c:List Nat} (h:BackWay N adj came x c):∃ c',c=x::c':=by cases h<;>exact ⟨_,rfl⟩
theorem BackWay.next {came:Nat→Int} {x:Nat} {c:List Nat} (h:BackWay N adj came x c) (hx:x<N*N):∀ k y,c[k]?=some y→y<N*N∧((k+1<c.length∧∃ z,c[k+1]?=some z∧came y=z)∨(k+1=c.length∧came y=-1)):=by
 induction h with
 | stop x h hd =>
  intro k y hy
  cases k with
  | zero=>simp at hy; subst hy; exact ⟨hx,.inr ⟨rfl,h⟩⟩
  | succ k=>simp at hy
 | step x p c hcm hnd ha hp hc ih =>
  intro k y hy
  obtain ⟨c',rfl⟩:=hc.ne
  cases k with
  | zero=>simp at hy; subst hy; exact ⟨hx,.inl ⟨by simp,p,rfl,hcm⟩⟩
  | succ k =>
   have hy:(p::c')[k]?=some y:=by simpa using hy
   obtain ⟨h1,h2⟩:=ih hp k y hy
   refine ⟨h1,h2.imp ?_ ?_⟩
   ·rintro ⟨a,z,b,d⟩; exact ⟨by simpa using a,z,by simpa using b,d⟩
   ·rintro ⟨a,b⟩; exact ⟨by simpa using a,b⟩
theorem BackWay.way {came:Nat→Int} {x:Nat} {c:List Nat} (h:BackWay N adj came x c) (hx:x<N*N) :
 (∀ i,i<c.length→c.reverse.getD i 0<N*N)∧(∀ i,i+1<c.length→c.reverse.getD (i+1) 0∈adj (c.reverse.getD i 0))∧Diag N (c.reverse.getD 0 0)∧(∀ i,0<i→i<c.length→¬ Diag N (c.reverse.getD i 0))∧c.reverse.getD (c.length-1) 0=x∧0<c.length:=by
 induction h with
 | stop x _ hd=>exact ⟨fun i hi=>by simp at hi; subst hi; simpa using hx,fun i hi=>by simp at hi,by simpa using hd,fun i h1 h2=>by simp at h2; omega,by simp,by simp⟩
 | step x p c hcm hnd ha hp hc ih =>
  obtain ⟨i1,i2,i3,i4,i5,i6⟩:=ih hp
  have g1:∀ i,i<c.length→(x::c).reverse.getD i 0=c.reverse.getD i 0:=fun i hi=>by
   rw [List.reverse_cons,List.getD_eq_getElem?_getD,List.getElem?_append_left (by simpa using hi)]; rfl
  have g2:(x::c).reverse.getD c.length 0=x:=by
   rw [List.reverse_cons,List.getD_eq_getElem?_getD,List.getElem?_append_right (by simp)]; simp
  refine ⟨fun i hi=>?_,fun i hi=>?_,?_,fun i h1 h2=>?_,?_,by simp⟩
  ·by_cases e:i<c.length
   ·rw [g1 i e]; exact i1 i e
   ·obtain rfl:i=c.length:=by simp at hi; omega
    rw [g2]; exact hx
  ·have hi:i+1<c.length+1:=by simpa using hi
   rw [g1 i (by omega)]
   by_cases e:i+1<c.length
   ·rw [g1 _ e]; exact i2 i e
   ·obtain rfl:i=c.length-1:=by omega
    rw [i5,show c.length-1+1=c.length by omega,g2]; exact ha
  ·rw [g1 0 i6]; exact i3
  ·by_cases e:i<c.length
   ·rw [g1 i e]; exact i4 i h1 e
   ·obtain rfl:i=c.length:=by simp at h2; omega
    rw [g2]; exact hnd
  ·rw [List.length_cons,Nat.add_sub_cancel,g2]
theorem MIn.met (h:MIn N adj D q i v pre) {came:Nat→Int} (hc:CameOf N adj D q came) {t:Nat} (hv:¬ Diag N v) (ht:Diag N t) (htl:t<N*N) (ha:t∈adj v) :
 ∃ c,BackWay N adj came v c∧ApartWay N adj (c.reverse++[t])∧(c.reverse++[t]).length=D v+2∧∀ u,ApartWay N adj u→(c.reverse++[t]).length≤u.length:=by
 have hvq:v∈q:=List.mem_of_getElem? h.at_
 obtain ⟨c,hb,hl⟩:=hc.back h.low (fun x hx hd=>(h.old x (h.low x hx) hd).1 hx) (D v) v rfl hvq
 obtain ⟨w1,w2,w3,w4,w5,w6⟩:=hb.way (h.low v hvq)
 have h2:2≤c.length:=by
  obtain ⟨c',rfl⟩:=hb.ne
  cases hb with
  | stop _ _ hd=>exact absurd hd hv
  | step _ p _ _ _ _ _ hc'=>obtain ⟨_,rfl⟩:=hc'.ne; simp
 have g1:∀ i,i<c.length→(c.reverse++[t]).getD i 0=c.reverse.getD i 0:=fun i hi=>by
  rw [List.getD_eq_getElem?_getD,List.getElem?_append_left (by simpa using hi)]; rfl
 have g2:(c.reverse++[t]).getD c.length 0=t:=by
  rw [List.getD_eq_getElem?_getD,List.getElem?_append_right (by simp)]; simp
 have hL:(c.reverse++[t]).length=c.length+1:=by simp
 have hw:ApartWay N adj (c.reverse++[t]):=by
  refine ⟨by omega,fun i hi=>?_,fun i hi=>?_,?_,?_,fun i h1 h2=>?_⟩
  ·by_cases e:i<c.length
   ·rw [g1 i e]; exact w1 i e
   ·obtain rfl:i=c.length:=by omega
    rw [g2]; exact htl
  ·rw [g1 i (by omega)]
   by_cases e:i+1<c.length
   ·rw [g1 _ e]; exact w2 i e
   ·obtain rfl:i=c.length-1:=by omega
    rw [w5,show c.length-1+1=c.length by omega,g2]; exact ha
  ·rw [g1 0 (by omega)]; exact w3
  ·rw [hL,Nat.add_sub_cancel,g2]; exact ht
  ·rw [g1 i (by omega)]; exact w4 i h1 (by omega)
 have hmin:∀ u,ApartWay N adj u→D v+2≤u.length:=fun u hu=>by have:=h.best hu; omega
 have:=hmin _ hw
 refine ⟨c,hb,hw,by omega,fun u hu=>?_⟩
 have:=hmin u hu
 omega
end
theorem diag_arr {K N:Nat} {T:List Int} {u s:Nat} (hu:u<N) (hs:s<K):toN K N u s*N+toN K N u s∈pairL K N T (u*N+u):=by
 rw [mem_pairL (by omega),pair_div hu,pair_mod hu]
 exact ⟨s,s,hs,hs,rfl,rfl⟩
theorem diag_word {K N:Nat} {T:List Int} {u:Nat} (hu:u<N):∀ (n:Nat) (xs:List Int),xs.length=n→Syms K xs→Goes (pairL K N T) (u*N+u) ((u*pw K xs.length+numW K xs)%N*N+(u*pw K xs.length+numW K xs)%N)
 | 0,xs,hn,_=>by
  obtain rfl:=List.length_eq_zero_iff.1 hn
  rw [show u*pw K ([]:List Int).length+numW K []=u by simp [pw,numW],Nat.mod_eq_of_lt hu]
  exact .refl _
 | n+1,xs,hn,hx=>by
  have hne:xs≠[]:=by intro e; subst e; simp at hn
  obtain ⟨b,x,rfl⟩:∃ b x,xs=b++[x]:=⟨xs.dropLast,xs.getLast hne,(List.dropLast_concat_getLast hne).symm⟩
  have hb:b.length=n:=by simpa using hn
  have ih:=diag_word (T:=T) hu n b hb (fun y hy=>hx y (List.mem_append_left _ hy))
  have hxs:=hx x (by simp)
  refine .step ih ?_
  have:=diag_arr (T:=T) (u:=(u*pw K b.length+numW K b)%N) (s:=x.toNat) (Nat.mod_lt _ (by omega)) (show x.toNat<K by omega)
  have e:toN K N ((u*pw K b.length+numW K b)%N) x.toNat=(u*pw K (b++[x]).length+numW K (b++[x]))%N:=by
   unfold toN
   rw [numW_snoc,List.length_append,List.length_singleton,pw_succ,← Nat.mul_assoc,show u*pw K b.length*K+(numW K b*K+x.toNat)=(u*pw K b.length+numW K b)*K+x.toNat by rw [Nat.add_mul]; omega]
   rw [Nat.add_mod,Nat.mul_mod,Nat.mod_mod,← Nat.mul_mod,← Nat.add_mod]
  rw [e] at this
  exact this
theorem diag_goes {K R:Nat} {T:List Int} {u v:Nat} (hK:1≤K) (hu:u<pw K (2*R)) (hv:v<pw K (2*R)):Goes (pairL K (pw K (2*R)) T) (u*pw K (2*R)+u) (v*pw K (2*R)+v):=by
 have:=diag_word (T:=T) hu (2*R) (digs K (2*R) v) (digs_length ..) (digs_syms hK _ _)
 rw [digs_length,numW_digs hK _ _ hv,show u*pw K (2*R)+v=pw K (2*R)*u+v by rw [Nat.mul_comm],Nat.mul_add_mod,Nat.mod_eq_of_lt hv] at this
 exact this
open Go.RowKit
set_option maxRecDepth 100000
set_option maxHeartbeats 8000000
theorem oddTo_ok {G:List (List Int)} (hok:GraphOk G):∀ k,k≤G.length→oddTo G k<0
 | 0,_=>by simp [oddTo]
 | k+1,hk=>oddTo_miss (oddTo_ok hok k (by omega)) fun t ht=>by
  have:=hok k (by omega) t ht
  simp [oddT]; omega
theorem checkG_ok {G:List (List Int)} (h1:G.length≤8192) (h2:arrowsTo G G.length≤262144) (hok:GraphOk G):checkG G=none:=by
 unfold checkG
 rw [if_neg (by omega),if_neg (by omega),if_neg (by have:=oddTo_ok hok G.length (Nat.le_refl _); omega)]
section
variable {K N:Nat} {T:List Int}
theorem pairG_len:(pairG K N T).length=N*N:=rowsOf_len _ _
theorem pairG_row {p:Nat} (hp:p<N*N):(pairG K N T).getD p []=castI (pairL K N T p):=rowsOf_get _ _ _ hp
theorem pairG_adj {p:Nat} (hp:p<N*N):adjOf (pairG K N T) p=pairL K N T p:=by
 unfold adjOf
 rw [pairG_row hp,castI,List.map_map]
 exact List.map_id _
theorem pairG_ok (hN:0<N):GraphOk (pairG K N T):=by
 intro v hv t ht
 rw [pairG_len] at hv
 rw [pairG_row hv] at ht
 obtain ⟨q,hq,rfl⟩:=List.mem_map.1 ht
 have:=((mem_pairL hN).1 hq).lt hN
 rw [pairG_len]
 omega
theorem pairG_arrows:∀ k,k≤N*N→arrowsTo (pairG K N T) k≤k*(K*K)
 | 0,_=>by simp [arrowsTo]
 | k+1,hk=>by
  have:=pairG_arrows k (by omega)
  simp only [arrowsTo]
  rw [pairG_row (by omega),castI_len,Nat.add_mul]
  have:=pairL_len K N T k
  omega
theorem pairG_check (hN:0<N) (hN81:N≤81) (hNK:N*K≤256):checkG (pairG K N T)=none:=by
 refine checkG_ok ?_ ?_ (pairG_ok hN)
 ·rw [pairG_len]; have:=Nat.mul_le_mul hN81 hN81; omega
 ·rw [pairG_len]
  have:=pairG_arrows (K:=K) (N:=N) (T:=T) (N*N) (Nat.le_refl _)
  have h2:=Nat.mul_le_mul hNK hNK
  rw [show N*K*(N*K)=N*N*(K*K) by rw [Nat.mul_assoc,Nat.mul_left_comm K,← Nat.mul_assoc]] at h2
  omega
theorem pairG_goes (hN:0<N) {x y:Nat} (h:Goes (pairL K N T) x y) (hx:x<N*N):Goes (adjOf (pairG K N T)) x y∧y<N*N:=by
 induction h with
 | refl=>exact ⟨.refl _,hx⟩
 | step h hz ih =>
  exact ⟨.step ih.1 (by rw [pairG_adj ih.2]; exact hz),((mem_pairL hN).1 hz).lt hN⟩
end
theorem diag_live {K R:Nat} {T:List Int} {u:Nat} (hK:1≤K) (hu:u<pw K (2*R)):IsLive (pw K (2*R)*pw K (2*R)) (adjOf (pairG K (pw K (2*R)) T)) (u*pw K (2*R)+u):=by
 have hp:=pair_lt hu hu
 have hN:0<pw K (2*R):=by omega
 have ht:=toN_lt (K:=K) (u:=u) (s:=0) hN
 have hl:OnLoop (adjOf (pairG K (pw K (2*R)) T)) (u*pw K (2*R)+u) :=
  ⟨toN K (pw K (2*R)) u 0*pw K (2*R)+toN K (pw K (2*R)) u 0,by rw [pairG_adj hp]; exact diag_arr hu hK,(pairG_goes hN (diag_goes hK ht hu) (pair_lt ht ht)).1⟩
 exact ⟨⟨_,hp,hl,.refl _⟩,⟨_,hp,hl,.refl _⟩⟩
theorem pgraph_bad (r:Nat→Addr) (k R:Int) (va:Option Addr) (vn vc:Nat) (T:List Int) (t:Int×List (ByteArray×Int)) (w:World) (hg:Glob r w) (h:IntsAt w (.slice va vn vc) T) (hc:smallP k R T=some t) :
 Calls Tryz.prog 50 #[.agg #[.int .i64 k,.int .i64 R,.slice va vn vc]] w (Ret2 (fun x y w'=>x=.slice none 0 0∧ErrIs r w' (under sPairs 0 (some t)) y) w):=by
 have b0:=belowAlloc w (.cells #[.int .i64 k,.int .i64 R,.slice va vn vc] 24)
 replace hg:=Hd (hg.below b0)
 replace h:=Hd (h.below b0)
 replace hc:=Hd hc
 go_enter Tryz.func50,Tryz.ntmps50
 go_wp2_with fail
 refine (working_bad r k R va vn vc T t _ hg.out h.out hc.out).mono ?_
 rintro e w1 ⟨x,y,rfl,b1,rfl,hy⟩
 obtain ⟨T2,a2,rfl⟩:∃ T a,y=.iface T (.pointer (some a)):=by
  unfold under at hy
  exact ErrIs.some_shape hy
 have ba:=belowAlloc w1 (.cells #[.int .i64 0,.int .i64 0,.slice none 0 0] 24)
 have hy2:=hy.below ba
 replace hy:=Hd hy
 replace hy2:=Hd hy2
 go_wp2
 go_ret2
 exact ⟨_,_,rfl,Below.step b0 (Below.step b1 ba),rfl,hy2.out⟩
theorem papart_ok (r:Nat→Addr) (K R:Nat) (va:Option Addr) (vn vc:Nat) (T:List Int) (w:World) (hg:Glob r w) (h:IntsAt w (.slice va vn vc) T) (hr:RuleOk K R T) (hl:T.length≤256) :
 Calls Tryz.prog 54 #[.agg #[.int .i64 K,.int .i64 R,.slice va vn vc]] w (Ret2 (fun x y w'=>y=.nilIface∧∃ L,LiveList (pw K (2*wkR R)*pw K (2*wkR R)) (adjOf (pairG K (pw K (2*wkR R)) (wkT K R T))) L∧OwnI w.heap.size w' x (castI (L.filter fun p=>!decide (Diag (pw K (2*wkR R)) p)))) w):=by
 have b0:=belowAlloc w (.cells #[.int .i64 K,.int .i64 R,.slice va vn vc] 24)
 have q:Box3 (w.alloc (.cells #[.int .i64 K,.int .i64 R,.slice va vn vc] 24)) w.heap.size (.int .i64 K) (.int .i64 R) (.slice va vn vc):=by simp [Box3,go_sem]
 have hk1:=hr.k1
 have hk4:=hr.k4
 have hokW:=wk_ok hr
 have hlW:=wk_small hr hl
 have hRW:=wk_pos R
 have hN81:=nodes_le hokW hRW hlW
 obtain ⟨hdiv,hlen⟩:=hokW.half
 have hN1:=pw_pos (K:=K) (2*wkR R) hk1
 have hNK:pw K (2*wkR R)*K≤256:=by rw [← hlen]; exact hlW
 have hck:=pairG_check (K:=K) (N:=pw K (2*wkR R)) (T:=wkT K R T) (by omega) hN81 hNK
 have hlive0:=diag_live (K:=K) (R:=wkR R) (T:=wkT K R T) (u:=0) hk1 (by omega)
 have hgraph:=fun (w':World) (hgl:Glob r w') (hT:IntsAt w' (.slice va vn vc) T)=>pgraph_ok r K R va vn vc T w' hgl hT hr hl
 have hwork:=fun (w':World) (hgl:Glob r w') (hT:IntsAt w' (.slice va vn vc) T)=>working_ok r K R va vn vc T w' hgl hT hr hl
 have hNodes:=fun (a:Option Addr) (n c:Nat) (w':World) (hgl:Glob r w') (hT:IntsAt w' (.slice a n c) (wkT K R T))=>over_Nodes r K (wkR R) a n c (wkT K R T) w' hgl hT hokW hlW
 rw [hdiv] at hNodes
 generalize pw K (2*wkR R)=N at *
 generalize wkT K R T=T' at *
 generalize wkR R=R' at *
 rw [Nat.zero_mul,Nat.zero_add] at hlive0
 replace hgraph:=Hd hgraph
 replace hwork:=Hd hwork
 replace hNodes:=Hd hNodes
 replace hck:=Hd hck
 replace hlive0:=Hd hlive0
 replace hg:=Hd (hg.below b0)
 replace h:=Hd (h.below b0)
 replace hokW:=Hd hokW
 replace hr:=Hd hr
 replace hdiv:=Hd hdiv
 replace hlen:=Hd hlen
 go_enter Tryz.func54,Tryz.ntmps54
 go_wp2_with fail
 refine (hgraph.out _ hg.out h.out).mono ?_
 rintro e w1 ⟨gv,y,rfl,b1,rfl,f,vals,hrows,hwn⟩
 have hL:ListsAt w1 gv (pairG K N T'):=hwn.lists hrows
 obtain ⟨ga,gc,rfl⟩:=hL.shape
 have hsz:∀ k,k<(pairG K N T').length→((pairG K N T').getD k []).length≤17592186044416:=fun k hk=>by
  rw [pairG_len] at hk
  rw [pairG_row hk,castI_len]
  have:=pairL_len K N T' k
  have:=Nat.mul_le_mul hk4 hk4
  omega
 have hM6:N*N≤6561:=Nat.mul_le_mul hN81 hN81
 replace hrows:=Hd hrows
 replace hwn:=Hd hwn
 replace hL:=Hd hL
 replace hsz:=Hd hsz
 go_wp2_with fail
 refine (live_any r ga gc (pairG K N T') w1 (hg.out.below b1) hL.out hsz.out).mono ?_
 rintro e w2 ⟨lv,y,rfl,b2,he,hls,_⟩
 rw [hck.out] at he hls
 obtain rfl:=he.none_eq
 obtain ⟨L,hLL,ho⟩:=hls rfl
 rw [pairG_len] at hLL
 clear hls he
 have b12:=Below.step b1 b2
 have q2:=q.below b12
 obtain ⟨⟨z0,z1,z2⟩,-,-,-⟩:=q2
 replace hLL:=Hd hLL
 replace ho:=Hd ho
 go_wp2_with fail
 refine (hwork.out w2 (hg.out.below b12) (h.out.below b12)).mono ?_
 rintro e w3 ⟨x,y,rfl,b3,rfl,a,n,c,rfl,hT3⟩
 clear z0 z1 z2
 have b13:=Below.step b12 b3
 have ba:=belowAlloc w3 (.cells #[.int .i64 K,.int .i64 R',.slice a n c] 24)
 have b14:=Below.step b13 ba
 have hT4:=hT3.below ba
 replace hT3:=Hd hT3
 replace hT4:=Hd hT4
 go_wp2_with fail
 refine (hNodes.out a n c _ (hg.out.below b14) hT4.out).mono ?_
 rintro e w5 ⟨x,y,rfl,b5,rfl,rfl⟩
 have b15:=Below.step b14 b5
 have bb:=belowAlloc w5 (.cells #[.int .i64 N] 3)
 have b16:=Below.step b15 bb
 have b26:=Below.step b3 (Below.step ba (Below.step b5 bb))
 have ho6:=ho.out.below b26
 have cN:(w5.alloc (.cells #[.int .i64 N] 3)).cell? ⟨w5.heap.size,0,none⟩=some (.int .i64 N):=by simp [go_sem]
 have hne:lv.ownBlock≠some w5.heap.size:=fun e=>by
  have h1:=(ho.out.lt _ e).2
  have h2:=(Below.step b3 (Below.step ba b5)).size
  omega
 have hLne:castI L≠[]:=fun e=>by
  have:L=[]:=by cases L with | nil=>rfl | cons a l=>simp [castI] at e
  have h0:=(hLL.out.mem 0).2 ⟨by have:=Nat.mul_le_mul hN1 hN1; omega,hlive0.out⟩
  rw [this] at h0; cases h0
 replace ho6:=Hd ho6
 replace hne:=Hd hne
 replace hLne:=Hd hLne
 replace cN:=Hd cN
 go_wp2_with fail
 refine (delete_own w1.heap.size lv (castI L) w5.heap.size N _ ho6.out hLne.out hN1 cN.out hne.out).mono ?_
 rintro e w7 ⟨x,rfl,_,ho7,b7⟩
 have hF:(castI L).filter (fun x=>!dgI N x)=castI (L.filter fun p=>!decide (Diag N p)):=by
  unfold castI
  rw [List.filter_map]
  congr 1
  refine List.filter_congr fun p hp=>?_
  have:=((hLL.out.mem p).1 hp).1
  show (!dgI N (p:Int))=_
  rw [dgI_nat (by omega)]
 rw [hF] at ho7
 obtain ⟨xa,xn,xc,rfl⟩:=ho7.at.shape
 have ho8:=ho7.mono (B':=w.heap.size) (Nat.le_trans b0.size b1.size)
 have bE:=(Below.step b0 b1).trans ((Below.step b2 b26).trans b7 |>.mono (Nat.le_trans b0.size b1.size))
 replace ho7:=Hd ho7
 replace ho8:=Hd ho8
 replace hF:=Hd hF
 go_wp2
 go_ret2
 exact ⟨_,_,rfl,bE,rfl,L,hLL.out,ho8.out⟩
end Go.Proofs.YtncpnaoabkjegaaGreatDoor
namespace Go.Proofs.YtncpnaoabkjegaaGreatDoor
def LiveP (n:Nat) (adj:Nat→List Nat) (v:Nat):Prop:=(∃ u,u<n∧(∃ t∈adj u,Goes adj t u)∧Goes adj u v)∧∃ u,u<n∧(∃ t∈adj u,Goes adj t u)∧Goes adj v u
def Steps (adj:Nat→List Nat) (l:List Nat):Prop:=∀ i,i+1<l.length→l.getD (i+1) 0∈adj (l.getD i 0)
theorem getD_left {l:List Nat} {y i:Nat} (h:i<l.length):(l++[y]).getD i 0=l.getD i 0:=by
 rw [List.getD_eq_getElem?_getD,List.getElem?_append_left h,← List.getD_eq_getElem?_getD]
theorem getD_last {l:List Nat} {y i:Nat} (h:i=l.length):(l++[y]).getD i 0=y:=by
 subst h; simp [List.getD]
theorem Steps.snoc {adj:Nat→List Nat} {l:List Nat} {x y:Nat} (h:Steps adj l) (hx:l.getD (l.length-1) 0=x) (hy:y∈adj x):Steps adj (l++[y]):=by
 intro i hi
 simp only [List.length_append,List.length_singleton] at hi
 by_cases e:i+1=l.length
 ·rw [getD_last e,getD_left (by omega),show i=l.length-1 by omega,hx]; exact hy
 ·rw [getD_left (by omega),getD_left (by omega)]; exact h i (by omega)
theorem Goes.head {adj:Nat→List Nat} {x z:Nat} (h:Goes adj x z):x=z∨∃ y∈adj x,Goes adj y z:=by
 induction h with
 | refl=>exact .inl rfl
 | step h hz ih =>
  rcases ih with rfl | ⟨t,ht,hg⟩
  ·exact .inr ⟨_,hz,.refl _⟩
  ·exact .inr ⟨t,ht,.step hg hz⟩
theorem ways_into {M:Nat} {adj:Nat→List Nat} (hc:∀ x,x<M→∀ t∈adj x,t<M) (a:Nat):∀ v,(∃ u,u<M∧(∃ t∈adj u,Goes adj t u)∧Goes adj u v) →
 ∃ l,l.length=a+1∧l.getD a 0=v∧Steps adj l∧∀ x∈l,x<M:=by
 have low:∀ {u v},u<M→Goes adj u v→v<M:=fun hu h=>Goes.closed (P:=(·<M)) hc h hu
 induction a with
 | zero =>
  rintro v ⟨u,hu,_,hg⟩
  exact ⟨[v],rfl,rfl,fun i hi=>by simp at hi,fun x hx=>by rw [List.mem_singleton] at hx; subst hx; exact low hu hg⟩
 | succ a ih =>
  rintro v ⟨u,hu,hl,hg⟩
  have hv:=low hu hg
  have key:∃ y,v∈adj y∧∃ u,u<M∧(∃ t∈adj u,Goes adj t u)∧Goes adj u y:=by
   cases hg with
   | refl =>
    obtain ⟨t,ht,hgt⟩:=hl
    cases hgt with
    | refl=>exact ⟨_,ht,_,hu,⟨_,ht,.refl _⟩,.refl _⟩
    | step h2 hz=>exact ⟨_,hz,_,hu,⟨t,ht,.step h2 hz⟩,(Goes.one ht).trans h2⟩
   | step h2 hz=>exact ⟨_,hz,_,hu,hl,h2⟩
  obtain ⟨y,hy,hu2⟩:=key
  obtain ⟨l,l1,l2,l3,l4⟩:=ih y hu2
  refine ⟨l++[v],by simp [l1],getD_last l1.symm,l3.snoc (by rw [l1,Nat.add_sub_cancel]; exact l2) hy,fun x hx=>?_⟩
  rcases List.mem_append.1 hx with hx | hx
  ·exact l4 x hx
  ·rw [List.mem_singleton] at hx; subst hx; exact hv
theorem ways_through {M:Nat} {adj:Nat→List Nat} (hc:∀ x,x<M→∀ t∈adj x,t<M) {v:Nat} (h:LiveP M adj v) (a m:Nat) :
 ∃ l,l.length=a+1+m∧l.getD a 0=v∧Steps adj l∧(∀ x∈l,x<M)∧∃ u,u<M∧(∃ t∈adj u,Goes adj t u)∧Goes adj (l.getD (a+m) 0) u:=by
 induction m with
 | zero =>
  obtain ⟨l,l1,l2,l3,l4⟩:=ways_into hc a v h.1
  exact ⟨l,l1,l2,l3,l4,by rw [Nat.add_zero,l2]; exact h.2⟩
 | succ m ih =>
  obtain ⟨l,l1,l2,l3,l4,u,hu,ht,hg⟩:=ih
  obtain ⟨x,hx⟩:∃ x,l.getD (a+m) 0=x:=⟨_,rfl⟩
  have hxM:x<M:=l4 x (by rw [← hx,List.getD_eq_getElem?_getD,List.getElem?_eq_getElem (by omega),Option.getD_some]; exact List.getElem_mem _)
  rw [hx] at hg
  have key:∃ y∈adj x,∃ u,u<M∧(∃ t∈adj u,Goes adj t u)∧Goes adj y u:=by
   rcases hg.head with rfl | ⟨y,hy,hg2⟩
   ·obtain ⟨t,ht1,ht2⟩:=ht
    exact ⟨t,ht1,x,hu,⟨t,ht1,ht2⟩,ht2⟩
   ·exact ⟨y,hy,u,hu,ht,hg2⟩
  obtain ⟨y,hy,hu2⟩:=key
  refine ⟨l++[y],by simp [l1]; omega,by rw [getD_left (by omega)]; exact l2,l3.snoc (by rw [l1,show a+1+m-1=a+m by omega]; exact hx) hy,fun z hz=>?_,?_⟩
  ·rcases List.mem_append.1 hz with hz | hz
   ·exact l4 z hz
   ·rw [List.mem_singleton] at hz; subst hz; exact hc x hxM z hy
  ·rw [getD_last (by omega)]; exact hu2
theorem node_ne {K m:Nat} {x y:List Int} {i:Nat} (hx:i+m≤x.length) (hy:i+m≤y.length) (h:nodeAt K m x i≠nodeAt K m y i):∃ j,j<m∧x.getD (i+j) 0≠y.getD (i+j) 0:=by
 apply Classical.byContradiction
 intro q
 apply h
 unfold nodeAt
 congr 1
 refine ext_getD (by simp; omega) fun t ht=>?_
 have ht2:t<m:=by simp only [List.length_take] at ht; omega
 rw [sub_get ht2,sub_get ht2]
 exact Classical.byContradiction fun q2=>q ⟨t,ht2,q2⟩
theorem pairL_closed {K N:Nat} (hN:0<N) {T:List Int}:∀ x,x<N*N→∀ t∈pairL K N T x,t<N*N:=fun _ _ _ ht=>((mem_pairL hN).1 ht).lt hN
theorem notOne_of_live {K R:Nat} {T:List Int} (h:RuleOk K R T) (hR:1≤R) {p:Nat} (hp:LiveP (pw K (2*R)*pw K (2*R)) (pairL K (pw K (2*R)) T) p) (hd:¬ Diag (pw K (2*R)) p):NotOne K R T:=by
 intro n
 have hK:=h.k1
 have hN:=pw_pos (K:=K) (2*R) hK
 obtain ⟨l,l1,l2,l3,l4,-⟩:=ways_through (pairL_closed (by omega)) hp n n
 have low:∀ i,i<l.length→l.getD i 0<pw K (2*R)*pw K (2*R):=fun i hi=>l4 _ (by
  rw [List.getD_eq_getElem?_getD,List.getElem?_eq_getElem hi,Option.getD_some]; exact List.getElem_mem _)
 obtain ⟨hn,hi⟩:=ways_words hK hR (by omega) low l3
 have la:=alongW_len K (2*R) (·/pw K (2*R)) l
 have lb:=alongW_len K (2*R) (·%pw K (2*R)) l
 obtain ⟨e1,e2⟩:=hn n (by omega)
 rw [l2] at e1 e2
 obtain ⟨j,hj,hne⟩:=node_ne (K:=K) (m:=2*R) (x:=alongW K (2*R) (·/pw K (2*R)) l) (y:=alongW K (2*R) (·%pw K (2*R)) l) (i:=n) (by omega) (by omega) (by rw [e1,e2]; exact hd)
 exact split_img (alongW_syms hK _ _) (alongW_syms hK _ _) (by omega) (j:=n+j) (by omega) (by omega) hne hi
theorem pigeon {M:Nat} {f:Nat→Nat} (h:∀ i,i≤M→f i<M):∃ i j,i<j∧j≤M∧f i=f j:=by
 apply Classical.byContradiction
 intro q
 have hn:((List.range (M+1)).map f).Nodup:=by
  refine List.pairwise_map.2 (List.Pairwise.imp_of_mem ?_ List.pairwise_lt_range)
  intro a b ha hb hab e
  exact q ⟨a,b,hab,by have:=List.mem_range.1 hb; omega,e⟩
 have hs:(List.range (M+1)).map f ⊆ List.range M:=fun y hy=>by
  obtain ⟨i,hi,rfl⟩:=List.mem_map.1 hy
  exact List.mem_range.2 (h i (by have:=List.mem_range.1 hi; omega))
 have:=nodup_sub hn hs
 simp at this
 omega
theorem goes_along {adj:Nat→List Nat} {f:Nat→Nat} {a:Nat}:∀ d,(∀ k,a≤k→k<a+d→f (k+1)∈adj (f k))→Goes adj (f a) (f (a+d))
 | 0,_=>.refl _
 | d+1,h=>.step (goes_along d fun k h1 h2=>h k h1 (by omega)) (h (a+d) (by omega) (by omega))
theorem live_of_notOne {K R:Nat} {T:List Int} (h:RuleOk K R T) (hR:1≤R) (ho:NotOne K R T):∃ p,p<pw K (2*R)*pw K (2*R)∧LiveP (pw K (2*R)*pw K (2*R)) (pairL K (pw K (2*R)) T) p∧¬ Diag (pw K (2*R)) p:=by
 have hK:=h.k1
 have hN:=pw_pos (K:=K) (2*R) hK
 obtain ⟨M,hM⟩:∃ M,pw K (2*R)*pw K (2*R)=M:=⟨_,rfl⟩
 obtain ⟨n,hn⟩:∃ n,M+2*R=n:=⟨_,rfl⟩
 obtain ⟨x,y,sx,sy,lx,ly,hne,e⟩:=ho n
 obtain ⟨f,hf⟩:∃ f:Nat→Nat,f=fun i=>nodeAt K (2*R) x i*pw K (2*R)+nodeAt K (2*R) y i:=⟨_,rfl⟩
 have nx:∀ i,i+2*R≤2*n+1→nodeAt K (2*R) x i<pw K (2*R):=fun i hi=>node_lt sx (by omega)
 have ny:∀ i,i+2*R≤2*n+1→nodeAt K (2*R) y i<pw K (2*R):=fun i hi=>node_lt sy (by omega)
 have low:∀ i,i+2*R≤2*n+1→f i<M:=fun i hi=>by rw [hf,← hM]; exact pair_lt (nx i hi) (ny i hi)
 have step:∀ i,i+1+2*R≤2*n+1→f (i+1)∈pairL K (pw K (2*R)) T (f i):=fun i hi=>by
  rw [mem_pairL (by omega),hf]
  show Arr K _ T ((nodeAt K (2*R) x i*pw K (2*R)+nodeAt K (2*R) y i)/pw K (2*R)) ((nodeAt K (2*R) x i*pw K (2*R)+nodeAt K (2*R) y i)%pw K (2*R)) _
  rw [pair_div (ny i (by omega)),pair_mod (ny i (by omega))]
  exact wayW_arr sx sy (by omega) e (by omega)
 have goes:∀ a b,a≤b→b+2*R≤2*n+1→Goes (pairL K (pw K (2*R)) T) (f a) (f b):=fun a b hab hb=>by
  obtain ⟨d,rfl⟩:∃ d,b=a+d:=⟨b-a,by omega⟩
  exact goes_along d fun k _ _=>step k (by omega)
 refine ⟨f n,by rw [hM]; exact low n (by omega),⟨?_,?_⟩,?_⟩
 ·obtain ⟨i,j,hij,hj,eij⟩:=pigeon (M:=M) (f:=f) fun i hi=>low i (by omega)
  exact ⟨f i,by rw [hM]; exact low i (by omega),⟨f (i+1),step i (by omega),by rw [eij]; exact goes _ _ (by omega) (by omega)⟩,goes _ _ (by omega) (by omega)⟩
 ·obtain ⟨i,j,hij,hj,eij⟩:=pigeon (M:=M) (f:=fun i=>f (n+i)) fun i hi=>low (n+i) (by omega)
  exact ⟨f (n+i),by rw [hM]; exact low _ (by omega),⟨f (n+i+1),step _ (by omega),by show Goes _ _ (f (n+i)); rw [show f (n+i)=f (n+j) from eij]; exact goes _ _ (by omega) (by omega)⟩,goes _ _ (by omega) (by omega)⟩
 ·intro hd
  unfold Diag at hd
  rw [hf] at hd
  dsimp only at hd
  rw [pair_div (ny n (by omega)),pair_mod (ny n (by omega))] at hd
  have e1:=digs_numW hK _ (syms_take (syms_drop sx n) (2*R))
  have e2:=digs_numW hK _ (syms_take (syms_drop sy n) (2*R))
  rw [show ((x.drop n).take (2*R)).length=2*R by simp; omega] at e1
  rw [show ((y.drop n).take (2*R)).length=2*R by simp; omega] at e2
  have e3:(x.drop n).take (2*R)=(y.drop n).take (2*R):=by rw [← e1,← e2]; exact congrArg (digs K (2*R)) hd
  have e4:((x.drop n).take (2*R)).getD 0 0=((y.drop n).take (2*R)).getD 0 0:=by rw [e3]
  rw [sub_get (by omega),sub_get (by omega),Nat.add_zero] at e4
  exact hne e4
open Go.RowKit
def Ret4 (Φ:Value→Value→Value→Value→World→Prop) (w:World) (e:Ending) (w':World):Prop:=∃ x y z u,e=.returned (.tuple #[x,y,z,u])∧Below w.heap.size w w'∧Φ x y z u w'
theorem results_tmp4 {fn:Func} {t u v x:Tmp} (h:fn.results=#[.tmp t,.tmp u,.tmp v,.tmp x]) (tmps:Array Value) (P:Program) (w:World) :
 (results fn tmps).run P w=.ok (.tuple #[tmps.getD t undef,tmps.getD u undef,tmps.getD v undef,tmps.getD x undef]) w:=by
 simp [results,h]
set_option maxRecDepth 100000
set_option maxHeartbeats 8000000
def sInject:ByteArray:=⟨#[105,110,106,101,99,116]⟩
abbrev zRow:Value:=.agg #[.int .i64 0,.slice none 0 0,.slice none 0 0,.slice none 0 0]
section
variable {K N:Nat} {T:List Int}
theorem goes_pairG {x y:Nat} (hN:0<N) (h:Goes (adjOf (pairG K N T)) x y) (hx:x<N*N):Goes (pairL K N T) x y∧y<N*N:=by
 induction h with
 | refl=>exact ⟨.refl _,hx⟩
 | step h hz ih =>
  rw [pairG_adj ih.2] at hz
  exact ⟨.step ih.1 hz,((mem_pairL hN).1 hz).lt hN⟩
theorem live_pairG (hN:0<N) {v:Nat} (hv:v<N*N):IsLive (N*N) (adjOf (pairG K N T)) v↔LiveP (N*N) (pairL K N T) v:=by
 constructor
 ·rintro ⟨⟨u,hu,⟨t,ht,h1⟩,h2⟩,⟨u',hu',⟨t',ht',h1'⟩,h2'⟩⟩
  rw [pairG_adj hu] at ht
  rw [pairG_adj hu'] at ht'
  exact ⟨⟨u,hu,⟨t,ht,(goes_pairG hN h1 (((mem_pairL hN).1 ht).lt hN)).1⟩,(goes_pairG hN h2 hu).1⟩,⟨u',hu',⟨t',ht',(goes_pairG hN h1' (((mem_pairL hN).1 ht').lt hN)).1⟩,(goes_pairG hN h2' hv).1⟩⟩
 ·rintro ⟨⟨u,hu,⟨t,ht,h1⟩,h2⟩,⟨u',hu',⟨t',ht',h1'⟩,h2'⟩⟩
  exact ⟨⟨u,hu,⟨t,by rw [pairG_adj hu]; exact ht,(pairG_goes hN h1 (((mem_pairL hN).1 ht).lt hN)).1⟩,(pairG_goes hN h2 hu).1⟩,⟨u',hu',⟨t',by rw [pairG_adj hu']; exact ht',(pairG_goes hN h1' (((mem_pairL hN).1 ht').lt hN)).1⟩,(pairG_goes hN h2' hv).1⟩⟩
end
theorem wk_notOne {K R:Nat} {T:List Int} (hK:1≤K):NotOne K (wkR R) (wkT K R T)↔NotOne K R T:=by
 unfold wkR wkT
 by_cases e:R=0
 ·subst e; rw [if_pos rfl,if_pos rfl]; exact notOne_wide (R:=0) (d:=1) hK
 ·rw [if_neg e,if_neg e]
def oddL (K R:Nat) (L:List Nat):List Nat:=L.filter fun p=>!decide (Diag (pw K (2*wkR R)) p)
theorem odd_none {K R:Nat} {T:List Int} {L:List Nat} (hr:RuleOk K R T) (h:LiveList (pw K (2*wkR R)*pw K (2*wkR R)) (adjOf (pairG K (pw K (2*wkR R)) (wkT K R T))) L):oddL K R L=[]↔¬ NotOne K R T:=by
 have hN:=pw_pos (K:=K) (2*wkR R) hr.k1
 rw [← wk_notOne hr.k1]
 constructor
 ·intro he hno
  obtain ⟨q,h1,h2,h3⟩:=live_of_notOne (wk_ok hr) (wk_pos R) hno
  have:q∈oddL K R L:=List.mem_filter.2 ⟨(h.mem q).2 ⟨h1,(live_pairG (by omega) h1).2 h2⟩,by simp [h3]⟩
  rw [he] at this; cases this
 ·intro hno
  apply Classical.byContradiction
  intro he
  obtain ⟨q,hq⟩:=List.exists_mem_of_ne_nil _ he
  obtain ⟨h1,h2⟩:=List.mem_filter.1 hq
  obtain ⟨h3,h4⟩:=(h.mem q).1 h1
  exact hno (notOne_of_live (wk_ok hr) (wk_pos R) ((live_pairG (by omega) h3).1 h4) (by simpa using h2))
def OneIs (K R:Nat) (T:List Int) (L C Q:List Nat):Prop :=
 ∃ l v m,LiveList (pw K (2*wkR R)*pw K (2*wkR R)) (adjOf (pairG K (pw K (2*wkR R)) (wkT K R T))) l∧oddL K R l=v::m∧WitIs (pairG K (pw K (2*wkR R)) (wkT K R T)) v L C Q
def OnePost (w:World) (K R:Nat) (T:List Int) (yes x y e:Value) (w':World):Prop :=
 e=.nilIface∧((yes=.bool true∧x=zRow∧y=zRow∧¬ NotOne K R T)∨(yes=.bool false∧NotOne K R T∧∃ L C Q aL aC aQ bL bC bQ,OneIs K R T L C Q∧x=.agg #[.int .i64 0,aL,aC,aQ]∧y=.agg #[.int .i64 0,bL,bC,bQ]∧∃ f,Rows w.heap.size w' f ∧
  f (1,0)=some (rowI aL (sideA K (pw K (2*wkR R)) L))∧f (1,1)=some (rowI bL (sideB K (pw K (2*wkR R)) L))∧f (2,0)=some (rowI aC (sideA K (pw K (2*wkR R)) C))∧f (2,1)=some (rowI bC (sideB K (pw K (2*wkR R)) C))∧f (3,0)=some (rowI aQ (sideA K (pw K (2*wkR R)) Q))∧f (3,1)=some (rowI bQ (sideB K (pw K (2*wkR R)) Q))))
theorem one_bad (r:Nat→Addr) (k R:Int) (va:Option Addr) (vn vc:Nat) (T:List Int) (t:Int×List (ByteArray×Int)) (w:World) (hg:Glob r w) (h:IntsAt w (.slice va vn vc) T) (hc:smallP k R T=some t) :
 Calls Tryz.prog 16 #[.agg #[.int .i64 k,.int .i64 R,.slice va vn vc]] w (Ret4 (fun x y z u w'=>x=.bool false∧y=zRow∧z=zRow∧ErrIs r w' (under sInject 0 (under sPairs 0 (some t))) u) w):=by
 have bb:=belowAlloc w (.cells #[.int .i64 k,.int .i64 R,.slice va vn vc] 24)
 have q:Box3 (w.alloc (.cells #[.int .i64 k,.int .i64 R,.slice va vn vc] 24)) w.heap.size (.int .i64 k) (.int .i64 R) (.slice va vn vc):=by simp [Box3,go_sem]
 obtain ⟨f0,R0,n02,o02⟩:=((Rows.void w.heap.size w).below bb).box4 (0,2) (by simp) 36 (.int .i64 0) (.slice none 0 0) (.slice none 0 0) (.slice none 0 0)
 obtain ⟨f1,R1,n03,o03⟩:=R0.box4 (0,3) (by simp; omega) 36 (.int .i64 0) (.slice none 0 0) (.slice none 0 0) (.slice none 0 0)
 replace n02:=(o03 (0,2) (by decide)).trans n02
 simp only [World.size_alloc] at n02 n03
 have b0:Below w.heap.size w (((w.alloc (.cells #[.int .i64 k,.int .i64 R,.slice va vn vc] 24)).alloc (.cells #[.int .i64 0,.slice none 0 0,.slice none 0 0,.slice none 0 0] 36)).alloc (.cells #[.int .i64 0,.slice none 0 0,.slice none 0 0,.slice none 0 0] 36)):=Below.step bb (Below.step (belowAlloc _ _) (belowAlloc _ _))
 replace q:=q.below (Below.step (belowAlloc _ (.cells #[.int .i64 0,.slice none 0 0,.slice none 0 0,.slice none 0 0] 36)) (belowAlloc _ (.cells #[.int .i64 0,.slice none 0 0,.slice none 0 0,.slice none 0 0] 36)))
 clear o02 o03 R0 bb
 replace hg:=Hd (hg.below b0)
 replace h:=Hd (h.below b0)
 replace hc:=Hd hc
 obtain ⟨⟨z0,z1,z2⟩,-,-,-⟩:=q
 replace R1:=Hd R1
 replace n02:=Hd n02
 replace n03:=Hd n03
 go_enter Tryz.func16,Tryz.ntmps16
 go_wp2_with fail
 refine (pgraph_bad r k R va vn vc T t _ hg.out h.out hc.out).mono ?_
 rintro e w1 ⟨x,y,rfl,b1,rfl,hy⟩
 obtain ⟨T2,a2,rfl⟩:∃ T a,y=.iface T (.pointer (some a)):=by
  unfold under at hy
  exact ErrIs.some_shape hy
 replace hy:=Hd hy
 clear z0 z1 z2
 go_wp2_with fail
 refine (under_any r sInject 0 _ _ w1 hy.out).mono ?_
 rintro e w2 ⟨u,rfl,b2,hu⟩
 have hu':=hu
 obtain ⟨T3,a3,rfl⟩:∃ T a,u=.iface T (.pointer (some a)):=by
  unfold under at hu'
  exact ErrIs.some_shape hu'
 clear hu'
 have R2:=(R1.out.below b1).below b2
 replace n02:=n02.out
 replace n03:=n03.out
 have bw:=Below.step b0 (Below.step b1 b2)
 obtain ⟨g0,g1,g2,g3⟩:=R2.cells4 n02
 obtain ⟨h0,h1,h2,h3⟩:=R2.cells4 n03
 have fg0:=R2.frz4 n02 0
 have fh0:=R2.frz4 n03 0
 have fg1:=R2.frz4 n02 1
 have fh1:=R2.frz4 n03 1
 have fg2:=R2.frz4 n02 2
 have fh2:=R2.frz4 n03 2
 have fg3:=R2.frz4 n02 3
 have fh3:=R2.frz4 n03 3
 have c2:=R2.cells4 n02
 have c3:=R2.cells4 n03
 have lg0:=(R2.low4 n02).1
 have lh0:=(R2.low4 n03).1
 obtain ⟨f3,R3,m02,o3⟩:=R2.all4 n02 (.int .i64 0) (.slice none 0 0) (.slice none 0 0) (.slice none 0 0)
 have n03':=(o3 (0,3) (by decide)).trans n03
 have hu2:=hu.all4 c2 (.slice none 0 0) (.slice none 0 0) (.slice none 0 0)
 have hu3:=hu2.all4 (R3.cells4 n03') (.slice none 0 0) (.slice none 0 0) (.slice none 0 0)
 have b15:=Below.all4 (g:=w.heap.size+1) bw lg0 (.int .i64 0) (.slice none 0 0) (.slice none 0 0) (.slice none 0 0)
 have b16:=Below.all4 (g:=w.heap.size+2) b15 lh0 (.int .i64 0) (.slice none 0 0) (.slice none 0 0) (.slice none 0 0)
 replace hu:=Hd hu
 replace hu2:=Hd hu2
 replace hu3:=Hd hu3
 replace R2:=Hd R2
 replace R3:=Hd R3
 replace n02:=Hd n02
 replace n03:=Hd n03
 replace n03':=Hd n03'
 replace m02:=Hd m02
 clear o3 c2 c3
 go_wp2
 (try simp only [Exit.inBlock,Exit.then])
 refine bodyPost_ret (v:=.tuple #[.bool false,zRow,zRow,.iface T3 (.pointer (some a3))]) (by simp [results,Tryz.results16,go_sem,g0,g1,g2,g3,h0,h1,h2,h3]) rfl ?_
 exact ⟨_,_,_,_,rfl,b16,rfl,rfl,rfl,hu3.out⟩
theorem one_ok (r:Nat→Addr) (K R:Nat) (va:Option Addr) (vn vc:Nat) (T:List Int) (w:World) (hg:Glob r w) (h:IntsAt w (.slice va vn vc) T) (hr:RuleOk K R T) (hl:T.length≤256) :
 Calls Tryz.prog 16 #[.agg #[.int .i64 K,.int .i64 R,.slice va vn vc]] w (Ret4 (OnePost w K R T) w):=by
 have bb:=belowAlloc w (.cells #[.int .i64 K,.int .i64 R,.slice va vn vc] 24)
 have q:Box3 (w.alloc (.cells #[.int .i64 K,.int .i64 R,.slice va vn vc] 24)) w.heap.size (.int .i64 K) (.int .i64 R) (.slice va vn vc):=by simp [Box3,go_sem]
 obtain ⟨f0,R0,n02,o02⟩:=((Rows.void w.heap.size w).below bb).box4 (0,2) (by simp) 36 (.int .i64 0) (.slice none 0 0) (.slice none 0 0) (.slice none 0 0)
 obtain ⟨f1,R1,n03,o03⟩:=R0.box4 (0,3) (by simp; omega) 36 (.int .i64 0) (.slice none 0 0) (.slice none 0 0) (.slice none 0 0)
 replace n02:=(o03 (0,2) (by decide)).trans n02
 simp only [World.size_alloc] at n02 n03
 have b0:Below w.heap.size w (((w.alloc (.cells #[.int .i64 K,.int .i64 R,.slice va vn vc] 24)).alloc (.cells #[.int .i64 0,.slice none 0 0,.slice none 0 0,.slice none 0 0] 36)).alloc (.cells #[.int .i64 0,.slice none 0 0,.slice none 0 0,.slice none 0 0] 36)):=Below.step bb (Below.step (belowAlloc _ _) (belowAlloc _ _))
 replace q:=q.below (Below.step (belowAlloc _ (.cells #[.int .i64 0,.slice none 0 0,.slice none 0 0,.slice none 0 0] 36)) (belowAlloc _ (.cells #[.int .i64 0,.slice none 0 0,.slice none 0 0,.slice none 0 0] 36)))
 clear o02 o03 R0 bb
 have hk1:=hr.k1
 have hokW:=wk_ok hr
 have hlW:=wk_small hr hl
 have hRW:=wk_pos R
 have hN81:=nodes_le hokW hRW hlW
 have hN1:=pw_pos (K:=K) (2*wkR R) hk1
 obtain ⟨hdiv,hlen⟩:=hokW.half
 have hNK:pw K (2*wkR R)*K≤256:=by rw [← hlen]; exact hlW
 have hck:=pairG_check (K:=K) (N:=pw K (2*wkR R)) (T:=wkT K R T) (by omega) hN81 hNK
 have hokG:GraphOk (pairG K (pw K (2*wkR R)) (wkT K R T)):=pairG_ok (by omega)
 have hsz:∀ k,k<(pairG K (pw K (2*wkR R)) (wkT K R T)).length→((pairG K (pw K (2*wkR R)) (wkT K R T)).getD k []).length≤17592186044416:=fun k hk=>by
  rw [pairG_len] at hk
  rw [pairG_row hk,castI_len]
  have:=pairL_len K (pw K (2*wkR R)) (wkT K R T) k
  have h4:=hr.k4
  have:=Nat.mul_le_mul h4 h4
  omega
 have hgraph:=fun (w':World) (hgl:Glob r w') (hT:IntsAt w' (.slice va vn vc) T)=>pgraph_ok r K R va vn vc T w' hgl hT hr hl
 have hapart:=fun (w':World) (hgl:Glob r w') (hT:IntsAt w' (.slice va vn vc) T)=>papart_ok r K R va vn vc T w' hgl hT hr hl
 have hlenG:=pairG_len (K:=K) (N:=pw K (2*wkR R)) (T:=wkT K R T)
 have hodd:=fun (L:List Nat) (hL:LiveList (pw K (2*wkR R)*pw K (2*wkR R)) (adjOf (pairG K (pw K (2*wkR R)) (wkT K R T))) L)=>odd_none hr hL
 have hone:∀ (l:List Nat) (v:Nat) (m L C Q:List Nat),LiveList (pw K (2*wkR R)*pw K (2*wkR R)) (adjOf (pairG K (pw K (2*wkR R)) (wkT K R T))) l→oddL K R l=v::m→WitIs (pairG K (pw K (2*wkR R)) (wkT K R T)) v L C Q→OneIs K R T L C Q:=fun l v m L C Q h1 h2 h3=>⟨l,v,m,h1,h2,h3⟩
 have hsub:∀ (L:List Nat) (v:Nat) (m:List Nat),oddL K R L=v::m→v∈L:=fun L v m e=>(List.mem_filter.1 (show v∈oddL K R L by rw [e]; exact List.mem_cons_self)).1
 have hwit:=fun (ga:Option Addr) (gc v:Nat) (w':World) (hgl:Glob r w') (hT:ListsAt w' (.slice ga (pairG K (pw K (2*wkR R)) (wkT K R T)).length gc) (pairG K (pw K (2*wkR R)) (wkT K R T))) (hv:v<(pairG K (pw K (2*wkR R)) (wkT K R T)).length) (hli:IsLive (pairG K (pw K (2*wkR R)) (wkT K R T)).length (adjOf (pairG K (pw K (2*wkR R)) (wkT K R T))) v)=>witness_ok r K (pw K (2*wkR R)) ga gc _ v w' hgl hT hsz hck hokG hlenG hN1 hN81 hk1 hv hli
 replace hgraph:=Hd hgraph
 replace hapart:=Hd hapart
 replace hodd:=Hd hodd
 replace hone:=Hd hone
 replace hsub:=Hd hsub
 replace hwit:=Hd hwit
 replace hlenG:=Hd hlenG
 clear hdiv hlen hNK hck hokG hsz hokW hlW hRW hN81 hl
 replace hg:=Hd (hg.below b0)
 replace h:=Hd (h.below b0)
 replace hr:=Hd hr
 obtain ⟨⟨z0,z1,z2⟩,-,-,-⟩:=q
 have q0:=z0
 replace R1:=Hd R1
 replace n02:=Hd n02
 replace n03:=Hd n03
 replace b0:=Hd b0
 go_enter Tryz.func16,Tryz.ntmps16
 go_wp2_with fail
 refine (hgraph.out _ hg.out h.out).mono ?_
 rintro e w1 ⟨gv,y,rfl,b1,rfl,fg,vals,hrows,hwn⟩
 have hL:ListsAt w1 gv (pairG K (pw K (2*wkR R)) (wkT K R T)):=hwn.lists hrows
 obtain ⟨ga,gc,rfl⟩:=hL.shape
 have c0:w1.cell? ⟨w.heap.size,0,none⟩=some (.int .i64 K):=by rw [b1.cell (World.block_lt_of_cell? _ _ z0)]; exact z0
 have c1:w1.cell? ⟨w.heap.size,1,none⟩=some (.int .i64 R):=by rw [b1.cell (World.block_lt_of_cell? _ _ z1)]; exact z1
 have c2:w1.cell? ⟨w.heap.size,2,none⟩=some (.slice va vn vc):=by rw [b1.cell (World.block_lt_of_cell? _ _ z2)]; exact z2
 have b01:=Below.step b0.out b1
 replace hL:=Hd hL
 clear hrows hwn z0 z1 z2
 rw [hlenG.out]
 generalize hM:pw K (2*wkR R)*pw K (2*wkR R)=M at *
 replace hM:=Hd hM
 go_wp2_with fail
 refine (hapart.out w1 (hg.out.below b1) (h.out.below b1)).mono ?_
 rintro e w2 ⟨av,y,rfl,b2,rfl,L,hLL,how⟩
 have how2:OwnI w1.heap.size w2 av (castI (oddL K R L)):=how
 clear how
 have hnone:=hodd.out L hLL
 have b12:=Below.step b1 b2
 have b02:=Below.step b01 b2
 have R2:=R1.out.below b12
 have k0:w2.cell? ⟨w.heap.size,0,none⟩=some (.int .i64 K):=by rw [b2.cell (World.block_lt_of_cell? _ _ c0)]; exact c0
 have lA:=how2.at.len
 rw [castI_len] at lA
 have hsubL:=hsub.out L
 have honeL:=fun v m L' C' Q' e k=>hone.out L v m L' C' Q' hLL e k
 have hmemL:=hLL.mem
 replace hLL:=Hd hLL
 replace hsubL:=Hd hsubL
 replace honeL:=Hd honeL
 replace hmemL:=Hd hmemL
 clear c0 c1 c2
 cases hod:oddL K R L with
 | nil =>
  rw [hod] at hnone how2 lA
  have hno:=hnone.1 rfl
  obtain ⟨aa,an,ac,rfl⟩:=how2.at.shape
  replace n02:=n02.out
  replace n03:=n03.out
  obtain ⟨g0,g1,g2,g3⟩:=R2.cells4 n02
  obtain ⟨h0,h1,h2,h3⟩:=R2.cells4 n03
  have fg0:=R2.frz4 n02 0
  have fh0:=R2.frz4 n03 0
  have fg1:=R2.frz4 n02 1
  have fh1:=R2.frz4 n03 1
  have fg2:=R2.frz4 n02 2
  have fh2:=R2.frz4 n03 2
  have fg3:=R2.frz4 n02 3
  have fh3:=R2.frz4 n03 3
  have c2:=R2.cells4 n02
  have c3:=R2.cells4 n03
  have lg0:=(R2.low4 n02).1
  have lh0:=(R2.low4 n03).1
  obtain ⟨f3,R3,m02,o3⟩:=R2.all4 n02 (.int .i64 0) (.slice none 0 0) (.slice none 0 0) (.slice none 0 0)
  have b15:=Below.all4 (g:=w.heap.size+1) b02 lg0 (.int .i64 0) (.slice none 0 0) (.slice none 0 0) (.slice none 0 0)
  have b16:=Below.all4 (g:=w.heap.size+2) b15 lh0 (.int .i64 0) (.slice none 0 0) (.slice none 0 0) (.slice none 0 0)
  replace hno:=Hd hno
  replace hod:=Hd hod
  replace how2:=Hd how2
  replace R2:=Hd R2
  replace R3:=Hd R3
  replace n02:=Hd n02
  replace n03:=Hd n03
  replace m02:=Hd m02
  clear o3 c2 c3 hnone
  go_wp2
  (try simp only [Exit.inBlock,Exit.then])
  refine bodyPost_ret (v:=.tuple #[.bool true,zRow,zRow,.nilIface]) (by simp [results,Tryz.results16,go_sem,g0,g1,g2,g3,h0,h1,h2,h3]) rfl ?_
  exact ⟨_,_,_,_,rfl,b16,rfl,.inl ⟨rfl,rfl,rfl,hno.out⟩⟩
 | cons v m =>
  rw [hod] at hnone how2 lA
  have hno:NotOne K R T:=Classical.byContradiction fun q=>by have:=hnone.2 q; cases this
  obtain ⟨aa,an,ac,rfl⟩:=how2.at.shape
  have hvL:=hsubL.out v m hod
  obtain ⟨hvM,hvl⟩:=(hmemL.out v).1 hvL
  have iA:∀ w',(Instr.indexAt 22 (.slice aa an ac) (.int .i64 0)).run Tryz.prog w'=.ok (.pointer (some (valAt (.slice aa an ac) 0))) w':=fun w'=>how2.at.idx 0 (by simp [castI]) w'
  have cA:=how2.at.cellD 0 (by simp [castI])
  rw [show (castI (v::m)).getD 0 0=(v:Int) from rfl] at cA
  have e0:(((v::m).length:Nat):Int)=(m.length:Int)+1:=by simp
  rw [e0] at lA
  have e1:((m.length:Int)+1==0)=false:=by rw [beq_eq_false_iff_ne]; omega
  have hwv:=fun (w':World) (hgl:Glob r w') (hT:ListsAt w' (.slice ga M gc) (pairG K (pw K (2*wkR R)) (wkT K R T)))=>hwit.out ga gc v w' hgl (by rw [hlenG.out]; exact hT) (by rw [hlenG.out]; exact hvM) (by rw [hlenG.out]; exact hvl)
  rw [hlenG.out] at hwv
  have hG2:=hg.out.below b12
  have hL2:ListsAt w2 (.slice ga M gc) (pairG K (pw K (2*wkR R)) (wkT K R T)):=by
   have:=hL.out.below b2
   rwa [hlenG.out] at this
  replace hwv:=Hd hwv
  replace hG2:=Hd hG2
  replace hL2:=Hd hL2
  replace hno:=Hd hno
  replace hvL:=Hd hvL
  replace hvl:=Hd hvl
  replace how2:=Hd how2
  replace R2:=Hd R2
  clear hnone e0
  generalize valAt (.slice aa an ac) 0=ra at *
  replace hod:=Hd hod
  go_upto_region 7 with fail
  go_cut [7,9,10] from 39 (fun s7 s9 s10 wx=>s7=.nilIface∧∃ (g9 g10:Nat) (L C Q:List Nat) (aL aC aQ bL bC bQ:Value) (f:Names),s9=.pointer (some ⟨g9,0,none⟩)∧s10=.pointer (some ⟨g10,0,none⟩)∧Below w.heap.size w wx∧WitIs (pairG K (pw K (2*wkR R)) (wkT K R T)) v L C Q∧Rows w.heap.size wx f∧f (0,2)=some (box4 36 (w.heap.size+1) [.int .i64 0,.slice none 0 0,.slice none 0 0,.slice none 0 0])∧f (0,3)=some (box4 36 (w.heap.size+2) [.int .i64 0,.slice none 0 0,.slice none 0 0,.slice none 0 0])∧f (9,0)=some (box4 36 g9 [.int .i64 0,aL,aC,aQ])∧f (9,1)=some (box4 36 g10 [.int .i64 0,bL,bC,bQ])∧f (1,0)=some (rowI aL (sideA K (pw K (2*wkR R)) L))∧f (1,1)=some (rowI bL (sideB K (pw K (2*wkR R)) L))∧f (2,0)=some (rowI aC (sideA K (pw K (2*wkR R)) C))∧f (2,1)=some (rowI bC (sideB K (pw K (2*wkR R)) C))∧f (3,0)=some (rowI aQ (sideA K (pw K (2*wkR R)) Q))∧f (3,1)=some (rowI bQ (sideB K (pw K (2*wkR R)) Q)))
  case first =>
   obtain ⟨W0,hW0⟩:∃ W0:World,W0=w2.drew:=⟨_,rfl⟩
   have b20:Below w2.heap.size w2 W0:=by rw [hW0]; exact (Below.refl _ _).drew
   have bW0:Below w.heap.size w W0:=by rw [hW0]; exact b02.drew
   have RW0:Rows w.heap.size W0 f1:=by rw [hW0]; exact R2.out.drew
   have hB0:=bW0.size
   have hS0:W0.cell? ⟨w.heap.size,0,none⟩=some (.int .i64 K)∧W0.cell? ra=some (.int .i64 v):=by rw [hW0]; exact ⟨k0,cA⟩
   have hlow:w.heap.size<w2.heap.size∧ra.block<w2.heap.size:=⟨World.block_lt_of_cell? _ _ k0,World.block_lt_of_cell? _ _ cA⟩
   replace n02:=n02.out
   replace n03:=n03.out
   refine wp_region_noPanic ?_
   refine wp_region_any (by kernel_rfl) ?_
   change wpAny _ _ _ _ _ _ _ (World.drew _)
   rw [← hW0]
   clear hW0 k0 cA b02 R2
   refine wpAny_of_held (S:=fun w'=>w'.cell? ⟨w.heap.size,0,none⟩=some (.int .i64 K)∧w'.cell? ra=some (.int .i64 v)) _ _ _ _ ?_
   refine pqD 0 40 hS0 ?_
   refine pqD 1 41 hS0 ?_
   refine pqD 2 42 hS0 ?_
   refine pqD 3 43 hS0 ?_
   refine pqD 4 44 hS0 ?_
   refine pqD 5 45 hS0 ?_
   refine wpAnyH_ready (rs:=[6,11,12]) (by kernel_rfl) (by simp) (AllReadyH.cons rfl (fun KK hK=>?_) (AllReadyH.cons rfl (fun KK hK=>?_) (AllReadyH.cons rfl (fun KK hK=>?_) (AllReadyH.nil))))
   ·go_simp
    refine (hwv.out W0 (hG2.out.below b20) (hL2.out.below b20)).mono ?_
    rintro e W1 ⟨x,y,z,rfl,bb,hz,L',C',Q',aL,aC,aQ,bL,bC,bQ,hwi,rfl,rfl,fw,Rw,k10,k11,k20,k21,k30,k31⟩
    subst hz
    obtain ⟨aLa,aLn,aLc,haL⟩:=(Rw.ownI k10).at.shape
    subst haL
    obtain ⟨bLa,bLn,bLc,hbL⟩:=(Rw.ownI k11).at.shape
    subst hbL
    obtain ⟨aCa,aCn,aCc,haC⟩:=(Rw.ownI k20).at.shape
    subst haC
    obtain ⟨bCa,bCn,bCc,hbC⟩:=(Rw.ownI k21).at.shape
    subst hbC
    obtain ⟨aQa,aQn,aQc,haQ⟩:=(Rw.ownI k30).at.shape
    subst haQ
    obtain ⟨bQa,bQn,bQc,hbQ⟩:=(Rw.ownI k31).at.shape
    subst hbQ
    obtain ⟨f1,RW1,sel,oth⟩:=RW0.merge (fun i=>decide (i.1=1∨i.1=2∨i.1=3)) bb Rw hB0
    replace n02:=(oth (0,2) (by decide)).trans n02
    replace n03:=(oth (0,3) (by decide)).trans n03
    have n10:=(sel (1,0) (by decide)).trans k10
    have n11:=(sel (1,1) (by decide)).trans k11
    have n20:=(sel (2,0) (by decide)).trans k20
    have n21:=(sel (2,1) (by decide)).trans k21
    have n30:=(sel (3,0) (by decide)).trans k30
    have n31:=(sel (3,1) (by decide)).trans k31
    replace hwi:=Hd hwi
    clear sel oth k10 k11 k20 k21 k30 k31 Rw
    have bW1:=bW0.trans (bb.mono hB0)
    have b21:=Below.step b20 bb
    have hB1:=bW1.size
    have hS1:W1.cell? ⟨w.heap.size,0,none⟩=some (.int .i64 K)∧W1.cell? ra=some (.int .i64 v):=⟨by rw [b21.cell hlow.1,← b20.cell hlow.1]; exact hS0.1,by rw [b21.cell hlow.2,← b20.cell hlow.2]; exact hS0.2⟩
    refine hK.out _ _ hS1 fun _=>?_
    clear hK KK bb RW0
    refine pqD 7 39 hS1 ?_
    refine pqD 8 47 hS1 ?_
    refine pqD 9 48 hS1 ?_
    refine pqD 10 49 hS1 ?_
    refine wpAnyH_ready (rs:=[11,12]) (by kernel_rfl) (by simp) (AllReadyH.cons rfl (fun KK hK=>?_) (AllReadyH.cons rfl (fun KK hK=>?_) (AllReadyH.nil)))
    ·go_simp
     obtain ⟨f2,RW2,n90,oo⟩:=RW1.box4 (9,0) hB1 36 (.int .i64 0) (.slice none 0 0) (.slice none 0 0) (.slice none 0 0)
     replace n02:=(oo (0,2) (by decide)).trans n02
     replace n03:=(oo (0,3) (by decide)).trans n03
     replace n10:=(oo (1,0) (by decide)).trans n10
     replace n11:=(oo (1,1) (by decide)).trans n11
     replace n20:=(oo (2,0) (by decide)).trans n20
     replace n21:=(oo (2,1) (by decide)).trans n21
     replace n30:=(oo (3,0) (by decide)).trans n30
     replace n31:=(oo (3,1) (by decide)).trans n31
     have bb:=belowAlloc W1 (.cells #[.int .i64 0,.slice none 0 0,.slice none 0 0,.slice none 0 0] 36)
     obtain ⟨gb9,hgb9⟩:∃ g,W1.heap.size=g:=⟨_,rfl⟩
     obtain ⟨W2,hW2⟩:∃ W':World,W1.alloc (.cells #[.int .i64 0,.slice none 0 0,.slice none 0 0,.slice none 0 0] 36)=W':=⟨_,rfl⟩
     have lgb9:w2.heap.size≤gb9:=by rw [← hgb9]; exact b21.size
     have bW2:=bW1.trans (bb.mono hB1)
     have b22:=Below.step b21 bb
     rw [hW2] at RW2 bW2 b22 bb
     have hB2:=bW2.size
     have hS2:W2.cell? ⟨w.heap.size,0,none⟩=some (.int .i64 K)∧W2.cell? ra=some (.int .i64 v):=⟨by rw [b22.cell hlow.1,← b21.cell hlow.1]; exact hS1.1,by rw [b22.cell hlow.2,← b21.cell hlow.2]; exact hS1.2⟩
     rw [hW2,hgb9]
     rw [hgb9] at n90
     replace hW2:=Hd hW2
     replace hgb9:=Hd hgb9
     refine hK.out _ _ hS2 fun _=>?_
     clear hK KK bb RW1 oo
     refine wpAnyH_ready (rs:=[12]) (by kernel_rfl) (by simp) (AllReadyH.cons rfl (fun KK hK=>?_) (AllReadyH.nil))
     ·go_simp
      obtain ⟨f3,RW3,n91,oo⟩:=RW2.box4 (9,1) hB2 36 (.int .i64 0) (.slice none 0 0) (.slice none 0 0) (.slice none 0 0)
      replace n02:=(oo (0,2) (by decide)).trans n02
      replace n03:=(oo (0,3) (by decide)).trans n03
      replace n10:=(oo (1,0) (by decide)).trans n10
      replace n11:=(oo (1,1) (by decide)).trans n11
      replace n20:=(oo (2,0) (by decide)).trans n20
      replace n21:=(oo (2,1) (by decide)).trans n21
      replace n30:=(oo (3,0) (by decide)).trans n30
      replace n31:=(oo (3,1) (by decide)).trans n31
      replace n90:=(oo (9,0) (by decide)).trans n90
      have bb:=belowAlloc W2 (.cells #[.int .i64 0,.slice none 0 0,.slice none 0 0,.slice none 0 0] 36)
      obtain ⟨gb10,hgb10⟩:∃ g,W2.heap.size=g:=⟨_,rfl⟩
      obtain ⟨W3,hW3⟩:∃ W':World,W2.alloc (.cells #[.int .i64 0,.slice none 0 0,.slice none 0 0,.slice none 0 0] 36)=W':=⟨_,rfl⟩
      have lgb10:w2.heap.size≤gb10:=by rw [← hgb10]; exact b22.size
      have bW3:=bW2.trans (bb.mono hB2)
      have b23:=Below.step b22 bb
      rw [hW3] at RW3 bW3 b23 bb
      have hB3:=bW3.size
      have hS3:W3.cell? ⟨w.heap.size,0,none⟩=some (.int .i64 K)∧W3.cell? ra=some (.int .i64 v):=⟨by rw [b23.cell hlow.1,← b22.cell hlow.1]; exact hS2.1,by rw [b23.cell hlow.2,← b22.cell hlow.2]; exact hS2.2⟩
      rw [hW3,hgb10]
      rw [hgb10] at n91
      replace hW3:=Hd hW3
      replace hgb10:=Hd hgb10
      refine hK.out _ _ hS3 fun _=>?_
      clear hK KK bb RW2 oo
      obtain ⟨t0,t1,t2,t3⟩:=RW3.cells4 n90
      have ft0:=RW3.frz4 n90 0
      have ft1:=RW3.frz4 n90 1
      have ft2:=RW3.frz4 n90 2
      have ft3:=RW3.frz4 n90 3
      have lt:=(RW3.low4 n90)
      obtain ⟨f4,RW4,mm,oo⟩:=RW3.all4 n90 (.int .i64 0) (.slice aLa aLn aLc) (.slice aCa aCn aCc) (.slice aQa aQn aQc)
      replace n02:=(oo (0,2) (by decide)).trans n02
      replace n03:=(oo (0,3) (by decide)).trans n03
      replace n10:=(oo (1,0) (by decide)).trans n10
      replace n11:=(oo (1,1) (by decide)).trans n11
      replace n20:=(oo (2,0) (by decide)).trans n20
      replace n21:=(oo (2,1) (by decide)).trans n21
      replace n30:=(oo (3,0) (by decide)).trans n30
      replace n31:=(oo (3,1) (by decide)).trans n31
      replace n91:=(oo (9,1) (by decide)).trans n91
      clear n90
      have n90:=mm
      have bW4:=Below.all4 (g:=gb9) bW3 lt.1 (.int .i64 0) (.slice aLa aLn aLc) (.slice aCa aCn aCc) (.slice aQa aQn aQc)
      have b24:=Below.all4 (g:=gb9) b23 lgb9 (.int .i64 0) (.slice aLa aLn aLc) (.slice aCa aCn aCc) (.slice aQa aQn aQc)
      obtain ⟨W4,hW4⟩:∃ W':World,(((W3.setCell ⟨gb9,0,none⟩ (.int .i64 0)).setCell ⟨gb9,1,none⟩ (.slice aLa aLn aLc)).setCell ⟨gb9,2,none⟩ (.slice aCa aCn aCc)).setCell ⟨gb9,3,none⟩ (.slice aQa aQn aQc)=W':=⟨_,rfl⟩
      rw [hW4] at RW4 bW4 b24
      have hS4:W4.cell? ⟨w.heap.size,0,none⟩=some (.int .i64 K)∧W4.cell? ra=some (.int .i64 v):=⟨by rw [b24.cell hlow.1,← b23.cell hlow.1]; exact hS3.1,by rw [b24.cell hlow.2,← b23.cell hlow.2]; exact hS3.2⟩
      replace hW4:=Hd hW4
      refine wpAnyH_ready (rs:=[13]) (by kernel_rfl) (by simp) (AllReadyH.cons rfl (fun KK hK=>?_) AllReadyH.nil)
      go_simp
      rw [hW4.out]
      refine hK.out _ _ hS4 fun _=>?_
      clear hK KK t0 t1 t2 t3 ft0 ft1 ft2 ft3 mm oo lt RW3 hW4
      obtain ⟨t0,t1,t2,t3⟩:=RW4.cells4 n91
      have ft0:=RW4.frz4 n91 0
      have ft1:=RW4.frz4 n91 1
      have ft2:=RW4.frz4 n91 2
      have ft3:=RW4.frz4 n91 3
      have lt:=(RW4.low4 n91)
      obtain ⟨f5,RW5,mm,oo⟩:=RW4.all4 n91 (.int .i64 0) (.slice bLa bLn bLc) (.slice bCa bCn bCc) (.slice bQa bQn bQc)
      replace n02:=(oo (0,2) (by decide)).trans n02
      replace n03:=(oo (0,3) (by decide)).trans n03
      replace n10:=(oo (1,0) (by decide)).trans n10
      replace n11:=(oo (1,1) (by decide)).trans n11
      replace n20:=(oo (2,0) (by decide)).trans n20
      replace n21:=(oo (2,1) (by decide)).trans n21
      replace n30:=(oo (3,0) (by decide)).trans n30
      replace n31:=(oo (3,1) (by decide)).trans n31
      replace n90:=(oo (9,0) (by decide)).trans n90
      clear n91
      have n91:=mm
      have bW5:=Below.all4 (g:=gb10) bW4 lt.1 (.int .i64 0) (.slice bLa bLn bLc) (.slice bCa bCn bCc) (.slice bQa bQn bQc)
      have b25:=Below.all4 (g:=gb10) b24 lgb10 (.int .i64 0) (.slice bLa bLn bLc) (.slice bCa bCn bCc) (.slice bQa bQn bQc)
      obtain ⟨W5,hW5⟩:∃ W':World,(((W4.setCell ⟨gb10,0,none⟩ (.int .i64 0)).setCell ⟨gb10,1,none⟩ (.slice bLa bLn bLc)).setCell ⟨gb10,2,none⟩ (.slice bCa bCn bCc)).setCell ⟨gb10,3,none⟩ (.slice bQa bQn bQc)=W':=⟨_,rfl⟩
      rw [hW5] at RW5 bW5 b25
      have hS5:W5.cell? ⟨w.heap.size,0,none⟩=some (.int .i64 K)∧W5.cell? ra=some (.int .i64 v):=⟨by rw [b25.cell hlow.1,← b24.cell hlow.1]; exact hS4.1,by rw [b25.cell hlow.2,← b24.cell hlow.2]; exact hS4.2⟩
      replace hW5:=Hd hW5
      refine wpAnyH_ready (rs:=[14]) (by kernel_rfl) (by simp) (AllReadyH.cons rfl (fun KK hK=>?_) AllReadyH.nil)
      go_simp
      rw [hW5.out]
      refine hK.out _ _ hS5 fun _=>?_
      clear hK KK t0 t1 t2 t3 ft0 ft1 ft2 ft3 mm oo lt RW4 hW5
      refine pqD 15 7 hS5 ?_
      refine wpAnyH_done (by kernel_rfl) ?_ _
      refine NoPanic.normal ?_
      replace n02:=Hd n02
      replace n03:=Hd n03
      replace n90:=Hd n90
      replace n91:=Hd n91
      replace n10:=Hd n10
      replace n11:=Hd n11
      replace n20:=Hd n20
      replace n21:=Hd n21
      replace n30:=Hd n30
      replace n31:=Hd n31
      replace RW5:=Hd RW5
      go_wp2
      go_meet
      case rel=>exact ⟨rfl,gb9,gb10,L',C',Q',_,_,_,_,_,_,f5,rfl,rfl,bW5,hwi.out,RW5.out,n02.out,n03.out,n90.out,n91.out,n10.out,n11.out,n20.out,n21.out,n30.out,n31.out⟩
    ·go_simp
     obtain ⟨f6,RW6,n91,oo⟩:=RW1.box4 (9,1) hB1 36 (.int .i64 0) (.slice none 0 0) (.slice none 0 0) (.slice none 0 0)
     replace n02:=(oo (0,2) (by decide)).trans n02
     replace n03:=(oo (0,3) (by decide)).trans n03
     replace n10:=(oo (1,0) (by decide)).trans n10
     replace n11:=(oo (1,1) (by decide)).trans n11
     replace n20:=(oo (2,0) (by decide)).trans n20
     replace n21:=(oo (2,1) (by decide)).trans n21
     replace n30:=(oo (3,0) (by decide)).trans n30
     replace n31:=(oo (3,1) (by decide)).trans n31
     have bb:=belowAlloc W1 (.cells #[.int .i64 0,.slice none 0 0,.slice none 0 0,.slice none 0 0] 36)
     obtain ⟨gb10,hgb10⟩:∃ g,W1.heap.size=g:=⟨_,rfl⟩
     obtain ⟨W6,hW6⟩:∃ W':World,W1.alloc (.cells #[.int .i64 0,.slice none 0 0,.slice none 0 0,.slice none 0 0] 36)=W':=⟨_,rfl⟩
     have lgb10:w2.heap.size≤gb10:=by rw [← hgb10]; exact b21.size
     have bW6:=bW1.trans (bb.mono hB1)
     have b26:=Below.step b21 bb
     rw [hW6] at RW6 bW6 b26 bb
     have hB6:=bW6.size
     have hS6:W6.cell? ⟨w.heap.size,0,none⟩=some (.int .i64 K)∧W6.cell? ra=some (.int .i64 v):=⟨by rw [b26.cell hlow.1,← b21.cell hlow.1]; exact hS1.1,by rw [b26.cell hlow.2,← b21.cell hlow.2]; exact hS1.2⟩
     rw [hW6,hgb10]
     rw [hgb10] at n91
     replace hW6:=Hd hW6
     replace hgb10:=Hd hgb10
     refine hK.out _ _ hS6 fun _=>?_
     clear hK KK bb RW1 oo
     refine wpAnyH_ready (rs:=[11]) (by kernel_rfl) (by simp) (AllReadyH.cons rfl (fun KK hK=>?_) (AllReadyH.nil))
     ·go_simp
      obtain ⟨f7,RW7,n90,oo⟩:=RW6.box4 (9,0) hB6 36 (.int .i64 0) (.slice none 0 0) (.slice none 0 0) (.slice none 0 0)
      replace n02:=(oo (0,2) (by decide)).trans n02
      replace n03:=(oo (0,3) (by decide)).trans n03
      replace n10:=(oo (1,0) (by decide)).trans n10
      replace n11:=(oo (1,1) (by decide)).trans n11
      replace n20:=(oo (2,0) (by decide)).trans n20
      replace n21:=(oo (2,1) (by decide)).trans n21
      replace n30:=(oo (3,0) (by decide)).trans n30
      replace n31:=(oo (3,1) (by decide)).trans n31
      replace n91:=(oo (9,1) (by decide)).trans n91
      have bb:=belowAlloc W6 (.cells #[.int .i64 0,.slice none 0 0,.slice none 0 0,.slice none 0 0] 36)
      obtain ⟨gb9,hgb9⟩:∃ g,W6.heap.size=g:=⟨_,rfl⟩
      obtain ⟨W7,hW7⟩:∃ W':World,W6.alloc (.cells #[.int .i64 0,.slice none 0 0,.slice none 0 0,.slice none 0 0] 36)=W':=⟨_,rfl⟩
      have lgb9:w2.heap.size≤gb9:=by rw [← hgb9]; exact b26.size
      have bW7:=bW6.trans (bb.mono hB6)
      have b27:=Below.step b26 bb
      rw [hW7] at RW7 bW7 b27 bb
      have hB7:=bW7.size
      have hS7:W7.cell? ⟨w.heap.size,0,none⟩=some (.int .i64 K)∧W7.cell? ra=some (.int .i64 v):=⟨by rw [b27.cell hlow.1,← b26.cell hlow.1]; exact hS6.1,by rw [b27.cell hlow.2,← b26.cell hlow.2]; exact hS6.2⟩
      rw [hW7,hgb9]
      rw [hgb9] at n90
      replace hW7:=Hd hW7
      replace hgb9:=Hd hgb9
      refine hK.out _ _ hS7 fun _=>?_
      clear hK KK bb RW6 oo
      obtain ⟨t0,t1,t2,t3⟩:=RW7.cells4 n90
      have ft0:=RW7.frz4 n90 0
      have ft1:=RW7.frz4 n90 1
      have ft2:=RW7.frz4 n90 2
      have ft3:=RW7.frz4 n90 3
      have lt:=(RW7.low4 n90)
      obtain ⟨f8,RW8,mm,oo⟩:=RW7.all4 n90 (.int .i64 0) (.slice aLa aLn aLc) (.slice aCa aCn aCc) (.slice aQa aQn aQc)
      replace n02:=(oo (0,2) (by decide)).trans n02
      replace n03:=(oo (0,3) (by decide)).trans n03
      replace n10:=(oo (1,0) (by decide)).trans n10
      replace n11:=(oo (1,1) (by decide)).trans n11
      replace n20:=(oo (2,0) (by decide)).trans n20
      replace n21:=(oo (2,1) (by decide)).trans n21
      replace n30:=(oo (3,0) (by decide)).trans n30
      replace n31:=(oo (3,1) (by decide)).trans n31
      replace n91:=(oo (9,1) (by decide)).trans n91
      clear n90
      have n90:=mm
      have bW8:=Below.all4 (g:=gb9) bW7 lt.1 (.int .i64 0) (.slice aLa aLn aLc) (.slice aCa aCn aCc) (.slice aQa aQn aQc)
      have b28:=Below.all4 (g:=gb9) b27 lgb9 (.int .i64 0) (.slice aLa aLn aLc) (.slice aCa aCn aCc) (.slice aQa aQn aQc)
      obtain ⟨W8,hW8⟩:∃ W':World,(((W7.setCell ⟨gb9,0,none⟩ (.int .i64 0)).setCell ⟨gb9,1,none⟩ (.slice aLa aLn aLc)).setCell ⟨gb9,2,none⟩ (.slice aCa aCn aCc)).setCell ⟨gb9,3,none⟩ (.slice aQa aQn aQc)=W':=⟨_,rfl⟩
      rw [hW8] at RW8 bW8 b28
      have hS8:W8.cell? ⟨w.heap.size,0,none⟩=some (.int .i64 K)∧W8.cell? ra=some (.int .i64 v):=⟨by rw [b28.cell hlow.1,← b27.cell hlow.1]; exact hS7.1,by rw [b28.cell hlow.2,← b27.cell hlow.2]; exact hS7.2⟩
      replace hW8:=Hd hW8
      refine wpAnyH_ready (rs:=[13]) (by kernel_rfl) (by simp) (AllReadyH.cons rfl (fun KK hK=>?_) AllReadyH.nil)
      go_simp
      rw [hW8.out]
      refine hK.out _ _ hS8 fun _=>?_
      clear hK KK t0 t1 t2 t3 ft0 ft1 ft2 ft3 mm oo lt RW7 hW8
      obtain ⟨t0,t1,t2,t3⟩:=RW8.cells4 n91
      have ft0:=RW8.frz4 n91 0
      have ft1:=RW8.frz4 n91 1
      have ft2:=RW8.frz4 n91 2
      have ft3:=RW8.frz4 n91 3
      have lt:=(RW8.low4 n91)
      obtain ⟨f9,RW9,mm,oo⟩:=RW8.all4 n91 (.int .i64 0) (.slice bLa bLn bLc) (.slice bCa bCn bCc) (.slice bQa bQn bQc)
      replace n02:=(oo (0,2) (by decide)).trans n02
      replace n03:=(oo (0,3) (by decide)).trans n03
      replace n10:=(oo (1,0) (by decide)).trans n10
      replace n11:=(oo (1,1) (by decide)).trans n11
      replace n20:=(oo (2,0) (by decide)).trans n20
      replace n21:=(oo (2,1) (by decide)).trans n21
      replace n30:=(oo (3,0) (by decide)).trans n30
      replace n31:=(oo (3,1) (by decide)).trans n31
      replace n90:=(oo (9,0) (by decide)).trans n90
      clear n91
      have n91:=mm
      have bW9:=Below.all4 (g:=gb10) bW8 lt.1 (.int .i64 0) (.slice bLa bLn bLc) (.slice bCa bCn bCc) (.slice bQa bQn bQc)
      have b29:=Below.all4 (g:=gb10) b28 lgb10 (.int .i64 0) (.slice bLa bLn bLc) (.slice bCa bCn bCc) (.slice bQa bQn bQc)
      obtain ⟨W9,hW9⟩:∃ W':World,(((W8.setCell ⟨gb10,0,none⟩ (.int .i64 0)).setCell ⟨gb10,1,none⟩ (.slice bLa bLn bLc)).setCell ⟨gb10,2,none⟩ (.slice bCa bCn bCc)).setCell ⟨gb10,3,none⟩ (.slice bQa bQn bQc)=W':=⟨_,rfl⟩
      rw [hW9] at RW9 bW9 b29
      have hS9:W9.cell? ⟨w.heap.size,0,none⟩=some (.int .i64 K)∧W9.cell? ra=some (.int .i64 v):=⟨by rw [b29.cell hlow.1,← b28.cell hlow.1]; exact hS8.1,by rw [b29.cell hlow.2,← b28.cell hlow.2]; exact hS8.2⟩
      replace hW9:=Hd hW9
      refine wpAnyH_ready (rs:=[14]) (by kernel_rfl) (by simp) (AllReadyH.cons rfl (fun KK hK=>?_) AllReadyH.nil)
      go_simp
      rw [hW9.out]
      refine hK.out _ _ hS9 fun _=>?_
      clear hK KK t0 t1 t2 t3 ft0 ft1 ft2 ft3 mm oo lt RW8 hW9
      refine pqD 15 7 hS9 ?_
      refine wpAnyH_done (by kernel_rfl) ?_ _
      refine NoPanic.normal ?_
      replace n02:=Hd n02
      replace n03:=Hd n03
      replace n90:=Hd n90
      replace n91:=Hd n91
      replace n10:=Hd n10
      replace n11:=Hd n11
      replace n20:=Hd n20
      replace n21:=Hd n21
      replace n30:=Hd n30
      replace n31:=Hd n31
      replace RW9:=Hd RW9
      go_wp2
      go_meet
      case rel=>exact ⟨rfl,gb9,gb10,L',C',Q',_,_,_,_,_,_,f9,rfl,rfl,bW9,hwi.out,RW9.out,n02.out,n03.out,n90.out,n91.out,n10.out,n11.out,n20.out,n21.out,n30.out,n31.out⟩
   ·go_simp
    obtain ⟨f10,RW10,n90,oo⟩:=RW0.box4 (9,0) hB0 36 (.int .i64 0) (.slice none 0 0) (.slice none 0 0) (.slice none 0 0)
    replace n02:=(oo (0,2) (by decide)).trans n02
    replace n03:=(oo (0,3) (by decide)).trans n03
    have bb:=belowAlloc W0 (.cells #[.int .i64 0,.slice none 0 0,.slice none 0 0,.slice none 0 0] 36)
    obtain ⟨gb9,hgb9⟩:∃ g,W0.heap.size=g:=⟨_,rfl⟩
    obtain ⟨W10,hW10⟩:∃ W':World,W0.alloc (.cells #[.int .i64 0,.slice none 0 0,.slice none 0 0,.slice none 0 0] 36)=W':=⟨_,rfl⟩
    have lgb9:w2.heap.size≤gb9:=by rw [← hgb9]; exact b20.size
    have bW10:=bW0.trans (bb.mono hB0)
    have b210:=Below.step b20 bb
    rw [hW10] at RW10 bW10 b210 bb
    have hB10:=bW10.size
    have hS10:W10.cell? ⟨w.heap.size,0,none⟩=some (.int .i64 K)∧W10.cell? ra=some (.int .i64 v):=⟨by rw [b210.cell hlow.1,← b20.cell hlow.1]; exact hS0.1,by rw [b210.cell hlow.2,← b20.cell hlow.2]; exact hS0.2⟩
    rw [hW10,hgb9]
    rw [hgb9] at n90
    replace hW10:=Hd hW10
    replace hgb9:=Hd hgb9
    refine hK.out _ _ hS10 fun _=>?_
    clear hK KK bb RW0 oo
    refine wpAnyH_ready (rs:=[6,12]) (by kernel_rfl) (by simp) (AllReadyH.cons rfl (fun KK hK=>?_) (AllReadyH.cons rfl (fun KK hK=>?_) (AllReadyH.nil)))
    ·go_simp
     refine (hwv.out W10 (hG2.out.below b210) (hL2.out.below b210)).mono ?_
     rintro e W11 ⟨x,y,z,rfl,bb,hz,L',C',Q',aL,aC,aQ,bL,bC,bQ,hwi,rfl,rfl,fw,Rw,k10,k11,k20,k21,k30,k31⟩
     subst hz
     obtain ⟨aLa,aLn,aLc,haL⟩:=(Rw.ownI k10).at.shape
     subst haL
     obtain ⟨bLa,bLn,bLc,hbL⟩:=(Rw.ownI k11).at.shape
     subst hbL
     obtain ⟨aCa,aCn,aCc,haC⟩:=(Rw.ownI k20).at.shape
     subst haC
     obtain ⟨bCa,bCn,bCc,hbC⟩:=(Rw.ownI k21).at.shape
     subst hbC
     obtain ⟨aQa,aQn,aQc,haQ⟩:=(Rw.ownI k30).at.shape
     subst haQ
     obtain ⟨bQa,bQn,bQc,hbQ⟩:=(Rw.ownI k31).at.shape
     subst hbQ
     obtain ⟨f11,RW11,sel,oth⟩:=RW10.merge (fun i=>decide (i.1=1∨i.1=2∨i.1=3)) bb Rw hB10
     replace n02:=(oth (0,2) (by decide)).trans n02
     replace n03:=(oth (0,3) (by decide)).trans n03
     replace n90:=(oth (9,0) (by decide)).trans n90
     have n10:=(sel (1,0) (by decide)).trans k10
     have n11:=(sel (1,1) (by decide)).trans k11
     have n20:=(sel (2,0) (by decide)).trans k20
     have n21:=(sel (2,1) (by decide)).trans k21
     have n30:=(sel (3,0) (by decide)).trans k30
     have n31:=(sel (3,1) (by decide)).trans k31
     replace hwi:=Hd hwi
     clear sel oth k10 k11 k20 k21 k30 k31 Rw
     have bW11:=bW10.trans (bb.mono hB10)
     have b211:=Below.step b210 bb
     have hB11:=bW11.size
     have hS11:W11.cell? ⟨w.heap.size,0,none⟩=some (.int .i64 K)∧W11.cell? ra=some (.int .i64 v):=⟨by rw [b211.cell hlow.1,← b210.cell hlow.1]; exact hS10.1,by rw [b211.cell hlow.2,← b210.cell hlow.2]; exact hS10.2⟩
     refine hK.out _ _ hS11 fun _=>?_
     clear hK KK bb RW10
     refine pqD 7 39 hS11 ?_
     refine pqD 8 47 hS11 ?_
     refine pqD 9 48 hS11 ?_
     refine pqD 10 49 hS11 ?_
     refine wpAnyH_ready (rs:=[12]) (by kernel_rfl) (by simp) (AllReadyH.cons rfl (fun KK hK=>?_) (AllReadyH.nil))
     ·go_simp
      obtain ⟨f12,RW12,n91,oo⟩:=RW11.box4 (9,1) hB11 36 (.int .i64 0) (.slice none 0 0) (.slice none 0 0) (.slice none 0 0)
      replace n02:=(oo (0,2) (by decide)).trans n02
      replace n03:=(oo (0,3) (by decide)).trans n03
      replace n90:=(oo (9,0) (by decide)).trans n90
      replace n10:=(oo (1,0) (by decide)).trans n10
      replace n11:=(oo (1,1) (by decide)).trans n11
      replace n20:=(oo (2,0) (by decide)).trans n20
      replace n21:=(oo (2,1) (by decide)).trans n21
      replace n30:=(oo (3,0) (by decide)).trans n30
      replace n31:=(oo (3,1) (by decide)).trans n31
      have bb:=belowAlloc W11 (.cells #[.int .i64 0,.slice none 0 0,.slice none 0 0,.slice none 0 0] 36)
      obtain ⟨gb10,hgb10⟩:∃ g,W11.heap.size=g:=⟨_,rfl⟩
      obtain ⟨W12,hW12⟩:∃ W':World,W11.alloc (.cells #[.int .i64 0,.slice none 0 0,.slice none 0 0,.slice none 0 0] 36)=W':=⟨_,rfl⟩
      have lgb10:w2.heap.size≤gb10:=by rw [← hgb10]; exact b211.size
      have bW12:=bW11.trans (bb.mono hB11)
      have b212:=Below.step b211 bb
      rw [hW12] at RW12 bW12 b212 bb
      have hB12:=bW12.size
      have hS12:W12.cell? ⟨w.heap.size,0,none⟩=some (.int .i64 K)∧W12.cell? ra=some (.int .i64 v):=⟨by rw [b212.cell hlow.1,← b211.cell hlow.1]; exact hS11.1,by rw [b212.cell hlow.2,← b211.cell hlow.2]; exact hS11.2⟩
      rw [hW12,hgb10]
      rw [hgb10] at n91
      replace hW12:=Hd hW12
      replace hgb10:=Hd hgb10
      refine hK.out _ _ hS12 fun _=>?_
      clear hK KK bb RW11 oo
      obtain ⟨t0,t1,t2,t3⟩:=RW12.cells4 n90
      have ft0:=RW12.frz4 n90 0
      have ft1:=RW12.frz4 n90 1
      have ft2:=RW12.frz4 n90 2
      have ft3:=RW12.frz4 n90 3
      have lt:=(RW12.low4 n90)
      obtain ⟨f13,RW13,mm,oo⟩:=RW12.all4 n90 (.int .i64 0) (.slice aLa aLn aLc) (.slice aCa aCn aCc) (.slice aQa aQn aQc)
      replace n02:=(oo (0,2) (by decide)).trans n02
      replace n03:=(oo (0,3) (by decide)).trans n03
      replace n10:=(oo (1,0) (by decide)).trans n10
      replace n11:=(oo (1,1) (by decide)).trans n11
      replace n20:=(oo (2,0) (by decide)).trans n20
      replace n21:=(oo (2,1) (by decide)).trans n21
      replace n30:=(oo (3,0) (by decide)).trans n30
      replace n31:=(oo (3,1) (by decide)).trans n31
      replace n91:=(oo (9,1) (by decide)).trans n91
      clear n90
      have n90:=mm
      have bW13:=Below.all4 (g:=gb9) bW12 lt.1 (.int .i64 0) (.slice aLa aLn aLc) (.slice aCa aCn aCc) (.slice aQa aQn aQc)
      have b213:=Below.all4 (g:=gb9) b212 lgb9 (.int .i64 0) (.slice aLa aLn aLc) (.slice aCa aCn aCc) (.slice aQa aQn aQc)
      obtain ⟨W13,hW13⟩:∃ W':World,(((W12.setCell ⟨gb9,0,none⟩ (.int .i64 0)).setCell ⟨gb9,1,none⟩ (.slice aLa aLn aLc)).setCell ⟨gb9,2,none⟩ (.slice aCa aCn aCc)).setCell ⟨gb9,3,none⟩ (.slice aQa aQn aQc)=W':=⟨_,rfl⟩
      rw [hW13] at RW13 bW13 b213
      have hS13:W13.cell? ⟨w.heap.size,0,none⟩=some (.int .i64 K)∧W13.cell? ra=some (.int .i64 v):=⟨by rw [b213.cell hlow.1,← b212.cell hlow.1]; exact hS12.1,by rw [b213.cell hlow.2,← b212.cell hlow.2]; exact hS12.2⟩
      replace hW13:=Hd hW13
      refine wpAnyH_ready (rs:=[13]) (by kernel_rfl) (by simp) (AllReadyH.cons rfl (fun KK hK=>?_) AllReadyH.nil)
      go_simp
      rw [hW13.out]
      refine hK.out _ _ hS13 fun _=>?_
      clear hK KK t0 t1 t2 t3 ft0 ft1 ft2 ft3 mm oo lt RW12 hW13
      obtain ⟨t0,t1,t2,t3⟩:=RW13.cells4 n91
      have ft0:=RW13.frz4 n91 0
      have ft1:=RW13.frz4 n91 1
      have ft2:=RW13.frz4 n91 2
      have ft3:=RW13.frz4 n91 3
      have lt:=(RW13.low4 n91)
      obtain ⟨f14,RW14,mm,oo⟩:=RW13.all4 n91 (.int .i64 0) (.slice bLa bLn bLc) (.slice bCa bCn bCc) (.slice bQa bQn bQc)
      replace n02:=(oo (0,2) (by decide)).trans n02
      replace n03:=(oo (0,3) (by decide)).trans n03
      replace n90:=(oo (9,0) (by decide)).trans n90
      replace n10:=(oo (1,0) (by decide)).trans n10
      replace n11:=(oo (1,1) (by decide)).trans n11
      replace n20:=(oo (2,0) (by decide)).trans n20
      replace n21:=(oo (2,1) (by decide)).trans n21
      replace n30:=(oo (3,0) (by decide)).trans n30
      replace n31:=(oo (3,1) (by decide)).trans n31
      clear n91
      have n91:=mm
      have bW14:=Below.all4 (g:=gb10) bW13 lt.1 (.int .i64 0) (.slice bLa bLn bLc) (.slice bCa bCn bCc) (.slice bQa bQn bQc)
      have b214:=Below.all4 (g:=gb10) b213 lgb10 (.int .i64 0) (.slice bLa bLn bLc) (.slice bCa bCn bCc) (.slice bQa bQn bQc)
      obtain ⟨W14,hW14⟩:∃ W':World,(((W13.setCell ⟨gb10,0,none⟩ (.int .i64 0)).setCell ⟨gb10,1,none⟩ (.slice bLa bLn bLc)).setCell ⟨gb10,2,none⟩ (.slice bCa bCn bCc)).setCell ⟨gb10,3,none⟩ (.slice bQa bQn bQc)=W':=⟨_,rfl⟩
      rw [hW14] at RW14 bW14 b214
      have hS14:W14.cell? ⟨w.heap.size,0,none⟩=some (.int .i64 K)∧W14.cell? ra=some (.int .i64 v):=⟨by rw [b214.cell hlow.1,← b213.cell hlow.1]; exact hS13.1,by rw [b214.cell hlow.2,← b213.cell hlow.2]; exact hS13.2⟩
      replace hW14:=Hd hW14
      refine wpAnyH_ready (rs:=[14]) (by kernel_rfl) (by simp) (AllReadyH.cons rfl (fun KK hK=>?_) AllReadyH.nil)
      go_simp
      rw [hW14.out]
      refine hK.out _ _ hS14 fun _=>?_
      clear hK KK t0 t1 t2 t3 ft0 ft1 ft2 ft3 mm oo lt RW13 hW14
      refine pqD 15 7 hS14 ?_
      refine wpAnyH_done (by kernel_rfl) ?_ _
      refine NoPanic.normal ?_
      replace n02:=Hd n02
      replace n03:=Hd n03
      replace n90:=Hd n90
      replace n91:=Hd n91
      replace n10:=Hd n10
      replace n11:=Hd n11
      replace n20:=Hd n20
      replace n21:=Hd n21
      replace n30:=Hd n30
      replace n31:=Hd n31
      replace RW14:=Hd RW14
      go_wp2
      go_meet
      case rel=>exact ⟨rfl,gb9,gb10,L',C',Q',_,_,_,_,_,_,f14,rfl,rfl,bW14,hwi.out,RW14.out,n02.out,n03.out,n90.out,n91.out,n10.out,n11.out,n20.out,n21.out,n30.out,n31.out⟩
    ·go_simp
     obtain ⟨f15,RW15,n91,oo⟩:=RW10.box4 (9,1) hB10 36 (.int .i64 0) (.slice none 0 0) (.slice none 0 0) (.slice none 0 0)
     replace n02:=(oo (0,2) (by decide)).trans n02
     replace n03:=(oo (0,3) (by decide)).trans n03
     replace n90:=(oo (9,0) (by decide)).trans n90
     have bb:=belowAlloc W10 (.cells #[.int .i64 0,.slice none 0 0,.slice none 0 0,.slice none 0 0] 36)
     obtain ⟨gb10,hgb10⟩:∃ g,W10.heap.size=g:=⟨_,rfl⟩
     obtain ⟨W15,hW15⟩:∃ W':World,W10.alloc (.cells #[.int .i64 0,.slice none 0 0,.slice none 0 0,.slice none 0 0] 36)=W':=⟨_,rfl⟩
     have lgb10:w2.heap.size≤gb10:=by rw [← hgb10]; exact b210.size
     have bW15:=bW10.trans (bb.mono hB10)
     have b215:=Below.step b210 bb
     rw [hW15] at RW15 bW15 b215 bb
     have hB15:=bW15.size
     have hS15:W15.cell? ⟨w.heap.size,0,none⟩=some (.int .i64 K)∧W15.cell? ra=some (.int .i64 v):=⟨by rw [b215.cell hlow.1,← b210.cell hlow.1]; exact hS10.1,by rw [b215.cell hlow.2,← b210.cell hlow.2]; exact hS10.2⟩
     rw [hW15,hgb10]
     rw [hgb10] at n91
     replace hW15:=Hd hW15
     replace hgb10:=Hd hgb10
     refine hK.out _ _ hS15 fun _=>?_
     clear hK KK bb RW10 oo
     refine wpAnyH_ready (rs:=[6]) (by kernel_rfl) (by simp) (AllReadyH.cons rfl (fun KK hK=>?_) (AllReadyH.nil))
     ·go_simp
      refine (hwv.out W15 (hG2.out.below b215) (hL2.out.below b215)).mono ?_
      rintro e W16 ⟨x,y,z,rfl,bb,hz,L',C',Q',aL,aC,aQ,bL,bC,bQ,hwi,rfl,rfl,fw,Rw,k10,k11,k20,k21,k30,k31⟩
      subst hz
      obtain ⟨aLa,aLn,aLc,haL⟩:=(Rw.ownI k10).at.shape
      subst haL
      obtain ⟨bLa,bLn,bLc,hbL⟩:=(Rw.ownI k11).at.shape
      subst hbL
      obtain ⟨aCa,aCn,aCc,haC⟩:=(Rw.ownI k20).at.shape
      subst haC
      obtain ⟨bCa,bCn,bCc,hbC⟩:=(Rw.ownI k21).at.shape
      subst hbC
      obtain ⟨aQa,aQn,aQc,haQ⟩:=(Rw.ownI k30).at.shape
      subst haQ
      obtain ⟨bQa,bQn,bQc,hbQ⟩:=(Rw.ownI k31).at.shape
      subst hbQ
      obtain ⟨f16,RW16,sel,oth⟩:=RW15.merge (fun i=>decide (i.1=1∨i.1=2∨i.1=3)) bb Rw hB15
      replace n02:=(oth (0,2) (by decide)).trans n02
      replace n03:=(oth (0,3) (by decide)).trans n03
      replace n90:=(oth (9,0) (by decide)).trans n90
      replace n91:=(oth (9,1) (by decide)).trans n91
      have n10:=(sel (1,0) (by decide)).trans k10
      have n11:=(sel (1,1) (by decide)).trans k11
      have n20:=(sel (2,0) (by decide)).trans k20
      have n21:=(sel (2,1) (by decide)).trans k21
      have n30:=(sel (3,0) (by decide)).trans k30
      have n31:=(sel (3,1) (by decide)).trans k31
      replace hwi:=Hd hwi
      clear sel oth k10 k11 k20 k21 k30 k31 Rw
      have bW16:=bW15.trans (bb.mono hB15)
      have b216:=Below.step b215 bb
      have hB16:=bW16.size
      have hS16:W16.cell? ⟨w.heap.size,0,none⟩=some (.int .i64 K)∧W16.cell? ra=some (.int .i64 v):=⟨by rw [b216.cell hlow.1,← b215.cell hlow.1]; exact hS15.1,by rw [b216.cell hlow.2,← b215.cell hlow.2]; exact hS15.2⟩
      refine hK.out _ _ hS16 fun _=>?_
      clear hK KK bb RW15
      refine pqD 7 39 hS16 ?_
      refine pqD 8 47 hS16 ?_
      refine pqD 9 48 hS16 ?_
      refine pqD 10 49 hS16 ?_
      obtain ⟨t0,t1,t2,t3⟩:=RW16.cells4 n90
      have ft0:=RW16.frz4 n90 0
      have ft1:=RW16.frz4 n90 1
      have ft2:=RW16.frz4 n90 2
      have ft3:=RW16.frz4 n90 3
      have lt:=(RW16.low4 n90)
      obtain ⟨f17,RW17,mm,oo⟩:=RW16.all4 n90 (.int .i64 0) (.slice aLa aLn aLc) (.slice aCa aCn aCc) (.slice aQa aQn aQc)
      replace n02:=(oo (0,2) (by decide)).trans n02
      replace n03:=(oo (0,3) (by decide)).trans n03
      replace n91:=(oo (9,1) (by decide)).trans n91
      replace n10:=(oo (1,0) (by decide)).trans n10
      replace n11:=(oo (1,1) (by decide)).trans n11
      replace n20:=(oo (2,0) (by decide)).trans n20
      replace n21:=(oo (2,1) (by decide)).trans n21
      replace n30:=(oo (3,0) (by decide)).trans n30
      replace n31:=(oo (3,1) (by decide)).trans n31
      clear n90
      have n90:=mm
      have bW17:=Below.all4 (g:=gb9) bW16 lt.1 (.int .i64 0) (.slice aLa aLn aLc) (.slice aCa aCn aCc) (.slice aQa aQn aQc)
      have b217:=Below.all4 (g:=gb9) b216 lgb9 (.int .i64 0) (.slice aLa aLn aLc) (.slice aCa aCn aCc) (.slice aQa aQn aQc)
      obtain ⟨W17,hW17⟩:∃ W':World,(((W16.setCell ⟨gb9,0,none⟩ (.int .i64 0)).setCell ⟨gb9,1,none⟩ (.slice aLa aLn aLc)).setCell ⟨gb9,2,none⟩ (.slice aCa aCn aCc)).setCell ⟨gb9,3,none⟩ (.slice aQa aQn aQc)=W':=⟨_,rfl⟩
      rw [hW17] at RW17 bW17 b217
      have hS17:W17.cell? ⟨w.heap.size,0,none⟩=some (.int .i64 K)∧W17.cell? ra=some (.int .i64 v):=⟨by rw [b217.cell hlow.1,← b216.cell hlow.1]; exact hS16.1,by rw [b217.cell hlow.2,← b216.cell hlow.2]; exact hS16.2⟩
      replace hW17:=Hd hW17
      refine wpAnyH_ready (rs:=[13]) (by kernel_rfl) (by simp) (AllReadyH.cons rfl (fun KK hK=>?_) AllReadyH.nil)
      go_simp
      rw [hW17.out]
      refine hK.out _ _ hS17 fun _=>?_
      clear hK KK t0 t1 t2 t3 ft0 ft1 ft2 ft3 mm oo lt RW16 hW17
      obtain ⟨t0,t1,t2,t3⟩:=RW17.cells4 n91
      have ft0:=RW17.frz4 n91 0
      have ft1:=RW17.frz4 n91 1
      have ft2:=RW17.frz4 n91 2
      have ft3:=RW17.frz4 n91 3
      have lt:=(RW17.low4 n91)
      obtain ⟨f18,RW18,mm,oo⟩:=RW17.all4 n91 (.int .i64 0) (.slice bLa bLn bLc) (.slice bCa bCn bCc) (.slice bQa bQn bQc)
      replace n02:=(oo (0,2) (by decide)).trans n02
      replace n03:=(oo (0,3) (by decide)).trans n03
      replace n90:=(oo (9,0) (by decide)).trans n90
      replace n10:=(oo (1,0) (by decide)).trans n10
      replace n11:=(oo (1,1) (by decide)).trans n11
      replace n20:=(oo (2,0) (by decide)).trans n20
      replace n21:=(oo (2,1) (by decide)).trans n21
      replace n30:=(oo (3,0) (by decide)).trans n30
      replace n31:=(oo (3,1) (by decide)).trans n31
      clear n91
      have n91:=mm
      have bW18:=Below.all4 (g:=gb10) bW17 lt.1 (.int .i64 0) (.slice bLa bLn bLc) (.slice bCa bCn bCc) (.slice bQa bQn bQc)
      have b218:=Below.all4 (g:=gb10) b217 lgb10 (.int .i64 0) (.slice bLa bLn bLc) (.slice bCa bCn bCc) (.slice bQa bQn bQc)
      obtain ⟨W18,hW18⟩:∃ W':World,(((W17.setCell ⟨gb10,0,none⟩ (.int .i64 0)).setCell ⟨gb10,1,none⟩ (.slice bLa bLn bLc)).setCell ⟨gb10,2,none⟩ (.slice bCa bCn bCc)).setCell ⟨gb10,3,none⟩ (.slice bQa bQn bQc)=W':=⟨_,rfl⟩
      rw [hW18] at RW18 bW18 b218
      have hS18:W18.cell? ⟨w.heap.size,0,none⟩=some (.int .i64 K)∧W18.cell? ra=some (.int .i64 v):=⟨by rw [b218.cell hlow.1,← b217.cell hlow.1]; exact hS17.1,by rw [b218.cell hlow.2,← b217.cell hlow.2]; exact hS17.2⟩
      replace hW18:=Hd hW18
      refine wpAnyH_ready (rs:=[14]) (by kernel_rfl) (by simp) (AllReadyH.cons rfl (fun KK hK=>?_) AllReadyH.nil)
      go_simp
      rw [hW18.out]
      refine hK.out _ _ hS18 fun _=>?_
      clear hK KK t0 t1 t2 t3 ft0 ft1 ft2 ft3 mm oo lt RW17 hW18
      refine pqD 15 7 hS18 ?_
      refine wpAnyH_done (by kernel_rfl) ?_ _
      refine NoPanic.normal ?_
      replace n02:=Hd n02
      replace n03:=Hd n03
      replace n90:=Hd n90
      replace n91:=Hd n91
      replace n10:=Hd n10
      replace n11:=Hd n11
      replace n20:=Hd n20
      replace n21:=Hd n21
      replace n30:=Hd n30
      replace n31:=Hd n31
      replace RW18:=Hd RW18
      go_wp2
      go_meet
      case rel=>exact ⟨rfl,gb9,gb10,L',C',Q',_,_,_,_,_,_,f18,rfl,rfl,bW18,hwi.out,RW18.out,n02.out,n03.out,n90.out,n91.out,n10.out,n11.out,n20.out,n21.out,n30.out,n31.out⟩
   ·go_simp
    obtain ⟨f19,RW19,n91,oo⟩:=RW0.box4 (9,1) hB0 36 (.int .i64 0) (.slice none 0 0) (.slice none 0 0) (.slice none 0 0)
    replace n02:=(oo (0,2) (by decide)).trans n02
    replace n03:=(oo (0,3) (by decide)).trans n03
    have bb:=belowAlloc W0 (.cells #[.int .i64 0,.slice none 0 0,.slice none 0 0,.slice none 0 0] 36)
    obtain ⟨gb10,hgb10⟩:∃ g,W0.heap.size=g:=⟨_,rfl⟩
    obtain ⟨W19,hW19⟩:∃ W':World,W0.alloc (.cells #[.int .i64 0,.slice none 0 0,.slice none 0 0,.slice none 0 0] 36)=W':=⟨_,rfl⟩
    have lgb10:w2.heap.size≤gb10:=by rw [← hgb10]; exact b20.size
    have bW19:=bW0.trans (bb.mono hB0)
    have b219:=Below.step b20 bb
    rw [hW19] at RW19 bW19 b219 bb
    have hB19:=bW19.size
    have hS19:W19.cell? ⟨w.heap.size,0,none⟩=some (.int .i64 K)∧W19.cell? ra=some (.int .i64 v):=⟨by rw [b219.cell hlow.1,← b20.cell hlow.1]; exact hS0.1,by rw [b219.cell hlow.2,← b20.cell hlow.2]; exact hS0.2⟩
    rw [hW19,hgb10]
    rw [hgb10] at n91
    replace hW19:=Hd hW19
    replace hgb10:=Hd hgb10
    refine hK.out _ _ hS19 fun _=>?_
    clear hK KK bb RW0 oo
    refine wpAnyH_ready (rs:=[6,11]) (by kernel_rfl) (by simp) (AllReadyH.cons rfl (fun KK hK=>?_) (AllReadyH.cons rfl (fun KK hK=>?_) (AllReadyH.nil)))
    ·go_simp
     refine (hwv.out W19 (hG2.out.below b219) (hL2.out.below b219)).mono ?_
     rintro e W20 ⟨x,y,z,rfl,bb,hz,L',C',Q',aL,aC,aQ,bL,bC,bQ,hwi,rfl,rfl,fw,Rw,k10,k11,k20,k21,k30,k31⟩
     subst hz
     obtain ⟨aLa,aLn,aLc,haL⟩:=(Rw.ownI k10).at.shape
     subst haL
     obtain ⟨bLa,bLn,bLc,hbL⟩:=(Rw.ownI k11).at.shape
     subst hbL
     obtain ⟨aCa,aCn,aCc,haC⟩:=(Rw.ownI k20).at.shape
     subst haC
     obtain ⟨bCa,bCn,bCc,hbC⟩:=(Rw.ownI k21).at.shape
     subst hbC
     obtain ⟨aQa,aQn,aQc,haQ⟩:=(Rw.ownI k30).at.shape
     subst haQ
     obtain ⟨bQa,bQn,bQc,hbQ⟩:=(Rw.ownI k31).at.shape
     subst hbQ
     obtain ⟨f20,RW20,sel,oth⟩:=RW19.merge (fun i=>decide (i.1=1∨i.1=2∨i.1=3)) bb Rw hB19
     replace n02:=(oth (0,2) (by decide)).trans n02
     replace n03:=(oth (0,3) (by decide)).trans n03
     replace n91:=(oth (9,1) (by decide)).trans n91
     have n10:=(sel (1,0) (by decide)).trans k10
     have n11:=(sel (1,1) (by decide)).trans k11
     have n20:=(sel (2,0) (by decide)).trans k20
     have n21:=(sel (2,1) (by decide)).trans k21
     have n30:=(sel (3,0) (by decide)).trans k30
     have n31:=(sel (3,1) (by decide)).trans k31
     replace hwi:=Hd hwi
     clear sel oth k10 k11 k20 k21 k30 k31 Rw
     have bW20:=bW19.trans (bb.mono hB19)
     have b220:=Below.step b219 bb
     have hB20:=bW20.size
     have hS20:W20.cell? ⟨w.heap.size,0,none⟩=some (.int .i64 K)∧W20.cell? ra=some (.int .i64 v):=⟨by rw [b220.cell hlow.1,← b219.cell hlow.1]; exact hS19.1,by rw [b220.cell hlow.2,← b219.cell hlow.2]; exact hS19.2⟩
     refine hK.out _ _ hS20 fun _=>?_
     clear hK KK bb RW19
     refine pqD 7 39 hS20 ?_
     refine pqD 8 47 hS20 ?_
     refine pqD 9 48 hS20 ?_
     refine pqD 10 49 hS20 ?_
     refine wpAnyH_ready (rs:=[11]) (by kernel_rfl) (by simp) (AllReadyH.cons rfl (fun KK hK=>?_) (AllReadyH.nil))
     ·go_simp
      obtain ⟨f21,RW21,n90,oo⟩:=RW20.box4 (9,0) hB20 36 (.int .i64 0) (.slice none 0 0) (.slice none 0 0) (.slice none 0 0)
      replace n02:=(oo (0,2) (by decide)).trans n02
      replace n03:=(oo (0,3) (by decide)).trans n03
      replace n91:=(oo (9,1) (by decide)).trans n91
      replace n10:=(oo (1,0) (by decide)).trans n10
      replace n11:=(oo (1,1) (by decide)).trans n11
      replace n20:=(oo (2,0) (by decide)).trans n20
      replace n21:=(oo (2,1) (by decide)).trans n21
      replace n30:=(oo (3,0) (by decide)).trans n30
      replace n31:=(oo (3,1) (by decide)).trans n31
      have bb:=belowAlloc W20 (.cells #[.int .i64 0,.slice none 0 0,.slice none 0 0,.slice none 0 0] 36)
      obtain ⟨gb9,hgb9⟩:∃ g,W20.heap.size=g:=⟨_,rfl⟩
      obtain ⟨W21,hW21⟩:∃ W':World,W20.alloc (.cells #[.int .i64 0,.slice none 0 0,.slice none 0 0,.slice none 0 0] 36)=W':=⟨_,rfl⟩
      have lgb9:w2.heap.size≤gb9:=by rw [← hgb9]; exact b220.size
      have bW21:=bW20.trans (bb.mono hB20)
      have b221:=Below.step b220 bb
      rw [hW21] at RW21 bW21 b221 bb
      have hB21:=bW21.size
      have hS21:W21.cell? ⟨w.heap.size,0,none⟩=some (.int .i64 K)∧W21.cell? ra=some (.int .i64 v):=⟨by rw [b221.cell hlow.1,← b220.cell hlow.1]; exact hS20.1,by rw [b221.cell hlow.2,← b220.cell hlow.2]; exact hS20.2⟩
      rw [hW21,hgb9]
      rw [hgb9] at n90
      replace hW21:=Hd hW21
      replace hgb9:=Hd hgb9
      refine hK.out _ _ hS21 fun _=>?_
      clear hK KK bb RW20 oo
      obtain ⟨t0,t1,t2,t3⟩:=RW21.cells4 n90
      have ft0:=RW21.frz4 n90 0
      have ft1:=RW21.frz4 n90 1
      have ft2:=RW21.frz4 n90 2
      have ft3:=RW21.frz4 n90 3
      have lt:=(RW21.low4 n90)
      obtain ⟨f22,RW22,mm,oo⟩:=RW21.all4 n90 (.int .i64 0) (.slice aLa aLn aLc) (.slice aCa aCn aCc) (.slice aQa aQn aQc)
      replace n02:=(oo (0,2) (by decide)).trans n02
      replace n03:=(oo (0,3) (by decide)).trans n03
      replace n91:=(oo (9,1) (by decide)).trans n91
      replace n10:=(oo (1,0) (by decide)).trans n10
      replace n11:=(oo (1,1) (by decide)).trans n11
      replace n20:=(oo (2,0) (by decide)).trans n20
      replace n21:=(oo (2,1) (by decide)).trans n21
      replace n30:=(oo (3,0) (by decide)).trans n30
      replace n31:=(oo (3,1) (by decide)).trans n31
      clear n90
      have n90:=mm
      have bW22:=Below.all4 (g:=gb9) bW21 lt.1 (.int .i64 0) (.slice aLa aLn aLc) (.slice aCa aCn aCc) (.slice aQa aQn aQc)
      have b222:=Below.all4 (g:=gb9) b221 lgb9 (.int .i64 0) (.slice aLa aLn aLc) (.slice aCa aCn aCc) (.slice aQa aQn aQc)
      obtain ⟨W22,hW22⟩:∃ W':World,(((W21.setCell ⟨gb9,0,none⟩ (.int .i64 0)).setCell ⟨gb9,1,none⟩ (.slice aLa aLn aLc)).setCell ⟨gb9,2,none⟩ (.slice aCa aCn aCc)).setCell ⟨gb9,3,none⟩ (.slice aQa aQn aQc)=W':=⟨_,rfl⟩
      rw [hW22] at RW22 bW22 b222
      have hS22:W22.cell? ⟨w.heap.size,0,none⟩=some (.int .i64 K)∧W22.cell? ra=some (.int .i64 v):=⟨by rw [b222.cell hlow.1,← b221.cell hlow.1]; exact hS21.1,by rw [b222.cell hlow.2,← b221.cell hlow.2]; exact hS21.2⟩
      replace hW22:=Hd hW22
      refine wpAnyH_ready (rs:=[13]) (by kernel_rfl) (by simp) (AllReadyH.cons rfl (fun KK hK=>?_) AllReadyH.nil)
      go_simp
      rw [hW22.out]
      refine hK.out _ _ hS22 fun _=>?_
      clear hK KK t0 t1 t2 t3 ft0 ft1 ft2 ft3 mm oo lt RW21 hW22
      obtain ⟨t0,t1,t2,t3⟩:=RW22.cells4 n91
      have ft0:=RW22.frz4 n91 0
      have ft1:=RW22.frz4 n91 1
      have ft2:=RW22.frz4 n91 2
      have ft3:=RW22.frz4 n91 3
      have lt:=(RW22.low4 n91)
      obtain ⟨f23,RW23,mm,oo⟩:=RW22.all4 n91 (.int .i64 0) (.slice bLa bLn bLc) (.slice bCa bCn bCc) (.slice bQa bQn bQc)
      replace n02:=(oo (0,2) (by decide)).trans n02
      replace n03:=(oo (0,3) (by decide)).trans n03
      replace n10:=(oo (1,0) (by decide)).trans n10
      replace n11:=(oo (1,1) (by decide)).trans n11
      replace n20:=(oo (2,0) (by decide)).trans n20
      replace n21:=(oo (2,1) (by decide)).trans n21
      replace n30:=(oo (3,0) (by decide)).trans n30
      replace n31:=(oo (3,1) (by decide)).trans n31
      replace n90:=(oo (9,0) (by decide)).trans n90
      clear n91
      have n91:=mm
      have bW23:=Below.all4 (g:=gb10) bW22 lt.1 (.int .i64 0) (.slice bLa bLn bLc) (.slice bCa bCn bCc) (.slice bQa bQn bQc)
      have b223:=Below.all4 (g:=gb10) b222 lgb10 (.int .i64 0) (.slice bLa bLn bLc) (.slice bCa bCn bCc) (.slice bQa bQn bQc)
      obtain ⟨W23,hW23⟩:∃ W':World,(((W22.setCell ⟨gb10,0,none⟩ (.int .i64 0)).setCell ⟨gb10,1,none⟩ (.slice bLa bLn bLc)).setCell ⟨gb10,2,none⟩ (.slice bCa bCn bCc)).setCell ⟨gb10,3,none⟩ (.slice bQa bQn bQc)=W':=⟨_,rfl⟩
      rw [hW23] at RW23 bW23 b223
      have hS23:W23.cell? ⟨w.heap.size,0,none⟩=some (.int .i64 K)∧W23.cell? ra=some (.int .i64 v):=⟨by rw [b223.cell hlow.1,← b222.cell hlow.1]; exact hS22.1,by rw [b223.cell hlow.2,← b222.cell hlow.2]; exact hS22.2⟩
      replace hW23:=Hd hW23
      refine wpAnyH_ready (rs:=[14]) (by kernel_rfl) (by simp) (AllReadyH.cons rfl (fun KK hK=>?_) AllReadyH.nil)
      go_simp
      rw [hW23.out]
      refine hK.out _ _ hS23 fun _=>?_
      clear hK KK t0 t1 t2 t3 ft0 ft1 ft2 ft3 mm oo lt RW22 hW23
      refine pqD 15 7 hS23 ?_
      refine wpAnyH_done (by kernel_rfl) ?_ _
      refine NoPanic.normal ?_
      replace n02:=Hd n02
      replace n03:=Hd n03
      replace n90:=Hd n90
      replace n91:=Hd n91
      replace n10:=Hd n10
      replace n11:=Hd n11
      replace n20:=Hd n20
      replace n21:=Hd n21
      replace n30:=Hd n30
      replace n31:=Hd n31
      replace RW23:=Hd RW23
      go_wp2
      go_meet
      case rel=>exact ⟨rfl,gb9,gb10,L',C',Q',_,_,_,_,_,_,f23,rfl,rfl,bW23,hwi.out,RW23.out,n02.out,n03.out,n90.out,n91.out,n10.out,n11.out,n20.out,n21.out,n30.out,n31.out⟩
    ·go_simp
     obtain ⟨f24,RW24,n90,oo⟩:=RW19.box4 (9,0) hB19 36 (.int .i64 0) (.slice none 0 0) (.slice none 0 0) (.slice none 0 0)
     replace n02:=(oo (0,2) (by decide)).trans n02
     replace n03:=(oo (0,3) (by decide)).trans n03
     replace n91:=(oo (9,1) (by decide)).trans n91
     have bb:=belowAlloc W19 (.cells #[.int .i64 0,.slice none 0 0,.slice none 0 0,.slice none 0 0] 36)
     obtain ⟨gb9,hgb9⟩:∃ g,W19.heap.size=g:=⟨_,rfl⟩
     obtain ⟨W24,hW24⟩:∃ W':World,W19.alloc (.cells #[.int .i64 0,.slice none 0 0,.slice none 0 0,.slice none 0 0] 36)=W':=⟨_,rfl⟩
     have lgb9:w2.heap.size≤gb9:=by rw [← hgb9]; exact b219.size
     have bW24:=bW19.trans (bb.mono hB19)
     have b224:=Below.step b219 bb
     rw [hW24] at RW24 bW24 b224 bb
     have hB24:=bW24.size
     have hS24:W24.cell? ⟨w.heap.size,0,none⟩=some (.int .i64 K)∧W24.cell? ra=some (.int .i64 v):=⟨by rw [b224.cell hlow.1,← b219.cell hlow.1]; exact hS19.1,by rw [b224.cell hlow.2,← b219.cell hlow.2]; exact hS19.2⟩
     rw [hW24,hgb9]
     rw [hgb9] at n90
     replace hW24:=Hd hW24
     replace hgb9:=Hd hgb9
     refine hK.out _ _ hS24 fun _=>?_
     clear hK KK bb RW19 oo
     refine wpAnyH_ready (rs:=[6]) (by kernel_rfl) (by simp) (AllReadyH.cons rfl (fun KK hK=>?_) (AllReadyH.nil))
     ·go_simp
      refine (hwv.out W24 (hG2.out.below b224) (hL2.out.below b224)).mono ?_
      rintro e W25 ⟨x,y,z,rfl,bb,hz,L',C',Q',aL,aC,aQ,bL,bC,bQ,hwi,rfl,rfl,fw,Rw,k10,k11,k20,k21,k30,k31⟩
      subst hz
      obtain ⟨aLa,aLn,aLc,haL⟩:=(Rw.ownI k10).at.shape
      subst haL
      obtain ⟨bLa,bLn,bLc,hbL⟩:=(Rw.ownI k11).at.shape
      subst hbL
      obtain ⟨aCa,aCn,aCc,haC⟩:=(Rw.ownI k20).at.shape
      subst haC
      obtain ⟨bCa,bCn,bCc,hbC⟩:=(Rw.ownI k21).at.shape
      subst hbC
      obtain ⟨aQa,aQn,aQc,haQ⟩:=(Rw.ownI k30).at.shape
      subst haQ
      obtain ⟨bQa,bQn,bQc,hbQ⟩:=(Rw.ownI k31).at.shape
      subst hbQ
      obtain ⟨f25,RW25,sel,oth⟩:=RW24.merge (fun i=>decide (i.1=1∨i.1=2∨i.1=3)) bb Rw hB24
      replace n02:=(oth (0,2) (by decide)).trans n02
      replace n03:=(oth (0,3) (by decide)).trans n03
      replace n91:=(oth (9,1) (by decide)).trans n91
      replace n90:=(oth (9,0) (by decide)).trans n90
      have n10:=(sel (1,0) (by decide)).trans k10
      have n11:=(sel (1,1) (by decide)).trans k11
      have n20:=(sel (2,0) (by decide)).trans k20
      have n21:=(sel (2,1) (by decide)).trans k21
      have n30:=(sel (3,0) (by decide)).trans k30
      have n31:=(sel (3,1) (by decide)).trans k31
      replace hwi:=Hd hwi
      clear sel oth k10 k11 k20 k21 k30 k31 Rw
      have bW25:=bW24.trans (bb.mono hB24)
      have b225:=Below.step b224 bb
      have hB25:=bW25.size
      have hS25:W25.cell? ⟨w.heap.size,0,none⟩=some (.int .i64 K)∧W25.cell? ra=some (.int .i64 v):=⟨by rw [b225.cell hlow.1,← b224.cell hlow.1]; exact hS24.1,by rw [b225.cell hlow.2,← b224.cell hlow.2]; exact hS24.2⟩
      refine hK.out _ _ hS25 fun _=>?_
      clear hK KK bb RW24
      refine pqD 7 39 hS25 ?_
      refine pqD 8 47 hS25 ?_
      refine pqD 9 48 hS25 ?_
      refine pqD 10 49 hS25 ?_
      obtain ⟨t0,t1,t2,t3⟩:=RW25.cells4 n90
      have ft0:=RW25.frz4 n90 0
      have ft1:=RW25.frz4 n90 1
      have ft2:=RW25.frz4 n90 2
      have ft3:=RW25.frz4 n90 3
      have lt:=(RW25.low4 n90)
      obtain ⟨f26,RW26,mm,oo⟩:=RW25.all4 n90 (.int .i64 0) (.slice aLa aLn aLc) (.slice aCa aCn aCc) (.slice aQa aQn aQc)
      replace n02:=(oo (0,2) (by decide)).trans n02
      replace n03:=(oo (0,3) (by decide)).trans n03
      replace n91:=(oo (9,1) (by decide)).trans n91
      replace n10:=(oo (1,0) (by decide)).trans n10
      replace n11:=(oo (1,1) (by decide)).trans n11
      replace n20:=(oo (2,0) (by decide)).trans n20
      replace n21:=(oo (2,1) (by decide)).trans n21
      replace n30:=(oo (3,0) (by decide)).trans n30
      replace n31:=(oo (3,1) (by decide)).trans n31
      clear n90
      have n90:=mm
      have bW26:=Below.all4 (g:=gb9) bW25 lt.1 (.int .i64 0) (.slice aLa aLn aLc) (.slice aCa aCn aCc) (.slice aQa aQn aQc)
      have b226:=Below.all4 (g:=gb9) b225 lgb9 (.int .i64 0) (.slice aLa aLn aLc) (.slice aCa aCn aCc) (.slice aQa aQn aQc)
      obtain ⟨W26,hW26⟩:∃ W':World,(((W25.setCell ⟨gb9,0,none⟩ (.int .i64 0)).setCell ⟨gb9,1,none⟩ (.slice aLa aLn aLc)).setCell ⟨gb9,2,none⟩ (.slice aCa aCn aCc)).setCell ⟨gb9,3,none⟩ (.slice aQa aQn aQc)=W':=⟨_,rfl⟩
      rw [hW26] at RW26 bW26 b226
      have hS26:W26.cell? ⟨w.heap.size,0,none⟩=some (.int .i64 K)∧W26.cell? ra=some (.int .i64 v):=⟨by rw [b226.cell hlow.1,← b225.cell hlow.1]; exact hS25.1,by rw [b226.cell hlow.2,← b225.cell hlow.2]; exact hS25.2⟩
      replace hW26:=Hd hW26
      refine wpAnyH_ready (rs:=[13]) (by kernel_rfl) (by simp) (AllReadyH.cons rfl (fun KK hK=>?_) AllReadyH.nil)
      go_simp
      rw [hW26.out]
      refine hK.out _ _ hS26 fun _=>?_
      clear hK KK t0 t1 t2 t3 ft0 ft1 ft2 ft3 mm oo lt RW25 hW26
      obtain ⟨t0,t1,t2,t3⟩:=RW26.cells4 n91
      have ft0:=RW26.frz4 n91 0
      have ft1:=RW26.frz4 n91 1
      have ft2:=RW26.frz4 n91 2
      have ft3:=RW26.frz4 n91 3
      have lt:=(RW26.low4 n91)
      obtain ⟨f27,RW27,mm,oo⟩:=RW26.all4 n91 (.int .i64 0) (.slice bLa bLn bLc) (.slice bCa bCn bCc) (.slice bQa bQn bQc)
      replace n02:=(oo (0,2) (by decide)).trans n02
      replace n03:=(oo (0,3) (by decide)).trans n03
      replace n90:=(oo (9,0) (by decide)).trans n90
      replace n10:=(oo (1,0) (by decide)).trans n10
      replace n11:=(oo (1,1) (by decide)).trans n11
      replace n20:=(oo (2,0) (by decide)).trans n20
      replace n21:=(oo (2,1) (by decide)).trans n21
      replace n30:=(oo (3,0) (by decide)).trans n30
      replace n31:=(oo (3,1) (by decide)).trans n31
      clear n91
      have n91:=mm
      have bW27:=Below.all4 (g:=gb10) bW26 lt.1 (.int .i64 0) (.slice bLa bLn bLc) (.slice bCa bCn bCc) (.slice bQa bQn bQc)
      have b227:=Below.all4 (g:=gb10) b226 lgb10 (.int .i64 0) (.slice bLa bLn bLc) (.slice bCa bCn bCc) (.slice bQa bQn bQc)
      obtain ⟨W27,hW27⟩:∃ W':World,(((W26.setCell ⟨gb10,0,none⟩ (.int .i64 0)).setCell ⟨gb10,1,none⟩ (.slice bLa bLn bLc)).setCell ⟨gb10,2,none⟩ (.slice bCa bCn bCc)).setCell ⟨gb10,3,none⟩ (.slice bQa bQn bQc)=W':=⟨_,rfl⟩
      rw [hW27] at RW27 bW27 b227
      have hS27:W27.cell? ⟨w.heap.size,0,none⟩=some (.int .i64 K)∧W27.cell? ra=some (.int .i64 v):=⟨by rw [b227.cell hlow.1,← b226.cell hlow.1]; exact hS26.1,by rw [b227.cell hlow.2,← b226.cell hlow.2]; exact hS26.2⟩
      replace hW27:=Hd hW27
      refine wpAnyH_ready (rs:=[14]) (by kernel_rfl) (by simp) (AllReadyH.cons rfl (fun KK hK=>?_) AllReadyH.nil)
      go_simp
      rw [hW27.out]
      refine hK.out _ _ hS27 fun _=>?_
      clear hK KK t0 t1 t2 t3 ft0 ft1 ft2 ft3 mm oo lt RW26 hW27
      refine pqD 15 7 hS27 ?_
      refine wpAnyH_done (by kernel_rfl) ?_ _
      refine NoPanic.normal ?_
      replace n02:=Hd n02
      replace n03:=Hd n03
      replace n90:=Hd n90
      replace n91:=Hd n91
      replace n10:=Hd n10
      replace n11:=Hd n11
      replace n20:=Hd n20
      replace n21:=Hd n21
      replace n30:=Hd n30
      replace n31:=Hd n31
      replace RW27:=Hd RW27
      go_wp2
      go_meet
      case rel=>exact ⟨rfl,gb9,gb10,L',C',Q',_,_,_,_,_,_,f27,rfl,rfl,bW27,hwi.out,RW27.out,n02.out,n03.out,n90.out,n91.out,n10.out,n11.out,n20.out,n21.out,n30.out,n31.out⟩
  case rest =>
   obtain ⟨rfl,g9,g10,L',C',Q',aL,aC,aQ,bL,bC,bQ,f9,rfl,rfl,bc,hwi,Rc,n02,n03,n90,n91,n10,n11,n20,n21,n30,n31⟩:=hcut
   obtain ⟨aLa,aLn,aLc,haL⟩:=(Rc.ownI n10).at.shape
   subst haL
   obtain ⟨bLa,bLn,bLc,hbL⟩:=(Rc.ownI n11).at.shape
   subst hbL
   obtain ⟨aCa,aCn,aCc,haC⟩:=(Rc.ownI n20).at.shape
   subst haC
   obtain ⟨bCa,bCn,bCc,hbC⟩:=(Rc.ownI n21).at.shape
   subst hbC
   obtain ⟨aQa,aQn,aQc,haQ⟩:=(Rc.ownI n30).at.shape
   subst haQ
   obtain ⟨bQa,bQn,bQc,hbQ⟩:=(Rc.ownI n31).at.shape
   subst hbQ
   have honeR:=honeL.out v m L' C' Q' hod.out hwi
   clear hwi
   replace honeR:=Hd honeR
   obtain ⟨V,hVd⟩:∃ V:World,wc.drew=V:=⟨_,rfl⟩
   have RV:Rows w.heap.size V f9:=by rw [← hVd]; exact Rc.drew
   have bV:Below w.heap.size w V:=by rw [← hVd]; exact bc.drew
   replace hVd:=Hd hVd
   clear Rc bc
   have hS:V.cell? ⟨g9,0,none⟩=some (.int .i64 0)∧V.cell? ⟨g9,1,none⟩=some (.slice aLa aLn aLc)∧V.cell? ⟨g9,2,none⟩=some (.slice aCa aCn aCc)∧V.cell? ⟨g9,3,none⟩=some (.slice aQa aQn aQc)∧V.cell? ⟨g10,0,none⟩=some (.int .i64 0)∧V.cell? ⟨g10,1,none⟩=some (.slice bLa bLn bLc)∧V.cell? ⟨g10,2,none⟩=some (.slice bCa bCn bCc)∧V.cell? ⟨g10,3,none⟩=some (.slice bQa bQn bQc):=by
    obtain ⟨a0,a1,a2,a3⟩:=RV.cells4 n90
    obtain ⟨d0,d1,d2,d3⟩:=RV.cells4 n91
    exact ⟨a0,a1,a2,a3,d0,d1,d2,d3⟩
   obtain ⟨g0,g1,g2,g3⟩:=RV.cells4 n02
   have fg0:=RV.frz4 n02 0
   have fg1:=RV.frz4 n02 1
   have fg2:=RV.frz4 n02 2
   have fg3:=RV.frz4 n02 3
   have lg0:=(RV.low4 n02).1
   obtain ⟨f15,R15,m02,o15⟩:=RV.all4 n02 (.int .i64 0) (.slice aLa aLn aLc) (.slice aCa aCn aCc) (.slice aQa aQn aQc)
   replace n03:=(o15 (0,3) (by decide)).trans n03
   replace n90:=(o15 (9,0) (by decide)).trans n90
   replace n91:=(o15 (9,1) (by decide)).trans n91
   replace n10:=(o15 (1,0) (by decide)).trans n10
   replace n11:=(o15 (1,1) (by decide)).trans n11
   replace n20:=(o15 (2,0) (by decide)).trans n20
   replace n21:=(o15 (2,1) (by decide)).trans n21
   replace n30:=(o15 (3,0) (by decide)).trans n30
   replace n31:=(o15 (3,1) (by decide)).trans n31
   have b15:=Below.all4 (g:=w.heap.size+1) bV lg0 (.int .i64 0) (.slice aLa aLn aLc) (.slice aCa aCn aCc) (.slice aQa aQn aQc)
   obtain ⟨V15,hV15⟩:∃ V':World,(((V.setCell ⟨w.heap.size+1,0,none⟩ (.int .i64 0)).setCell ⟨w.heap.size+1,1,none⟩ (.slice aLa aLn aLc)).setCell ⟨w.heap.size+1,2,none⟩ (.slice aCa aCn aCc)).setCell ⟨w.heap.size+1,3,none⟩ (.slice aQa aQn aQc)=V':=⟨_,rfl⟩
   rw [hV15] at R15 b15
   have hS15:V15.cell? ⟨g9,0,none⟩=some (.int .i64 0)∧V15.cell? ⟨g9,1,none⟩=some (.slice aLa aLn aLc)∧V15.cell? ⟨g9,2,none⟩=some (.slice aCa aCn aCc)∧V15.cell? ⟨g9,3,none⟩=some (.slice aQa aQn aQc)∧V15.cell? ⟨g10,0,none⟩=some (.int .i64 0)∧V15.cell? ⟨g10,1,none⟩=some (.slice bLa bLn bLc)∧V15.cell? ⟨g10,2,none⟩=some (.slice bCa bCn bCc)∧V15.cell? ⟨g10,3,none⟩=some (.slice bQa bQn bQc):=by
    obtain ⟨a0,a1,a2,a3⟩:=R15.cells4 n90
    obtain ⟨d0,d1,d2,d3⟩:=R15.cells4 n91
    exact ⟨a0,a1,a2,a3,d0,d1,d2,d3⟩
   replace hV15:=Hd hV15
   clear n02 o15 RV bV lg0
   have n02:=m02
   clear m02
   go_upto_region 8 with fail
   refine wp_region_plan (fun w'=>w'.cell? ⟨g9,0,none⟩=some (.int .i64 0)∧w'.cell? ⟨g9,1,none⟩=some (.slice aLa aLn aLc)∧w'.cell? ⟨g9,2,none⟩=some (.slice aCa aCn aCc)∧w'.cell? ⟨g9,3,none⟩=some (.slice aQa aQn aQc)∧w'.cell? ⟨g10,0,none⟩=some (.int .i64 0)∧w'.cell? ⟨g10,1,none⟩=some (.slice bLa bLn bLc)∧w'.cell? ⟨g10,2,none⟩=some (.slice bCa bCn bCc)∧w'.cell? ⟨g10,3,none⟩=some (.slice bQa bQn bQc)) 6 [(0,true),(1,true),(2,true),(3,true),(4,false),(5,false)] (by kernel_rfl) (by kernel_rfl) ?_
   rw [hVd.out]
   refine pqY 50 hS ?_
   refine pqY 51 hS ?_
   refine pqY 52 hS ?_
   refine pqY 2 hS ?_
   refine headC rfl (fun KK hK=>?_)
   go_simp
   rw [hV15.out]
   refine hK _ _ hS15 ?_
   clear hK KK hS g0 g1 g2 g3 fg0 fg1 fg2 fg3
   obtain ⟨h0,h1,h2,h3⟩:=R15.cells4 n03
   have fh0:=R15.frz4 n03 0
   have fh1:=R15.frz4 n03 1
   have fh2:=R15.frz4 n03 2
   have fh3:=R15.frz4 n03 3
   have lh0:=(R15.low4 n03).1
   obtain ⟨f16,R16,m03,o16⟩:=R15.all4 n03 (.int .i64 0) (.slice bLa bLn bLc) (.slice bCa bCn bCc) (.slice bQa bQn bQc)
   replace n02:=(o16 (0,2) (by decide)).trans n02
   replace n90:=(o16 (9,0) (by decide)).trans n90
   replace n91:=(o16 (9,1) (by decide)).trans n91
   replace n10:=(o16 (1,0) (by decide)).trans n10
   replace n11:=(o16 (1,1) (by decide)).trans n11
   replace n20:=(o16 (2,0) (by decide)).trans n20
   replace n21:=(o16 (2,1) (by decide)).trans n21
   replace n30:=(o16 (3,0) (by decide)).trans n30
   replace n31:=(o16 (3,1) (by decide)).trans n31
   have b16:=Below.all4 (g:=w.heap.size+2) b15 lh0 (.int .i64 0) (.slice bLa bLn bLc) (.slice bCa bCn bCc) (.slice bQa bQn bQc)
   obtain ⟨V16,hV16⟩:∃ V':World,(((V15.setCell ⟨w.heap.size+2,0,none⟩ (.int .i64 0)).setCell ⟨w.heap.size+2,1,none⟩ (.slice bLa bLn bLc)).setCell ⟨w.heap.size+2,2,none⟩ (.slice bCa bCn bCc)).setCell ⟨w.heap.size+2,3,none⟩ (.slice bQa bQn bQc)=V':=⟨_,rfl⟩
   rw [hV16] at R16 b16
   have hS16:V16.cell? ⟨g9,0,none⟩=some (.int .i64 0)∧V16.cell? ⟨g9,1,none⟩=some (.slice aLa aLn aLc)∧V16.cell? ⟨g9,2,none⟩=some (.slice aCa aCn aCc)∧V16.cell? ⟨g9,3,none⟩=some (.slice aQa aQn aQc)∧V16.cell? ⟨g10,0,none⟩=some (.int .i64 0)∧V16.cell? ⟨g10,1,none⟩=some (.slice bLa bLn bLc)∧V16.cell? ⟨g10,2,none⟩=some (.slice bCa bCn bCc)∧V16.cell? ⟨g10,3,none⟩=some (.slice bQa bQn bQc):=by
    obtain ⟨a0,a1,a2,a3⟩:=R16.cells4 n90
    obtain ⟨d0,d1,d2,d3⟩:=R16.cells4 n91
    exact ⟨a0,a1,a2,a3,d0,d1,d2,d3⟩
   replace hV16:=Hd hV16
   clear n03 o16 R15 b15 lh0
   have n03:=m03
   clear m03
   refine headC rfl (fun KK hK=>?_)
   go_simp
   rw [hV16.out]
   refine hK _ _ hS16 ?_
   clear hK KK hS15 h0 h1 h2 h3 fh0 fh1 fh2 fh3
   refine head0 ?_
   simp only [List.drop_succ_cons,List.drop_zero]
   clear hS16
   obtain ⟨g0,g1,g2,g3⟩:=R16.cells4 n02
   obtain ⟨h0,h1,h2,h3⟩:=R16.cells4 n03
   replace n02:=Hd n02
   replace n03:=Hd n03
   replace n90:=Hd n90
   replace n91:=Hd n91
   replace n10:=Hd n10
   replace n11:=Hd n11
   replace n20:=Hd n20
   replace n21:=Hd n21
   replace n30:=Hd n30
   replace n31:=Hd n31
   replace R16:=Hd R16
   go_wp2
   refine NoPanic.normal ?_
   go_wp2
   (try simp only [Exit.inBlock,Exit.then])
   refine bodyPost_ret (v:=.tuple #[.bool false,.agg #[.int .i64 0,.slice aLa aLn aLc,.slice aCa aCn aCc,.slice aQa aQn aQc],.agg #[.int .i64 0,.slice bLa bLn bLc,.slice bCa bCn bCc,.slice bQa bQn bQc],.nilIface]) (by simp [results,Tryz.results16,go_sem,g0,g1,g2,g3,h0,h1,h2,h3]) rfl ?_
   exact ⟨_,_,_,_,rfl,b16,rfl,.inr ⟨rfl,hno.out,L',C',Q',_,_,_,_,_,_,honeR.out,rfl,rfl,f16,R16.out,n10.out,n11.out,n20.out,n21.out,n30.out,n31.out⟩⟩
theorem WitIs.pos {G:List (List Int)} {v:Nat} {L C Q:List Nat} (h:WitIs G v L C Q):1≤L.length∧1≤Q.length:=by
 obtain ⟨c,d,u1,u2,I,O,_,_,hc,_,h3,_,_,_,rfl,rfl,rfl⟩:=h
 refine ⟨?_,by simp⟩
 have he:=h3.way.ends
 obtain ⟨w',hw⟩:=h3.way.ne
 cases hd:u1.dropLast with
 | nil =>
  rw [hd,hw] at he
  simp at he
  omega
 | cons x l=>simp
theorem OneIs.pos {K R:Nat} {T:List Int} {L C Q:List Nat} (h:OneIs K R T L C Q):1≤L.length∧1≤Q.length:=by
 obtain ⟨_,_,_,_,_,h3⟩:=h
 exact h3.pos
theorem OnePost.ans {w w':World} {K R:Nat} {T:List Int} {yes x y e:Value} (h:OnePost w K R T yes x y e w'):e=.nilIface∧∃ Y,yes=.bool Y∧(Y=true↔¬ NotOne K R T) ∧
 ∃ a1 n1 c1 a2 n2 c2 a3 n3 c3 a4 n4 c4 a5 n5 c5 a6 n6 c6,x=.agg #[.int .i64 0,.slice a1 n1 c1,.slice a2 n2 c2,.slice a3 n3 c3]∧y=.agg #[.int .i64 0,.slice a4 n4 c4,.slice a5 n5 c5,.slice a6 n6 c6]:=by
 obtain ⟨rfl,⟨rfl,rfl,rfl,hn⟩ | ⟨rfl,hn,L,C,Q,aL,aC,aQ,bL,bC,bQ,_,rfl,rfl,f,hr,h1,h2,h3,h4,h5,h6⟩⟩:=h
 ·exact ⟨rfl,true,rfl,⟨fun _=>hn,fun _=>rfl⟩,_,_,_,_,_,_,_,_,_,_,_,_,_,_,_,_,_,_,rfl,rfl⟩
 ·obtain ⟨_,_,_,rfl⟩:=(hr.ownI h1).at.shape
  obtain ⟨_,_,_,rfl⟩:=(hr.ownI h2).at.shape
  obtain ⟨_,_,_,rfl⟩:=(hr.ownI h3).at.shape
  obtain ⟨_,_,_,rfl⟩:=(hr.ownI h4).at.shape
  obtain ⟨_,_,_,rfl⟩:=(hr.ownI h5).at.shape
  obtain ⟨_,_,_,rfl⟩:=(hr.ownI h6).at.shape
  exact ⟨rfl,false,rfl,⟨fun h=>(by cases h),fun h=>absurd hn h⟩,_,_,_,_,_,_,_,_,_,_,_,_,_,_,_,_,_,_,rfl,rfl⟩
end Go.Proofs.YtncpnaoabkjegaaGreatDoor
namespace Go.Proofs.YtncpnaoabkjegaaGreatDoor
def stepM (N v:Nat) (s:(Nat→Int)×List Nat) (t:Nat):(Nat→Int)×List Nat:=if ¬ Diag N t∧s.1 t<0 then (updN s.1 t (v:Int),s.2++[t]) else s
def rowM (N:Nat) (adj:Nat→List Nat) (v:Nat) (s:(Nat→Int)×List Nat) (k:Nat):(Nat→Int)×List Nat:=((adj v).take k).foldl (stepM N v) s
def stM (N:Nat) (adj:Nat→List Nat):Nat→(Nat→Int)×List Nat
 | 0=>(fun _=>-1,diags N)
 | j+1=>match (stM N adj j).2[j]? with
  | some v=>rowM N adj v (stM N adj j) (adj v).length
  | none=>stM N adj j
theorem rowM_succ {N:Nat} {adj:Nat→List Nat} {v k t:Nat} {s:(Nat→Int)×List Nat} (h:(adj v)[k]?=some t):rowM N adj v s (k+1)=stepM N v (rowM N adj v s k) t:=by
 unfold rowM
 rw [List.take_add_one,h,List.foldl_append]; rfl
theorem stM_succ {N:Nat} {adj:Nat→List Nat} {j v:Nat} (h:(stM N adj j).2[j]?=some v):stM N adj (j+1)=rowM N adj v (stM N adj j) (adj v).length:=by
 rw [stM,h]
def NoHit (N:Nat) (adj:Nat→List Nat) (j:Nat):Prop:=∀ v,(stM N adj j).2[j]?=some v→∀ t∈adj v,Diag N t→Diag N v
def MeetIs (N:Nat) (adj:Nat→List Nat) (ws:List Nat):Prop :=
 ∃ j v k t c,(stM N adj j).2[j]?=some v∧(adj v)[k]?=some t∧Diag N t∧¬ Diag N v∧BackWay N adj (rowM N adj v (stM N adj j) k).1 v c∧ws=c.reverse++[t]∧(∀ i,i<j→NoHit N adj i)∧∀ i x,i<k→(adj v)[i]?=some x→Diag N x→Diag N v
open Go.RowKit
set_option maxRecDepth 100000
def invP (p:List Int) (x:Int):Int:=idxOf (fun y=>x==y) p
theorem index_any (v:Value) (xs:List Int) (x:Int) (w:World) (h:IntsAt w v xs) :
 Calls Tryz.prog 85 #[v,.int .i64 x] w fun e w'=>e=.returned (.int .i64 (invP xs x))∧w=w':=by
 have hlen:=h.len
 have hm:=h.len_le
 replace h:=Hd h
 go_enter Tryz.func85,Tryz.ntmps85
 go_wp2
 go_loop [8] (fun i=>∃ j:Nat,j≤xs.length∧i=.int .i64 j∧∀ t (ht:t<xs.length),t<j→(x==xs[t])=false) (fun i=>xs.length-(intOf i).toNat)
 case atStart=>exact ⟨0,by omega,rfl,fun t ht h=>by omega⟩
 case round =>
  obtain ⟨j,hj,rfl,hne⟩:=hrel
  by_cases hjl:j<xs.length
  ·have i1:=h.out.idx j hjl
   have c1:=h.out.cell j hjl
   by_cases he:(x==xs[j])=true
   ·have hr:Hid (invP xs x=j):=Hd (idxOf_at j hjl he (fun t ht htj=>hne t ht htj))
    have he':x=xs[j]:=by simpa using he
    rw [← he'] at c1
    clear he he'
    replace hne:=Hd hne
    go_wp2
    go_ret
    exact ⟨ret_int hr.out.symm,rfl⟩
   ·have hn:Hid (∀ t (ht:t<xs.length),t<j+1→(x==xs[t])=false):=Hd (fun t ht htj=>by
     by_cases e:t=j
     ·subst e; simpa using he
     ·exact hne t ht (by omega))
    have he':(x==xs[j])=false:=by simpa using he
    obtain ⟨y,hy⟩:∃ y,y=xs[j]:=⟨_,rfl⟩
    rw [← hy] at c1 he'
    clear he hne hy
    go_wp2
    go_round
    case rel=>exact ⟨j+1,by omega,by go_num,hn.out⟩
    case measure=>simp [intOf]; omega
  ·have hr:Hid (invP xs x=-1):=Hd (idxOf_neg (fun y hy=>by
    obtain ⟨t,ht,rfl⟩:=List.mem_iff_getElem.1 hy
    exact hne t ht (by omega)))
   replace hne:=Hd hne
   go_wp2
   go_ret
   exact ⟨ret_int hr.out.symm,rfl⟩
end Go.Proofs.YtncpnaoabkjegaaGreatDoor
namespace Go.Proofs.YtncpnaoabkjegaaGreatDoor
theorem invP_at {T:List Int} {j:Nat} (hj:j<T.length):∃ i:Nat,invP T (T.getD j 0)=i∧i≤j∧T.getD i 0=T.getD j 0:=by
 have ej:T.getD j 0=T[j]:=by simp [List.getD,hj]
 rw [ej]
 rcases idxOf_cases (fun y=>T[j]==y) T with ⟨_,hn⟩ | ⟨k,hk,hkl,hp,hm⟩
 ·have:=hn _ (List.getElem_mem hj); simp at this
 ·refine ⟨k,hk,?_,?_⟩
  ·apply Classical.byContradiction
   intro e
   have:=hm j hj (by omega)
   simp at this
  ·simp only [List.getD,List.getElem?_eq_getElem hkl,Option.getD_some]
   exact (show T[j]=T[k] by simpa using hp).symm
def SingleIs (T:List Int) (x y:Nat):Prop:=y<T.length∧invP T (T.getD y 0)=x∧x<y∧∀ i,i<y→(i:Int)≤invP T (T.getD i 0)
theorem img0_get {K:Nat} {T a:List Int} {i:Nat} (hi:i<a.length):(imgP K 0 T a).getD i 0=T.getD (a.getD i 0).toNat 0:=by
 rw [imgP_getD K 0 T a i (by omega)]
 have e:(a.drop i).take (2*0+1)=[a.getD i 0]:=by
  rw [List.drop_eq_getElem_cons hi,show 2*0+1=0+1 from rfl,List.take_succ_cons,List.take_zero]
  simp [List.getD,hi]
 rw [e]
 simp [numW]
theorem SingleIs.twins {K:Nat} {T:List Int} {x y:Nat} (hK:T.length=K) (h:SingleIs T x y):IsTwins K 0 T [(x:Int)] [(y:Int)]:=by
 obtain ⟨h1,h2,h3,h4⟩:=h
 have sx:Syms K [(x:Int)]:=fun z hz=>by simp at hz; subst hz; omega
 have sy:Syms K [(y:Int)]:=fun z hz=>by simp at hz; subst hz; omega
 refine ⟨sx,sy,rfl,by simp; omega,by simp,by simp,by simp,?_⟩
 have he:T.getD x 0=T.getD y 0:=by
  obtain ⟨i,i1,i2,i3⟩:=invP_at h1
  rw [h2] at i1
  obtain rfl:x=i:=by omega
  exact i3
 refine List.ext_getElem (by rw [imgP_length,imgP_length]; rfl) fun i h1 h2=>?_
 rw [imgP_length] at h1
 have hi:i=0:=by simp at h1; omega
 subst hi
 have g1:=img0_get (K:=K) (T:=T) (a:=[(x:Int)]) (i:=0) (by simp)
 have g2:=img0_get (K:=K) (T:=T) (a:=[(y:Int)]) (i:=0) (by simp)
 simp [List.getD] at g1 g2 he
 have l1:0<(imgP K 0 T [(x:Int)]).length:=by rw [imgP_length]; simp
 have l2:0<(imgP K 0 T [(y:Int)]).length:=by rw [imgP_length]; simp
 simp [List.getElem?_eq_getElem l1] at g1
 simp [List.getElem?_eq_getElem l2] at g2
 rw [g1,g2]
 exact he
theorem twins_pos {K R:Nat} {T a b:List Int} (h:IsTwins K R T a b):1≤a.length:=by
 have hl:=h.len
 have hn:=h.ne
 rcases a with _ | ⟨x,a⟩
 ·cases b with
  | nil=>exact absurd rfl hn
  | cons _ _=>simp at hl
 ·simp
theorem no_single {K:Nat} {T:List Int} (hK:T.length=K) (h:∀ i,i<T.length→(i:Int)≤invP T (T.getD i 0)) (a b:List Int):¬ IsTwins K 0 T a b:=by
 intro t
 apply t.ne
 have hinj:∀ i j,i<T.length→j<T.length→T.getD i 0=T.getD j 0→i≤j:=fun i j hi hj e=>by
  obtain ⟨p,p1,p2,_⟩:=invP_at hj
  have:=h i hi
  rw [e,p1] at this
  omega
 refine List.ext_getElem t.len fun i h1 h2=>?_
 have e:=congrArg (fun l=>l.getD i 0) t.img
 simp only [img0_get h1,img0_get h2] at e
 simp only [List.getD,List.getElem?_eq_getElem h1,List.getElem?_eq_getElem h2,Option.getD_some] at e
 have s1:=t.sa _ (List.getElem_mem h1)
 have s2:=t.sb _ (List.getElem_mem h2)
 have l1:=hinj a[i].toNat b[i].toNat (by omega) (by omega) e
 have l2:=hinj b[i].toNat a[i].toNat (by omega) (by omega) e.symm
 omega
def FinIs (K R:Nat) (T a b:List Int):Prop :=
 (R=0∧∃ x y,SingleIs T x y∧a=[(x:Int)]∧b=[(y:Int)]) ∨
 (R≠0∧∃ ws,MeetIs (pw K (2*R)) (pairL K (pw K (2*R)) T) ws∧a=alongW K (2*R) (·/pw K (2*R)) ws∧b=alongW K (2*R) (·%pw K (2*R)) ws)
open Go.RowKit
set_option maxRecDepth 100000
set_option maxHeartbeats 8000000
def SinglePost (w:World) (T:List Int) (x y:Value) (w':World):Prop :=
 (∃ a b,SingleIs T a b∧OwnI w.heap.size w' x [(a:Int)]∧OwnI w.heap.size w' y [(b:Int)]∧(x.ownBlock=none∨x.ownBlock≠y.ownBlock)) ∨
 (x=.slice none 0 0∧y=.slice none 0 0∧∀ i,i<T.length→(i:Int)≤invP T (T.getD i 0))
theorem single_any (k R:Int) (va:Option Addr) (vn vc:Nat) (T:List Int) (w:World) (h:IntsAt w (.slice va vn vc) T) :
 Calls Tryz.prog 51 #[.agg #[.int .i64 k,.int .i64 R,.slice va vn vc]] w (Ret2 (SinglePost w T) w):=by
 have b0:=belowAlloc w (.cells #[.int .i64 k,.int .i64 R,.slice va vn vc] 24)
 have q:Box3 (w.alloc (.cells #[.int .i64 k,.int .i64 R,.slice va vn vc] 24)) w.heap.size (.int .i64 k) (.int .i64 R) (.slice va vn vc):=by simp [Box3,go_sem]
 have hlen:=h.len
 have hm:=h.len_le
 replace h:=Hd (h.below b0)
 obtain ⟨⟨y0,y1,y2⟩,-,-,-⟩:=q
 go_enter Tryz.func51,Tryz.ntmps51
 go_wp2
 obtain ⟨W,hW⟩:∃ W:World,W=w.alloc (.cells #[.int .i64 k,.int .i64 R,.slice va vn vc] 24):=⟨_,rfl⟩
 rw [← hW] at y0 y1 y2 b0 h ⊢
 replace hW:=Hd hW
 go_loop [10] (fun jv=>∃ j:Nat,j≤T.length∧jv=.int .i64 j∧∀ i,i<j→(i:Int)≤invP T (T.getD i 0)) (fun jv=>T.length-(intOf jv).toNat)
 case atStart=>exact ⟨0,by omega,rfl,fun i hi=>absurd hi (Nat.not_lt_zero _)⟩
 case round =>
  obtain ⟨j,hj,rfl,hno0⟩:=hrel
  have hno:∀ i,i<j→(i:Int)≤invP T (T.getD i 0):=fun i hi=>by have:=hno0 i hi; omega
  clear hno0
  replace hno:=Hd hno
  by_cases hjl:j<T.length
  ·have i1:=fun w'=>h.out.idx j hjl w'
   have c1:=h.out.cellD j hjl
   obtain ⟨z,hz⟩:∃ z,T.getD j 0=z:=⟨_,rfl⟩
   rw [hz] at c1
   obtain ⟨p,hp1,hp2,hp3⟩:=invP_at hjl
   rw [hz] at hp1
   have hIx:=index_any (.slice va vn vc) T z W h.out
   rw [hp1] at hIx
   generalize valAt (.slice va vn vc) j=ja at *
   have hjl2:=Hd hjl
   replace hIx:=Hd hIx
   replace hz:=Hd hz
   replace hp1:=Hd hp1
   replace hp3:=Hd hp3
   by_cases hpj:p<j
   ·have hpd:decide (p<j)=true:=decide_eq_true hpj
    have hpd2:decide ((p:Int)<(j:Int))=true:=decide_eq_true (by omega)
    have hpj2:=Hd hpj
    go_wp2_with (go_at_call 85; refine hIx.out.mono ?_; rintro e w' ⟨rfl,rfl⟩)
    have bA:=belowAlloc W (.cells #[.int .i64 p] 3)
    have hoA:=OwnI.lit W.heap.size W (Nat.le_refl _) [(p:Int)] (by simp [maxLen]) #[.int .i64 (p:Int)] rfl 1 rfl
    have bB:=belowAlloc (W.alloc (.cells #[.int .i64 p] 3)) (.cells #[.int .i64 j] 3)
    have hoB:=OwnI.lit (W.alloc (.cells #[.int .i64 p] 3)).heap.size (W.alloc (.cells #[.int .i64 p] 3)) (Nat.le_refl _) [(j:Int)] (by simp [maxLen]) #[.int .i64 (j:Int)] rfl 1 rfl
    have hs:=b0.size
    go_ret2
    refine ⟨_,_,rfl,b0.trans ((bA.trans (bB.mono bA.size)).mono hs),.inl ⟨p,j,⟨hjl2.out,by rw [hz.out]; exact hp1.out,hpj2.out,hno.out⟩,(hoA.below bB).mono hs,(show OwnI W.heap.size _ (Value.slice (some ⟨W.heap.size+1,0,none⟩) 1 1) _ from (by simpa using hoB.mono bA.size)).mono hs,.inr ?_⟩⟩
    simp [Value.ownBlock]
   ·have hpe:p=j:=by omega
    subst hpe
    go_wp2_with (go_at_call 85; refine hIx.out.mono ?_; rintro e w' ⟨rfl,rfl⟩)
    have hj1:=hjl2.out
    go_round
    case measure=>simp [intOf]; omega
    case rel =>
     refine ⟨p+1,by omega,by go_num,fun i hi=>?_⟩
     by_cases e:i=p
     ·subst e; rw [hz.out,hp1.out]; omega
     ·exact hno.out i (by omega)
  ·obtain rfl:j=T.length:=by omega
   go_wp2
   go_ret2
   exact ⟨_,_,rfl,b0,.inr ⟨rfl,rfl,hno.out⟩⟩
end Go.Proofs.YtncpnaoabkjegaaGreatDoor
