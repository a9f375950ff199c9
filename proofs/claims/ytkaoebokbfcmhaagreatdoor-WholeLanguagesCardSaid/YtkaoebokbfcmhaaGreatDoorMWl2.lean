/-
  Texts that the proof leans on.
-/
import Derived.Test.YtkaoebokbfcmhaaGreatDoorMWl1
import Derived.StillTail
import Derived.Deep.RegionHeld3
import Derived.Deep.RegionLawGrows
import Derived.BigQuiet
import Derived.Deep.QuietTactic
import Derived.LaidEql
import Derived.Stop.Asserts
import Derived.RowKitTokens
import Derived.Deep.LoopGhost
import Derived.Deep.RegionWith
import Derived.RegionTactic
import Derived.Laws.CopyOwn
import Derived.Lib.AppendZeros
namespace Go.Proofs.YtkaoebokbfcmhaaGreatDoor
def wideT (K R d:Nat) (T:List Int):List Int:=(List.range (pw K (2*(R+d)+1))).map fun i=>T.getD (numW K (((digs K (2*(R+d)+1) i).drop d).take (2*R+1))) 0
theorem wideT_length (K R d:Nat) (T:List Int):(wideT K R d T).length=pw K (2*(R+d)+1):=by simp [wideT]
theorem wideT_ok {K R d:Nat} {T:List Int} (h:RuleOk K R T) (hd:R+d≤3):RuleOk K (R+d) (wideT K R d T) :=
 ⟨h.k1,h.k4,hd,wideT_length ..,fun y hy=>by
   obtain ⟨i,_,rfl⟩:=List.mem_map.1 hy
   exact h.syms.getD (by have:=h.k1; omega) _⟩
theorem wideT_at {K R d:Nat} {T:List Int} (hK:1≤K) (w:List Int) (hw:Syms K w) (hl:w.length=2*(R+d)+1):(wideT K R d T).getD (numW K w) 0=T.getD (numW K ((w.drop d).take (2*R+1))) 0:=by
 have hlt:=numW_lt w hw
 rw [hl] at hlt
 have:(wideT K R d T).getD (numW K w) 0=T.getD (numW K (((digs K (2*(R+d)+1) (numW K w)).drop d).take (2*R+1))) 0:=by simp [wideT,List.getD,hlt]
 rw [this,← hl,digs_numW hK w hw]
def cellA {α:Type} (d:α) (L C Q:List α) (i:Int):α :=
 if i<0 then L.getD (i%(L.length:Int)).toNat d
 else if i<C.length then C.getD i.toNat d
 else Q.getD ((i-C.length)%(Q.length:Int)).toNat d
theorem emod_next {a:Int} {n j:Nat} (hn:1≤n) (h:a%(n:Int)=j):(a+1)%(n:Int)=if j+1<n then ((j+1:Nat):Int) else 0:=by
 have h1:=Int.emod_lt_of_pos a (show (0:Int)<n by omega)
 have e:(a+1)%(n:Int)=(((a%n)+1)%n):=by rw [Int.emod_add_emod]
 rw [e,h]
 split
 ·exact Int.emod_eq_of_lt (by omega) (by omega)
 ·rw [show (j:Int)+1=n by omega]; exact Int.emod_self
structure Bi (adj:Nat→List Nat) (L C Q:List Nat):Prop where
 l1:1≤L.length
 c1:1≤C.length
 q1:1≤Q.length
 sL:∀ j,j+1<L.length→L.getD (j+1) 0∈adj (L.getD j 0)
 eL:L.getD 0 0∈adj (L.getD (L.length-1) 0)
 fC:C.getD 0 0=L.getD 0 0
 sC:∀ j,j+1<C.length→C.getD (j+1) 0∈adj (C.getD j 0)
 eC:Q.getD 0 0∈adj (C.getD (C.length-1) 0)
 sQ:∀ j,j+1<Q.length→Q.getD (j+1) 0∈adj (Q.getD j 0)
 eQ:Q.getD (Q.length-1) 0=C.getD (C.length-1) 0
theorem Bi.step {adj:Nat→List Nat} {L C Q:List Nat} (h:Bi adj L C Q) (i:Int):cellA 0 L C Q (i+1)∈adj (cellA 0 L C Q i):=by
 have l1:=h.l1
 have c1:=h.c1
 have q1:=h.q1
 unfold cellA
 by_cases h0:i<0
 ·rw [if_pos h0]
  obtain ⟨j,hj,e⟩:=emod_nat (a:=i) l1
  have e2:=emod_next l1 e
  rw [e,Int.toNat_natCast]
  by_cases h1:i+1<0
  ·rw [if_pos h1,e2]
   split
   ·rename_i hlt; rw [Int.toNat_natCast]; exact h.sL j hlt
   ·obtain rfl:j=L.length-1:=by omega
    exact h.eL
  ·rw [if_neg h1,if_pos (by omega),show (i+1).toNat=0 by omega,h.fC]
   have:i=-1:=by omega
   subst this
   have e3:(-1:Int)+1=0:=rfl
   rw [e3,Int.zero_emod] at e2
   have:j=L.length-1:=by
    split at e2
    ·omega
    ·omega
   subst this
   exact h.eL
 ·rw [if_neg h0,if_neg (show ¬ i+1<0 by omega)]
  by_cases h1:i<C.length
  ·rw [if_pos h1]
   by_cases h2:i+1<C.length
   ·rw [if_pos h2,show (i+1).toNat=i.toNat+1 by omega]; exact h.sC _ (by omega)
   ·rw [if_neg h2,show i+1-(C.length:Int)=0 by omega,Int.zero_emod]
    have:=h.eC
    rw [show i.toNat=C.length-1 by omega]
    exact this
  ·rw [if_neg h1,if_neg (show ¬ i+1<C.length by omega)]
   obtain ⟨j,hj,e⟩:=emod_nat (a:=i-C.length) q1
   have e2:=emod_next q1 e
   rw [show i+1-(C.length:Int)=i-C.length+1 by omega,e2,e,Int.toNat_natCast]
   split
   ·rename_i hlt; rw [Int.toNat_natCast]; exact h.sQ j hlt
   ·obtain rfl:j=Q.length-1:=by omega
    rw [h.eQ]; exact h.eC
theorem sub_get {x:List Int} {i m j:Nat} (h:j<m):((x.drop i).take m).getD j 0=x.getD (i+j) 0:=by
 simp [List.getD,h,List.getElem?_drop]
theorem ext_getD {a b:List Int} (hl:a.length=b.length) (h:∀ t,t<a.length→a.getD t 0=b.getD t 0):a=b :=
 List.ext_getElem hl fun t h1 h2=>by have:=h t h1; simpa [List.getD,h1,h2] using this
theorem img_cut {K R:Nat} {T x:List Int} {i m:Nat} (h:i+m≤x.length):imgP K R T ((x.drop i).take m)=((imgP K R T x).drop i).take (m-2*R):=by
 have hl:((x.drop i).take m).length=m:=by simp; omega
 refine ext_getD (by simp only [imgP_length,hl,List.length_take,List.length_drop]; omega) fun t ht=>?_
 rw [imgP_length,hl] at ht
 rw [imgP_getD _ _ _ _ _ (by rw [hl]; exact ht),sub_get ht,imgP_getD _ _ _ _ _ (by omega)]
 congr 2
 rw [List.drop_take,List.take_take,List.drop_drop,Nat.min_eq_left (by omega)]
def Split (K R:Nat) (T:List Int) (n:Nat):Prop:=∃ x y,Syms K x∧Syms K y∧x.length=2*n+1∧y.length=2*n+1∧x.getD n 0≠y.getD n 0∧imgP K R T x=imgP K R T y
theorem split_of {K R:Nat} {T x y:List Int} (sx:Syms K x) (sy:Syms K y) (hl:x.length=y.length) {j n:Nat} (h1:n≤j) (h2:j+n<x.length) (hne:x.getD j 0≠y.getD j 0)
 (hi:imgP K R T ((x.drop (j-n)).take (2*n+1))=imgP K R T ((y.drop (j-n)).take (2*n+1))):Split K R T n :=
 ⟨_,_,syms_take (syms_drop sx _) _,syms_take (syms_drop sy _) _,by simp; omega,by simp; omega,by
   rw [sub_get (by omega),sub_get (by omega),show j-n+n=j by omega]; exact hne,hi⟩
theorem split_img {K R:Nat} {T x y:List Int} (sx:Syms K x) (sy:Syms K y) (hl:x.length=y.length) {j n:Nat} (h1:n≤j) (h2:j+n<x.length) (hne:x.getD j 0≠y.getD j 0)
 (hi:imgP K R T x=imgP K R T y):Split K R T n :=
 split_of sx sy hl h1 h2 hne (by rw [img_cut (by omega),img_cut (by omega),hi])
theorem Split.mono {K R:Nat} {T:List Int} {n m:Nat} (h:Split K R T n) (hm:m≤n):Split K R T m:=by
 obtain ⟨x,y,sx,sy,lx,ly,hne,hi⟩:=h
 exact split_img sx sy (by omega) (j:=n) hm (by omega) hne hi
theorem syms_pad {K:Nat} (hK:1≤K) {a:List Int} (h:Syms K a) (n m:Nat):Syms K (List.replicate n 0++a++List.replicate m 0):=by
 intro y hy
 rcases List.mem_append.1 hy with hy | hy
 ·rcases List.mem_append.1 hy with hy | hy
  ·rw [List.eq_of_mem_replicate hy]; omega
  ·exact h y hy
 ·rw [List.eq_of_mem_replicate hy]; omega
def Onto (K R:Nat) (T:List Int):Prop:=∀ y,Syms K y→∃ x,Syms K x∧x.length=y.length+2*R∧imgP K R T x=y
def wordsL (K m:Nat):List (List Int):=(List.range (pw K m)).map (digs K m)
theorem wordsL_len (K m:Nat):(wordsL K m).length=pw K m:=by simp [wordsL]
theorem mem_wordsL {K m:Nat} (hK:1≤K) {x:List Int}:x∈wordsL K m↔Syms K x∧x.length=m:=by
 unfold wordsL
 rw [List.mem_map]
 constructor
 ·rintro ⟨i,_,rfl⟩
  exact ⟨digs_syms hK _ _,digs_length ..⟩
 ·rintro ⟨hx,rfl⟩
  exact ⟨numW K x,List.mem_range.2 (numW_lt x hx),digs_numW hK x hx⟩
theorem wordsL_nodup {K m:Nat} (hK:1≤K):(wordsL K m).Nodup:=by
 unfold wordsL
 refine List.pairwise_map.2 (List.Pairwise.imp_of_mem ?_ List.nodup_range)
 intro a b ha hb hne e
 have h:=congrArg (numW K) e
 rw [numW_digs hK _ _ (List.mem_range.1 ha),numW_digs hK _ _ (List.mem_range.1 hb)] at h
 exact hne h
theorem pw_mul (K m k:Nat):pw K (k*m)=pw K m ^ k:=by
 induction k with
 | zero=>simp [pw_zero]
 | succ k ih=>rw [Nat.succ_mul,pw_add,ih,Nat.pow_succ]
theorem bernoulli (Q k:Nat):Q ^ (k+1)+(k+1)*Q ^ k≤(Q+1) ^ (k+1):=by
 induction k with
 | zero=>simp
 | succ k ih =>
  have h1:=Nat.mul_le_mul_right (Q+1) ih
  rw [← Nat.pow_succ] at h1
  refine Nat.le_trans ?_ h1
  have e1:Q ^ (k+1+1)=Q ^ (k+1)*Q:=Nat.pow_succ ..
  have e2:Q ^ (k+1)=Q ^ k*Q:=Nat.pow_succ ..
  have e3:(Q ^ (k+1)+(k+1)*Q ^ k)*(Q+1)=Q ^ (k+1)*Q+Q ^ (k+1)+((k+1)*(Q ^ k*Q)+(k+1)*Q ^ k):=by
   rw [Nat.add_mul,Nat.mul_add,Nat.mul_one,Nat.mul_add,Nat.mul_one,Nat.mul_assoc]
  rw [e3,e1,← e2,Nat.add_mul (k+1) 1,Nat.one_mul]
  omega
theorem few (P C:Nat) (hP:1≤P):∃ k,(P-1) ^ k*C<P ^ k:=by
 obtain ⟨Q,rfl⟩:∃ Q,P=Q+1:=⟨P-1,by omega⟩
 rw [Nat.add_sub_cancel]
 refine ⟨C*Q+1,Nat.lt_of_lt_of_le ?_ (bernoulli Q (C*Q))⟩
 rcases Nat.eq_zero_or_pos Q with rfl | hQ
 ·simp
 ·have hp:0<Q ^ (C*Q):=Nat.pow_pos hQ
  have e:Q ^ (C*Q+1)*C=Q ^ (C*Q)*(C*Q):=by rw [Nat.pow_succ,Nat.mul_assoc,Nat.mul_comm Q C]
  have e2:(C*Q+1)*Q ^ (C*Q)=Q ^ (C*Q)*(C*Q)+Q ^ (C*Q):=by rw [Nat.add_mul,Nat.one_mul,Nat.mul_comm]
  rw [e,e2]
  omega
def avoid (K m c:Nat) (o:List Int):Nat→List (List Int)
 | 0=>wordsL K c
 | k+1=>((wordsL K m).erase o).flatMap fun b=>(avoid K m c o k).map (b++·)
theorem flatMap_len {α β:Type} (f:α→List β) (n:Nat):∀ (l:List α),(∀ a∈l,(f a).length=n)→(l.flatMap f).length=l.length*n
 | [],_=>by simp
 | a::l,h=>by
  rw [List.flatMap_cons,List.length_append,h a (by simp),flatMap_len f n l fun b hb=>h b (by simp [hb]),List.length_cons,Nat.succ_mul,Nat.add_comm]
theorem avoid_len {K m c:Nat} {o:List Int} (ho:o∈wordsL K m):∀ k,(avoid K m c o k).length=(pw K m-1) ^ k*pw K c
 | 0=>by simp [avoid,wordsL_len]
 | k+1=>by
  rw [avoid,flatMap_len _ ((pw K m-1) ^ k*pw K c) _ fun b _=>by rw [List.length_map,avoid_len ho k],List.length_erase_of_mem ho,wordsL_len,← Nat.mul_assoc,Nat.mul_comm (pw K m-1),← Nat.pow_succ]
theorem mem_avoid {K m c:Nat} (hK:1≤K) {o:List Int}:∀ (k:Nat) (y:List Int),Syms K y→y.length=k*m+c→(∀ i,i<k→(y.drop (i*m)).take m≠o)→y∈avoid K m c o k
 | 0,y,hy,hl,_=>(mem_wordsL hK).2 ⟨hy,by omega⟩
 | k+1,y,hy,hl,h=>by
  rw [avoid,List.mem_flatMap]
  rw [Nat.succ_mul] at hl
  refine ⟨y.take m,(List.mem_erase_of_ne (by simpa using h 0 (by omega))).2 ((mem_wordsL hK).2 ⟨syms_take hy _,by simp; omega⟩),List.mem_map.2 ⟨y.drop m,mem_avoid hK k _ (syms_drop hy _) (by simp; omega) fun i hi=>?_,List.take_append_drop ..⟩⟩
  have:=h (i+1) (by omega)
  rwa [Nat.succ_mul,Nat.add_comm,← List.drop_drop] at this
theorem onto_of_no_twins {K R:Nat} {T:List Int} (h:RuleOk K R T) (hno:∀ a b,¬ IsTwins K R T a b):Onto K R T:=by
 intro o so
 apply Classical.byContradiction
 intro hor
 have hK:=h.k1
 obtain ⟨k,hk⟩:=few (pw K o.length) (pw K (2*R)) (pw_pos _ hK)
 have hom:o∈wordsL K o.length:=(mem_wordsL hK).2 ⟨so,rfl⟩
 have hsub:(wordsL K (k*o.length)).map (fun u=>imgP K R T (List.replicate (2*R) 0++u++List.replicate (2*R) 0)) ⊆ avoid K o.length (2*R) o k:=by
  intro y hy
  obtain ⟨u,hu,rfl⟩:=List.mem_map.1 hy
  obtain ⟨su,lu⟩:=(mem_wordsL hK).1 hu
  have hpl:(List.replicate (2*R) (0:Int)++u++List.replicate (2*R) 0).length=k*o.length+4*R:=by simp only [List.length_append,List.length_replicate,lu]; omega
  refine mem_avoid hK k _ (imgP_syms hK h.syms) (by rw [imgP_length,hpl]; omega) fun i hi e=>hor ?_
  have him:i*o.length+o.length≤k*o.length:=by rw [← Nat.succ_mul]; exact Nat.mul_le_mul_right _ hi
  have hc:=img_cut (K:=K) (R:=R) (T:=T) (x:=List.replicate (2*R) (0:Int)++u++List.replicate (2*R) 0) (i:=i*o.length) (m:=o.length+2*R) (by rw [hpl]; omega)
  rw [Nat.add_sub_cancel,e] at hc
  exact ⟨_,syms_take (syms_drop (syms_pad hK su _ _) _) _,by rw [List.length_take,List.length_drop,hpl]; omega,hc⟩
 have hnd:((wordsL K (k*o.length)).map (fun u=>imgP K R T (List.replicate (2*R) 0++u++List.replicate (2*R) 0))).Nodup:=by
  refine List.pairwise_map.2 (List.Pairwise.imp_of_mem ?_ (wordsL_nodup hK))
  intro u v hu hv hne e
  obtain ⟨su,lu⟩:=(mem_wordsL hK).1 hu
  obtain ⟨sv,lv⟩:=(mem_wordsL hK).1 hv
  refine hno _ _ ⟨syms_pad hK su _ _,syms_pad hK sv _ _,by simp [lu,lv],fun e=>hne ?_,by simp only [List.length_append,List.length_replicate]; omega,?_,?_,e⟩
  ·rw [List.append_assoc,List.append_assoc] at e
   exact List.append_cancel_right (List.append_cancel_left e)
  ·rw [List.append_assoc,List.append_assoc,List.take_left' (by simp),List.take_left' (by simp)]
  ·rw [List.drop_left' (by simp only [List.length_append,List.length_replicate]; omega),List.drop_left' (by simp only [List.length_append,List.length_replicate]; omega)]
 have:=nodup_sub hnd hsub
 rw [List.length_map,wordsL_len,avoid_len hom,pw_mul] at this
 omega
theorem ring_mod {a:Int} {n:Nat} (hn:1≤n):∃ (c1:Int) (c2 r:Nat),a.tmod (n:Int)=c1∧c1+(n:Int)=(c2:Int)∧c2≤2*n∧-(n:Int)≤c1∧c1≤n∧c2%n=r∧r<n∧a%(n:Int)=(r:Int):=by
 have hlt:=Int.tmod_lt_of_pos a (show (0:Int)<n by omega)
 have hgt:-(n:Int)<a.tmod (n:Int):=by
  have h1:=Int.tmod_lt_of_pos (-a) (show (0:Int)<n by omega)
  rw [Int.neg_tmod] at h1
  omega
 have he:a%(n:Int)=(a.tmod (n:Int)+n)%n:=by
  rw [Int.add_emod_right]
  have h2:=Int.mul_tdiv_add_tmod a (n:Int)
  have:a=a.tmod (n:Int)+(n:Int)*a.tdiv (n:Int):=by omega
  conv=>lhs; rw [this]
  rw [Int.add_mul_emod_self_left]
 refine ⟨a.tmod (n:Int),(a.tmod (n:Int)+n).toNat,(a.tmod (n:Int)+n).toNat%n,rfl,by omega,by omega,by omega,by omega,rfl,Nat.mod_lt _ (by omega),?_⟩
 rw [he,Int.natCast_emod]
 congr 1
 omega
def compl (K N:Nat) (T:List Int):Nat→List Int→List (List Int)
 | _,[]=>[[]]
 | node,y::ws=>(List.range K).flatMap fun s=>if T.getD (node*K+s) 0=y then (compl K N T ((node*K+s)%N) ws).map (fun c=>(s:Int)::c) else []
def complU (K N:Nat) (T:List Int) (node:Nat) (y:Int) (ws:List Int) (t:Nat):List (List Int) :=
 (List.range t).flatMap fun s=>if T.getD (node*K+s) 0=y then (compl K N T ((node*K+s)%N) ws).map (fun c=>(s:Int)::c) else []
theorem compl_cons (K N:Nat) (T:List Int) (node:Nat) (y:Int) (ws:List Int):compl K N T node (y::ws)=complU K N T node y ws K:=rfl
def allBefore (K R:Nat) (T ws:List Int) (n:Nat):List (List Int):=(List.range n).flatMap fun node=>(compl K (pw K (2*R)) T node ws).map fun c=>digs K (2*R) node++c
def begins (n:Nat) (ends l:List Int):Bool:=decide (n≤l.length)&&decide (l.take n=ends)
theorem numW_rep_max {K:Nat} (hK:1≤K) (j:Nat):numW K (List.replicate j ((K:Int)-1))+1=pw K j:=by
 induction j with
 | zero=>rfl
 | succ j ih =>
  rw [List.replicate_succ',numW_snoc,pw_succ,← ih]
  have:((K:Int)-1).toNat=K-1:=by omega
  rw [this,Nat.add_mul]
  omega
theorem numW_rep_zero (K j:Nat):numW K (List.replicate j 0)=0:=by
 induction j with
 | zero=>rfl
 | succ j ih=>rw [List.replicate_succ',numW_snoc,ih]; simp
theorem next_word {K n x:Nat} (hK:1≤K) (hx:x<pw K n) (u:List Int) (a:Int) (j:Nat) (h:digs K n x=u++[a]++List.replicate j ((K:Int)-1)) (ha:a<(K:Int)-1) :
 digs K n (x+1)=u++[a+1]++List.replicate j 0:=by
 have hs:=digs_syms hK n x
 have hl:=congrArg List.length h
 have hn:=congrArg (numW K) h
 rw [digs_length] at hl
 rw [numW_digs hK _ _ hx,numW_append,List.length_replicate,numW_snoc] at hn
 rw [h] at hs
 have hu:Syms K u:=fun y hy=>hs y (by simp [hy])
 have ha0:=hs a (by simp)
 have hw:Syms K (u++[a+1]++List.replicate j 0):=by
  intro y hy
  rcases List.mem_append.1 hy with hy | hy
  ·exact syms_snoc (by omega) (by omega) hu y hy
  ·have:=List.eq_of_mem_replicate hy; omega
 have e:=digs_numW hK _ hw
 have hlen:(u++[a+1]++List.replicate j 0).length=n:=by simp at hl ⊢; omega
 rw [hlen] at e
 rw [← e]
 congr 1
 rw [numW_append,List.length_replicate,numW_snoc,numW_rep_zero,show (a+1).toNat=a.toNat+1 by omega,← Nat.add_assoc,Nat.add_mul (numW K u*K+a.toNat)]
 have:=numW_rep_max hK j
 omega
theorem digs_last {K n x:Nat} (hK:1≤K) (hx:x<pw K n) (h:digs K n x=List.replicate n ((K:Int)-1)):x+1=pw K n:=by
 have hn:=congrArg (numW K) h
 rw [numW_digs hK _ _ hx] at hn
 rw [hn,numW_rep_max hK]
theorem digs_zero (K n:Nat):digs K n 0=List.replicate n 0:=by
 induction n with
 | zero=>rfl
 | succ n ih=>rw [digs,Nat.zero_div,ih,List.replicate_succ']; simp
theorem mem_compl {K R:Nat} {T:List Int} (_hK:1≤K) (ws:List Int):∀ (u:List Int),Syms K u→u.length=2*R→∀ c,c∈compl K (pw K (2*R)) T (numW K u) ws↔Syms K c∧c.length=ws.length∧imgP K R T (u++c)=ws:=by
 induction ws with
 | nil =>
  intro u su lu c
  show c∈[[]]↔_
  rw [List.mem_singleton]
  constructor
  ·rintro rfl
   exact ⟨fun x hx=>(by cases hx),rfl,List.eq_nil_of_length_eq_zero (by rw [imgP_length]; simp [lu])⟩
  ·rintro ⟨_,h,_⟩
   exact List.eq_nil_of_length_eq_zero h
 | cons y ws ih =>
  intro u su lu c
  -- the front behind one more symbol
  have front:∀ s:Int,0≤s→s<K→∃ x0 u',u++[s]=x0::u'∧Syms K u'∧u'.length=2*R∧numW K u'=(numW K u*K+s.toNat)%pw K (2*R):=fun s s0 s1=>by
   have hs:=syms_snoc s0 s1 su
   obtain ⟨x0,u',e⟩:∃ x0 u',u++[s]=x0::u':=by
    cases h:u++[s] with
    | nil=>simp at h
    | cons a b=>exact ⟨a,b,rfl⟩
   have su':Syms K u':=fun z hz=>hs z (by rw [e]; exact List.mem_cons_of_mem _ hz)
   have lu':u'.length=2*R:=by have:=congrArg List.length e; simp at this; omega
   refine ⟨x0,u',e,su',lu',?_⟩
   have:=numW_mod (K:=K) (u:=[x0]) su'
   rw [lu',List.singleton_append,← e,numW_snoc] at this
   exact this.symm
  have img:∀ s c',0≤s→s<(K:Int)→∀ x0 u',u++[s]=x0::u'→u'.length=2*R→imgP K R T (u++s::c')=T.getD (numW K u*K+s.toNat) 0::imgP K R T (u'++c'):=fun s c' s0 s1 x0 u' e lu'=>by
   have e1:u++s::c'=x0::(u'++c'):=by
    rw [show u++s::c'=(u++[s])++c' by simp,e]; rfl
   rw [e1,imgP_cons (by rw [List.length_append]; omega),List.take_append_of_le_length (by omega),List.take_of_length_le (by omega),← e,numW_snoc]
  rw [compl_cons]
  unfold complU
  rw [List.mem_flatMap]
  constructor
  ·rintro ⟨s,hs,h⟩
   have hsK:=List.mem_range.1 hs
   by_cases ht:T.getD (numW K u*K+s) 0=y
   ·rw [if_pos ht,List.mem_map] at h
    obtain ⟨c',hc',rfl⟩:=h
    obtain ⟨x0,u',e,su',lu',nu'⟩:=front s (by omega) (by omega)
    rw [Int.toNat_natCast] at nu'
    rw [← nu'] at hc'
    obtain ⟨a,b,d⟩:=(ih u' su' lu' c').1 hc'
    refine ⟨syms_cons (by omega) (by omega) a,by simp [b],?_⟩
    rw [img s c' (by omega) (by omega) x0 u' e lu',Int.toNat_natCast,ht,d]
   ·rw [if_neg ht] at h; cases h
  ·rintro ⟨sc,lc,e⟩
   cases c with
   | nil=>simp at lc
   | cons s c' =>
    have hs:=sc s (by simp)
    obtain ⟨n,rfl⟩:∃ n:Nat,s=n:=⟨s.toNat,by omega⟩
    obtain ⟨x0,u',e0,su',lu',nu'⟩:=front n (by omega) hs.2
    rw [img n c' (by omega) hs.2 x0 u' e0 lu',Int.toNat_natCast] at e
    rw [Int.toNat_natCast] at nu'
    injection e with e1 e2
    refine ⟨n,List.mem_range.2 (by omega),?_⟩
    rw [if_pos e1,List.mem_map]
    refine ⟨c',?_,rfl⟩
    rw [← nu']
    exact (ih u' su' lu' c').2 ⟨fun z hz=>sc z (List.mem_cons_of_mem _ hz),by simpa using lc,e2⟩
def preL (K R:Nat) (T ws:List Int):List (List Int):=allBefore K R T ws (pw K (2*R))
theorem mem_preL {K R:Nat} {T:List Int} (hK:1≤K) {ws x:List Int}:x∈preL K R T ws↔Syms K x∧x.length=ws.length+2*R∧imgP K R T x=ws:=by
 unfold preL allBefore
 rw [List.mem_flatMap]
 constructor
 ·rintro ⟨node,hn,h⟩
  obtain ⟨c,hc,rfl⟩:=List.mem_map.1 h
  have hn':=List.mem_range.1 hn
  have hd:=digs_syms hK (2*R) node
  have hc':=(mem_compl hK ws (digs K (2*R) node) hd (digs_length ..) c).1 (by rw [numW_digs hK _ _ hn']; exact hc)
  refine ⟨fun z hz=>?_,by rw [List.length_append,digs_length,hc'.2.1]; omega,hc'.2.2⟩
  rcases List.mem_append.1 hz with hz | hz
  ·exact hd z hz
  ·exact hc'.1 z hz
 ·rintro ⟨sx,lx,e⟩
  have st:Syms K (x.take (2*R)):=syms_take sx _
  have lt:(x.take (2*R)).length=2*R:=by rw [List.length_take]; omega
  have hn:=numW_lt _ st
  rw [lt] at hn
  have ed:=digs_numW hK _ st
  rw [lt] at ed
  refine ⟨numW K (x.take (2*R)),List.mem_range.2 hn,List.mem_map.2 ⟨x.drop (2*R),?_,by rw [ed,List.take_append_drop]⟩⟩
  exact (mem_compl hK ws _ st lt _).2 ⟨syms_drop sx _,by rw [List.length_drop]; omega,by rw [List.take_append_drop]; exact e⟩
def preN (K R:Nat) (T ws:List Int):Nat:=(preL K R T ws).length
theorem nodup_same {α:Type} [DecidableEq α] {l m:List α} (hl:l.Nodup) (hm:m.Nodup) (h:∀ x,x∈l↔x∈m):l.length=m.length :=
 Nat.le_antisymm (nodup_sub hl fun x hx=>(h x).1 hx) (nodup_sub hm fun x hx=>(h x).2 hx)
theorem flatMap_sum {α β:Type} (f:α→List β) (l:List α):(l.flatMap f).length=(l.map fun a=>(f a).length).sum:=by
 induction l with
 | nil=>rfl
 | cons a l ih=>rw [List.flatMap_cons,List.length_append,ih,List.map_cons,List.sum_cons]
def wayN (K N:Nat) (T:List Int):List Int→List Nat
 | []=>List.replicate N 1
 | y::ws=>(List.range N).map fun u=>((List.range K).map fun s=>if T.getD (u*K+s) 0=y then (wayN K N T ws).getD ((u*K+s)%N) 0 else 0).sum
theorem wayN_cons (K N:Nat) (T:List Int) (y:Int) (ws:List Int):wayN K N T (y::ws)=(List.range N).map fun u=>((List.range K).map fun s=>if T.getD (u*K+s) 0=y then (wayN K N T ws).getD ((u*K+s)%N) 0 else 0).sum:=rfl
theorem wayN_len (K N:Nat) (T ws:List Int):(wayN K N T ws).length=N:=by cases ws<;>simp [wayN]
theorem wayN_compl {K N:Nat} {T:List Int} (hN:0<N) (ws:List Int):∀ u,u<N→(wayN K N T ws).getD u 0=(compl K N T u ws).length:=by
 induction ws with
 | nil=>intro u hu; simp [wayN,compl,List.getD,hu]
 | cons y ws ih =>
  intro u hu
  rw [compl_cons]
  unfold complU
  rw [flatMap_sum]
  have e:(wayN K N T (y::ws)).getD u 0=((List.range K).map fun s=>if T.getD (u*K+s) 0=y then (wayN K N T ws).getD ((u*K+s)%N) 0 else 0).sum:=by
   rw [wayN_cons,List.getD_eq_getElem?_getD,List.getElem?_map,List.getElem?_range hu]; rfl
  rw [e]
  congr 1
  refine List.map_congr_left fun s _=>?_
  split
  ·rw [ih _ (Nat.mod_lt _ hN),List.length_map]
  ·rfl
theorem preN_way {K R:Nat} {T:List Int} (hK:1≤K) (ws:List Int):preN K R T ws=(wayN K (pw K (2*R)) T ws).sum:=by
 unfold preN preL allBefore
 rw [flatMap_sum]
 have hp:=pw_pos (2*R) hK
 have e:wayN K (pw K (2*R)) T ws=(List.range (pw K (2*R))).map fun u=>((compl K (pw K (2*R)) T u ws).map fun c=>digs K (2*R) u++c).length:=by
  refine List.ext_getElem (by rw [wayN_len]; simp) fun u h1 h2=>?_
  have hu:u<pw K (2*R):=by rw [wayN_len] at h1; exact h1
  have:=wayN_compl (K:=K) (T:=T) hp ws u hu
  rw [List.getD_eq_getElem?_getD,List.getElem?_eq_getElem h1,Option.getD_some] at this
  rw [this]
  simp
 rw [e]
def stepN (K N:Nat) (T:List Int) (at_:List Nat) (y:Int):Nat→List Nat
 | 0=>List.replicate N 0
 | j+1=>if T.getD j 0=y then (stepN K N T at_ y j).set (j/K) ((stepN K N T at_ y j).getD (j/K) 0+at_.getD (j%N) 0) else stepN K N T at_ y j
theorem stepN_len (K N:Nat) (T:List Int) (at_:List Nat) (y:Int) (j:Nat):(stepN K N T at_ y j).length=N:=by
 induction j with
 | zero=>simp [stepN]
 | succ j ih=>unfold stepN; split<;>simp [ih]
theorem stepN_get {K N:Nat} (hK:1≤K) {T:List Int} {at_:List Nat} {y:Int}:∀ j,j≤N*K→∀ u,u<N→(stepN K N T at_ y j).getD u 0=((List.range (min K (j-u*K))).map fun s=>if T.getD (u*K+s) 0=y then at_.getD ((u*K+s)%N) 0 else 0).sum
 | 0,_,u,hu=>by simp [stepN,List.getD,hu]
 | j+1,hj,u,hu=>by
  have ih:=stepN_get hK (T:=T) (at_:=at_) (y:=y) j (by omega) u hu
  have hd:=Nat.div_add_mod j K
  have hm:=Nat.mod_lt j (show 0<K by omega)
  have hq:j/K<N:=by rw [Nat.div_lt_iff_lt_mul (by omega)]; omega
  have hc:K*(j/K)=j/K*K:=Nat.mul_comm _ _
  unfold stepN
  by_cases e:u=j/K
  ·subst e
   have e1:min K (j-j/K*K)=j%K:=by omega
   have e2:min K (j+1-j/K*K)=j%K+1:=by omega
   rw [e1] at ih
   rw [e2,List.range_succ,List.map_append,List.sum_append,← ih,List.map_singleton,List.sum_singleton,show j/K*K+j%K=j by omega]
   split
   ·have hl:j/K<(stepN K N T at_ y j).length:=by rw [stepN_len]; exact hq
    simp [List.getD,hl]
   ·omega
  ·have e1:min K (j+1-u*K)=min K (j-u*K):=by
    rcases Nat.lt_or_ge u (j/K) with q | q
    ·have:=Nat.mul_le_mul_right K (show u+1≤j/K by omega)
     rw [Nat.succ_mul] at this
     omega
    ·have:=Nat.mul_le_mul_right K (show j/K+1≤u by omega)
     rw [Nat.succ_mul] at this
     omega
   rw [e1,← ih]
   split
   ·simp [List.getD,List.getElem?_set_ne (Ne.symm e)]
   ·rfl
def wayE (K N:Nat) (T:List Int) (ends:List Nat):List Int→List Nat
 | []=>ends
 | y::ws=>(List.range N).map fun u=>((List.range K).map fun s=>if T.getD (u*K+s) 0=y then (wayE K N T ends ws).getD ((u*K+s)%N) 0 else 0).sum
theorem wayE_cons (K N:Nat) (T:List Int) (ends:List Nat) (y:Int) (ws:List Int):wayE K N T ends (y::ws)=(List.range N).map fun u=>((List.range K).map fun s=>if T.getD (u*K+s) 0=y then (wayE K N T ends ws).getD ((u*K+s)%N) 0 else 0).sum:=rfl
theorem wayE_len {K N:Nat} {T:List Int} {ws:List Int} {e:List Nat} (h:e.length=N):(wayE K N T e ws).length=N:=by cases ws<;>simp [wayE,h]
theorem wayE_one (K N:Nat) (T ws:List Int):wayE K N T (List.replicate N 1) ws=wayN K N T ws:=by
 induction ws with
 | nil=>rfl
 | cons y ws ih=>rw [wayE_cons,wayN_cons,ih]
theorem stepN_wayE {K N:Nat} (hK:1≤K) {T:List Int} {y:Int} {ws:List Int} {ends:List Nat}:stepN K N T (wayE K N T ends ws) y (N*K)=wayE K N T ends (y::ws):=by
 refine List.ext_getElem (by rw [stepN_len,wayE_cons]; simp) fun u h1 h2=>?_
 have hu:u<N:=by rw [stepN_len] at h1; exact h1
 have e:=stepN_get hK (T:=T) (at_:=wayE K N T ends ws) (y:=y) (N*K) (Nat.le_refl _) u hu
 rw [List.getD_eq_getElem?_getD,List.getElem?_eq_getElem h1,Option.getD_some] at e
 rw [e]
 have hm:min K (N*K-u*K)=K:=by
  have:=Nat.mul_le_mul_right K (show u+1≤N by omega)
  rw [Nat.succ_mul] at this
  omega
 rw [hm]
 simp [wayE_cons]
section
variable {P:Program} {ops:Array Oper} {Q:Exit→Act→World→Prop} {md:Region.Mode} {S:World→Prop}
def wpAnyT (P:Program) (md:Region.Mode) (ops:Array Oper) (Q:Exit→Act→World→Prop) (S:World→Prop) (n:Nat):Nat→Array Bool→Act→World→Prop
 | 0,listed,a,w=>Region.ready md ops listed=[]∧Q .normal a w
 | fuel+1,listed,a,w =>
  (Region.ready md ops listed=[]→Q .normal a w) ∧
  ∀ i∈Region.ready md ops listed,wpOp P ops Q i (fun a' w'=>(i<n→S w')∧wpAnyT P md ops Q S n fuel (listed.setIfInBounds i true) a' w') a w
theorem wpAny_of_T {n:Nat}:∀ (fuel:Nat) (listed:Array Bool) (a:Act) (w:World),wpAnyT P md ops Q S n fuel listed a w→wpAny P md ops Q fuel listed a w
 | 0,_,_,_,h=>h
 | fuel+1,_,_,_,h=>⟨h.1,fun i hi=>wpOp_mono (fun a' w' h'=>wpAny_of_T fuel _ a' w' h'.2) (h.2 i hi)⟩
theorem wpAnyT_of {n:Nat}:∀ (fuel:Nat) (listed:Array Bool) (a:Act) (w:World),(∀ j,j<n→listed.getD j true=true)→wpAny P md ops Q fuel listed a w→wpAnyT P md ops Q S n fuel listed a w
 | 0,_,_,_,_,h=>h
 | fuel+1,listed,a,w,hl,h=>⟨h.1,fun i hi=>wpOp_mono (fun a' w' h'=>⟨fun hin=>Bool.noConfusion ((hl i hin).symm.trans (mem_ready.1 hi).1),wpAnyT_of fuel _ a' w' (fun j hj=>by
  by_cases hij:i=j
  ·subst hij
   rcases Nat.lt_or_ge i listed.size with h2 | h2
   ·simp [h2]
   ·rw [Array.getD_eq_getD_getElem?,Array.getElem?_eq_none (by simpa using h2)]; rfl
  ·rw [getD_set_ne true hij]; exact hl j hj) h'⟩) (h.2 i hi)⟩
theorem wpAnyT_first {n i:Nat} {oi:Oper} {v:Value} (hi:ops[i]?=some oi) (hsel:∀ (j:Nat) (o:Oper) cs b,ops[j]?=some o→o.op≠.select cs b)
 (hs:Region.sinkB md ops n=true) (hc:Region.chainB md ops n=true) (hn:n<ops.size) (hin:i<n)
 (hQ:∀ c a w,Q (.panic c) (a.put oi.dst v) w→Q (.panic c) a w) :
 ∀ (fuel:Nat) (listed:Array Bool) (a:Act) (w:World),HeadInv md ops n listed →
  (∀ j oj,ops[j]?=some oj→j≠i→listed.getD j true=false→(∀ e∈oj.after,Region.binds md e=true→e.on≠i)→oi.apart ops oj=true) →
  i∈Region.ready md ops listed→YieldsIf P ops S oi v a→S w →
  wpAnyT P md ops Q S n fuel (listed.setIfInBounds i true) (a.put oi.dst v) w→wpAnyT P md ops Q S n (fuel+1) listed a w:=by
 intro fuel
 induction fuel with
 | zero =>
  intro listed a w inv _ hr hy hS H
  refine ⟨fun h=>(by rw [h] at hr; cases hr),fun j hj=>?_⟩
  by_cases hji:j=i
  ·subst hji; exact hy.wpOp hi hS ⟨fun _=>hS,H⟩
  ·have:=ready_mono hj hji
   rw [H.1] at this
   cases this
 | succ fuel ih =>
  intro listed a w inv hfree hr hy hS H
  have hun:=(mem_ready.1 hr).1
  refine ⟨fun h=>(by rw [h] at hr; cases hr),fun j hj=>?_⟩
  have hjn:j<n:=by
   rcases Nat.lt_or_ge j n with h | h
   ·exact h
   ·exact absurd hj (tail_waits hs hc hn inv _ i rfl hin hun j h)
  by_cases hji:j=i
  ·subst hji; exact hy.wpOp hi hS ⟨fun _=>hS,H⟩
  ·have h1:=H.2 j (ready_mono hj hji)
   obtain ⟨hjun,oj,hoj,hall⟩:=mem_ready.1 hj
   have hnot:∀ e∈oj.after,Region.binds md e=true→e.on≠i:=fun e he hb heq=>by
    have h1:=hall e he hb
    rw [heq,getD_both hun] at h1
    cases h1
   have h2:=wpOp_putIf hoj (hfree j oj hoj hji hjun hnot) (fun cs b=>hsel i oi cs b hi) (fun cs b=>hsel j oj cs b hoj) hQ hy h1
   have hfree':∀ k ok,ops[k]?=some ok→k≠i→(listed.setIfInBounds j true).getD k true=false →
    (∀ e∈ok.after,Region.binds md e=true→e.on≠i)→oi.apart ops ok=true:=fun k ok hk hki hun hno=>by
    refine hfree k ok hk hki ?_ hno
    by_cases hjk:j=k
    ·subst hjk; exact hjun
    ·rw [getD_set_ne true hjk] at hun; exact hun
   refine wpOp_mono (fun a' w' h3=>⟨fun _=>h3.2.1 hjn,ih (listed.setIfInBounds j true) a' w' (inv.set hj hjn) hfree' (ready_mono hr (Ne.symm hji)) h3.1 (h3.2.1 hjn) ?_⟩) h2
   rw [Array.setIfInBounds_comm _ _ hji]
   exact h3.2.2
def wpHead (P:Program) (ops:Array Oper) (Q:Exit→Act→World→Prop) (S:World→Prop) (K:Act→World→Prop):List (Nat×Bool)→Act→World→Prop
 | [],a,w=>K a w
 | (k,true)::l,a,w=>∃ o v,ops[k]?=some o∧YieldsIf P ops S o v a∧S w∧wpHead P ops Q S K l (a.put o.dst v) w
 | (k,false)::l,a,w=>wpOp P ops Q k (fun a' w'=>S w'∧wpHead P ops Q S K l a' w') a w
def planB (md:Region.Mode) (ops:Array Oper) (n:Nat):List (Nat×Bool)→Array Bool→Bool
 | [],listed=>(List.range n).all (fun j=>listed.getD j true)&&Region.seqB md ops (ops.size-n) n listed
 | (k,true)::l,listed=>decide (k<n)&&(Region.ready md ops listed).contains k&&Region.free md ops listed k&&planB md ops n l (listed.setIfInBounds k true)
 | (k,false)::l,listed=>decide (k<n)&&decide (Region.ready md ops listed=[k])&&planB md ops n l (listed.setIfInBounds k true)
theorem wpAnyT_plan {n:Nat} {ol:List Oper} (hol:ops=ol.toArray) (hsel:Region.noSelect ops=true) (hs:Region.sinkB md ops n=true) (hc:Region.chainB md ops n=true) (hn:n<ops.size)
 (hQ:∀ c a w,Q (.panic c) a w→False) :
 ∀ (l:List (Nat×Bool)) (listed:Array Bool) (a:Act) (w:World),HeadInv md ops n listed→planB md ops n l listed=true →
  wpHead P ops Q S (fun a' w'=>wpList P ops Q (ol.drop n) a' w') l a w→wpAnyT P md ops Q S n (l.length+(ops.size-n)) listed a w
 | [],listed,a,w,inv,hB,h=>by
  simp only [planB,Bool.and_eq_true] at hB
  have hl:∀ j,j<n→listed.getD j true=true:=fun j hj=>List.all_eq_true.1 hB.1 j (List.mem_range.2 hj)
  rw [List.length_nil,Nat.zero_add]
  refine wpAnyT_of _ _ _ _ hl ?_
  have hdl:(ol.drop n).length=ops.size-n:=by subst hol; simp
  rw [← hdl]
  refine wpAny_of_seq (ol.drop n) n listed a w (fun j=>by subst hol; simp) ?_ h
  rw [hdl]; exact hB.2
 | (k,true)::l,listed,a,w,inv,hB,h=>by
  simp only [planB,Bool.and_eq_true,decide_eq_true_eq] at hB
  obtain ⟨⟨⟨hkn,hr⟩,hf⟩,hB'⟩:=hB
  obtain ⟨o,v,ho,hy,hS,h'⟩:=h
  have hr':k∈Region.ready md ops listed:=by simpa using hr
  rw [show ((k,true)::l).length+(ops.size-n)=(l.length+(ops.size-n))+1 by simp; omega]
  exact wpAnyT_first ho (Region.noSelect_spec hsel) hs hc hn hkn (fun c a w h=>(hQ c _ w h).elim) _ listed a w inv (Region.free_spec ho hf) hr' hy hS
   (wpAnyT_plan hol hsel hs hc hn hQ l _ _ _ (inv.set hr' hkn) hB' h')
 | (k,false)::l,listed,a,w,inv,hB,h=>by
  simp only [planB,Bool.and_eq_true,decide_eq_true_eq] at hB
  obtain ⟨⟨hkn,hr⟩,hB'⟩:=hB
  rw [show ((k,false)::l).length+(ops.size-n)=(l.length+(ops.size-n))+1 by simp; omega]
  refine ⟨fun h0=>(by rw [h0] at hr; cases hr),fun i hi=>?_⟩
  have hi':=hi
  rw [hr] at hi'
  obtain rfl:i=k:=by simpa using hi'
  exact wpOp_mono (fun a' w' h3=>⟨fun _=>h3.1,wpAnyT_plan hol hsel hs hc hn hQ l _ a' w' (inv.set hi hkn) hB' h3.2⟩) h
def tailB (md:Region.Mode) (ops:Array Oper) (n:Nat) (plan:List (Nat×Bool)):Bool :=
 Region.noSelect ops&&decide (n<ops.size)&&Region.sinkB md ops n&&Region.chainB md ops n&&decide (plan.length=n)&&planB md ops n plan (Array.replicate ops.size false)
theorem wp_region_plan {id:Nat} {a:Act} {w:World} {l:List Oper} (S:World→Prop) (n:Nat) (plan:List (Nat×Bool)) (hm:P.follows .mixedOrders=true) (hB:tailB .any l.toArray n plan=true)
 (h:wpHead P l.toArray (NoPanic Q) S (fun a' w'=>wpList P l.toArray (NoPanic Q) (l.drop n) a' w') plan a w.drew):(Code.region id l.toArray true).wp P Q a w:=by
 simp only [tailB,Bool.and_eq_true,decide_eq_true_eq] at hB
 obtain ⟨⟨⟨⟨⟨hsel,hn⟩,hs⟩,hc⟩,hlen⟩,hp⟩:=hB
 refine wp_region_noPanic ?_
 refine wp_region_any hm ?_
 have inv0:HeadInv .any l.toArray n (Array.replicate l.toArray.size false) :=
  ⟨by simp,fun j oj _ hl=>(by rw [getD_replicate_false] at hl; cases hl),fun t _ ht=>getD_in (by simpa using ht) (getD_replicate_false _ _)⟩
 have:=wpAnyT_plan (md:=.any) (Q:=NoPanic Q) (S:=S) rfl hsel hs hc hn (fun _ _ _ h=>h) plan _ a _ inv0 hp h
 rw [hlen,show n+(l.toArray.size-n)=l.toArray.size by omega] at this
 exact wpAny_of_T _ _ _ _ this
theorem headY {K:Act→World→Prop} {k:Nat} {o:Oper} {v:Value} {l:List (Nat×Bool)} {a:Act} {w:World} (d:Option Tmp) (ho:ops[k]?=some o) (hd:o.dst=d)
 (hy:YieldsIf P ops S o v a) (hS:S w) (h:wpHead P ops Q S K l (a.put d v) w):wpHead P ops Q S K ((k,true)::l) a w:=by
 subst hd; exact ⟨o,v,ho,hy,hS,h⟩
theorem headC {K:Act→World→Prop} {k:Nat} {o:Oper} {l:List (Nat×Bool)} {a:Act} {w:World} (ho:ops[k]?=some o)
 (h:∀ K':Act→World→Prop,(∀ a w,S w→wpHead P ops Q S K l a w→K' a w)→if Region.wanted o (yielded ops a.tmps)=true then Oper.wp P o a w K' Q else K' (a.put o.dst undef) w) :
 wpHead P ops Q S K ((k,false)::l) a w:=by
 show wpOp _ _ _ _ _ _ _
 unfold wpOp
 simp only [ho]
 have:=h (fun a' w'=>S w'∧wpHead P ops Q S K l a' w') (fun a w h1 h2=>⟨h1,h2⟩)
 split
 ·rename_i hw; rw [if_pos hw] at this; exact .inl this
 ·rename_i hw; rw [if_neg hw] at this; exact this
theorem head0 {K:Act→World→Prop} {a:Act} {w:World} (h:K a w):wpHead P ops Q S K [] a w:=h
end
section
variable {P:Program} {ops:Array Oper} {Q:Exit→Act→World→Prop} {S:World→Prop}
theorem pqY {K:Act→World→Prop} {k:Nat} {o:Oper} {v:Value} {l:List (Nat×Bool)} {a a':Act} {w:World} (d:Tmp) (hS:S w) (h:wpHead P ops Q S K l a' w) (ho:ops[k]?=some o:=by exact rfl) (hd:o.dst=some d:=by exact rfl)
 (hw:Region.wanted o (yielded ops a.tmps)=true:=by rfl) (hy:∀ W,S W→(execOp a.eval o).run P W=.ok (.value v) W:=by intro W' hs; (try subst hs); go_simp; (try with_reducible rfl)) (ha:a.put (some d) v=a':=by simp only [pq]; exact rfl) :
 wpHead P ops Q S K ((k,true)::l) a w:=by
 subst ha; exact headY (some d) ho hd (.inl ⟨hw,hy⟩) hS h
theorem pqN {K:Act→World→Prop} {k:Nat} {o:Oper} {l:List (Nat×Bool)} {a a':Act} {w:World} (d:Tmp) (hS:S w) (h:wpHead P ops Q S K l a' w) (ho:ops[k]?=some o:=by exact rfl) (hd:o.dst=some d:=by exact rfl)
 (hw:Region.wanted o (yielded ops a.tmps)=false:=by rfl) (ha:a.put (some d) undef=a':=by simp only [pq]; exact rfl):wpHead P ops Q S K ((k,true)::l) a w:=by
 subst ha; exact headY (some d) ho hd (.inr ⟨hw,rfl⟩) hS h
end
open Go.RowKit
set_option maxRecDepth 100000
def EAt (w:World) (t:PErr) (v:Value):Prop :=
 match t with
 | none=>v=.agg #[.int .i64 0,.slice none 0 0,.slice none 0 0]
 | some (n,l)=>∃ a1 n1 c1 a2 n2 c2,v=.agg #[.int .i64 n,.slice a1 n1 c1,.slice a2 n2 c2]∧ValsAt w (.slice a1 n1 c1) (l.map fun x=>Value.string x.1)∧IntsAt w (.slice a2 n2 c2) (l.map (·.2))
theorem EAt.below {w w':World} {t:PErr} {v:Value} (h:EAt w t v) (hb:Below w.heap.size w w'):EAt w' t v:=by
 match t,h with
 | none,h=>exact h
 | some (n,l),⟨a1,n1,c1,a2,n2,c2,e,h1,h2⟩=>exact ⟨a1,n1,c1,a2,n2,c2,e,h1.below hb,h2.below hb⟩
def EOwn (B:Nat) (w:World) (t:PErr) (v:Value):Prop :=
 match t with
 | none=>v=.agg #[.int .i64 0,.slice none 0 0,.slice none 0 0]
 | some (n,l)=>∃ a1 n1 c1 a2 n2 c2,v=.agg #[.int .i64 n,.slice a1 n1 c1,.slice a2 n2 c2]∧OwnV 9 B w (.slice a1 n1 c1) (l.map fun x=>Value.string x.1)∧OwnV 3 B w (.slice a2 n2 c2) ((l.map (·.2)).map (Value.int .i64))
theorem OwnV.setBelowBase {E:TypeId} {B:Nat} {w:World} {v:Value} {vs:List Value} (h:OwnV E B w v vs) {a:Addr} (ha:a.block<B) (u:Value):OwnV E B (w.setCell a u) v vs:=ownsRow_setCell_below h ha u
theorem EOwn.at {B:Nat} {w:World} {t:PErr} {v:Value} (h:EOwn B w t v):EAt w t v:=by
 match t,h with
 | none,h=>exact h
 | some (n,l),⟨a1,n1,c1,a2,n2,c2,e,h1,h2⟩=>exact ⟨a1,n1,c1,a2,n2,c2,e,h1.at,OwnI.at (OwnV.toI h2)⟩
theorem EOwn.mono {B B':Nat} {w:World} {t:PErr} {v:Value} (h:EOwn B w t v) (hB:B'≤B):EOwn B' w t v:=by
 match t,h with
 | none,h=>exact h
 | some (n,l),⟨a1,n1,c1,a2,n2,c2,e,h1,h2⟩=>exact ⟨a1,n1,c1,a2,n2,c2,e,h1.mono hB,h2.mono hB⟩
theorem EOwn.below {B:Nat} {w w':World} {t:PErr} {v:Value} (h:EOwn B w t v) (hb:Below w.heap.size w w'):EOwn B w' t v:=by
 match t,h with
 | none,h=>exact h
 | some (n,l),⟨a1,n1,c1,a2,n2,c2,e,h1,h2⟩=>exact ⟨a1,n1,c1,a2,n2,c2,e,h1.below hb,h2.below hb⟩
theorem EOwn.set {B:Nat} {w:World} {t:PErr} {v:Value} (h:EOwn B w t v) {a:Addr} (ha:a.block<B) (u:Value):EOwn B (w.setCell a u) t v:=by
 match t,h with
 | none,h=>exact h
 | some (n,l),⟨a1,n1,c1,a2,n2,c2,e,h1,h2⟩=>exact ⟨a1,n1,c1,a2,n2,c2,e,h1.setBelowBase ha u,h2.setBelowBase ha u⟩
theorem OwnV.lit {E:TypeId} (B:Nat) (w:World) (hB:B≤w.heap.size) (x:Value):OwnV E B (w.alloc (.cells #[x] E)) (.slice (some ⟨w.heap.size,0,none⟩) 1 1) [x] :=
 World.ownsRow_lit (base:=B) (e:=E) (size:=1) w #[x] 1 hB (by unfold maxLen; omega) rfl
theorem EAt.shape {w:World} {t:PErr} {v:Value} (h:EAt w t v):∃ n a1 n1 c1 a2 n2 c2,v=.agg #[.int .i64 n,.slice a1 n1 c1,.slice a2 n2 c2]:=by
 match t,h with
 | none,h=>exact ⟨0,none,0,0,none,0,0,h⟩
 | some (n,l),⟨a1,n1,c1,a2,n2,c2,e,_⟩=>exact ⟨n,a1,n1,c1,a2,n2,c2,e⟩
abbrev zErr:Value:=.agg #[.int .i64 0,.slice none 0 0,.slice none 0 0]
theorem EAt.none (w:World):EAt w none zErr:=rfl
theorem ValsAt.alloc {w:World} {v:Value} {vs:List Value} (h:ValsAt w v vs) (o:Obj):ValsAt (w.alloc o) v vs:=h.below ((Below.refl _ _).alloc (Nat.le_refl _) _)
theorem ValsAt.drew {w:World} {v:Value} {vs:List Value} (h:ValsAt w v vs):ValsAt w.drew v vs:=h
theorem ValsAt.split {w:World} {v:Value} {vs:List Value} (h:ValsAt w v vs):(v=.slice none 0 0∧vs=[])∨∃ p cap,v=.slice (some p) vs.length cap∧∀ j u,vs[j]?=some u→w.cell? (p.add j)=some u:=by
 obtain ⟨a,cap,rfl,h1,h2,h3,h4⟩:=h
 cases a with
 | none =>
  obtain rfl:=h3 rfl
  obtain rfl:=List.length_eq_zero_iff.1 (show vs.length=0 by omega)
  exact .inl ⟨rfl,rfl⟩
 | some p =>
  refine .inr ⟨p,cap,rfl,fun j u hj=>?_⟩
  have hjl:j<vs.length:=(List.getElem?_eq_some_iff.1 hj).1
  have:=h4 j hjl
  simp only [valAt] at this
  rw [this,← hj]; simp [hjl]
theorem IntsAt.alloc {w:World} {v:Value} {xs:List Int} (h:IntsAt w v xs) (o:Obj):IntsAt (w.alloc o) v xs:=h.below ((Below.refl _ _).alloc (Nat.le_refl _) _)
theorem ValsAt.shape {w:World} {v:Value} {vs:List Value} (h:ValsAt w v vs):∃ a n c,v=.slice a n c:=by
 obtain ⟨a,cap,e,_⟩:=h; exact ⟨_,_,_,e⟩
theorem cell_keep {w w':World} {b i:Nat} {x:Value} (hb:Below w.heap.size w w') (h:w.cell? ⟨b,i,none⟩=some x):w'.cell? ⟨b,i,none⟩=some x :=
 (hb.cell (p:=⟨b,i,none⟩) (World.block_lt_of_cell? _ _ h)).trans h
def Box3 (w:World) (b:Nat) (x0 x1 x2:Value):Prop:=(w.cell? ⟨b,0,none⟩=some x0∧w.cell? ⟨b,1,none⟩=some x1∧w.cell? ⟨b,2,none⟩=some x2)∧w.frozen? ⟨b,0,none⟩=false∧w.frozen? ⟨b,1,none⟩=false∧w.frozen? ⟨b,2,none⟩=false
theorem Box3.below {w w':World} {b:Nat} {x0 x1 x2:Value} (h:Box3 w b x0 x1 x2) (hb:Below w.heap.size w w'):Box3 w' b x0 x1 x2:=by
 obtain ⟨⟨h0,h1,h2⟩,f0,f1,f2⟩:=h
 have hlt:=World.block_lt_of_cell? _ _ h0
 exact ⟨⟨cell_keep hb h0,cell_keep hb h1,cell_keep hb h2⟩,(hb.frozen (p:=⟨b,0,none⟩) hlt).trans f0,(hb.frozen (p:=⟨b,1,none⟩) hlt).trans f1,(hb.frozen (p:=⟨b,2,none⟩) hlt).trans f2⟩
theorem Box3.alloc {w:World} {b:Nat} {x0 x1 x2:Value} (h:Box3 w b x0 x1 x2) (o:Obj):Box3 (w.alloc o) b x0 x1 x2:=h.below ((Below.refl _ _).alloc (Nat.le_refl _) _)
theorem Box3.drew {w:World} {b:Nat} {x0 x1 x2:Value} (h:Box3 w b x0 x1 x2):Box3 w.drew b x0 x1 x2:=h
theorem OwnV.drew {E:TypeId} {B:Nat} {w:World} {v:Value} {vs:List Value} (h:OwnV E B w v vs):OwnV E B w.drew v vs:=h
theorem Below.stepL {w1 w2 w3:World} (h:Below w1.heap.size w1 w2) (k:Below w2.heap.size w2 w3):Below w1.heap.size w1 w3:=h.trans (k.mono h.size)
theorem belowAlloc' (w:World) (o:Obj):Below w.heap.size w (w.alloc o):=(Below.refl _ _).alloc (Nat.le_refl _) _
end Go.Proofs.YtkaoebokbfcmhaaGreatDoor
namespace Go.Proofs.YtkaoebokbfcmhaaGreatDoor
open Go.RowKit
theorem indexFunc_any (v b:Value) (F:Nat) (xs:List Int) (p:Int→Bool) (w:World) (h:IntsAt w v xs)
 (eg:∀ args w,(callFunc F args).run Tryz.prog w=.ok (.enter F args) w)
 (hF:∀ x:Int,x∈xs→Calls Tryz.prog F #[.int .i64 x,b] w fun e w'=>e=.returned (.bool (p x))∧w=w') :
 Calls Tryz.prog 91 #[v,.func (.func F) #[] #[b]] w fun e w'=>e=.returned (.int .i64 (idxOf p xs))∧w=w':=by
 have hlen:=h.len
 have hm:=h.len_le
 go_enter Tryz.func91,Tryz.ntmps91
 go_wp2
 go_loop [8] (fun i=>∃ k:Nat,k≤xs.length∧i=.int .i64 k∧∀ j (hj:j<xs.length),j<k→p xs[j]=false) (fun i=>xs.length-(intOf i).toNat)
 case atStart=>exact ⟨0,by omega,rfl,by omega⟩
 case round =>
  obtain ⟨k,hk,rfl,hp⟩:=hrel
  replace hp:=Hd hp
  by_cases hlt:k<xs.length
  ·have hi:=h.idx k hlt
   have hc:=h.cell k hlt
   have hf:=Hd (hF xs[k] (by simp))
   clear hF
   go_wp2_with fail
   refine hf.out.mono ?_
   rintro e w' ⟨rfl,rfl⟩
   cases hpk:p xs[k]
   ·have HP:=Hd hpk
    go_wp2
    go_round
    case rel =>
     refine ⟨k+1,by omega,by go_num,?_⟩
     intro j hj hjk
     by_cases e:j=k
     ·subst e; exact HP.out
     ·exact hp.out j hj (by omega)
    case measure=>simp [intOf]; omega
   ·have HP:=Hd hpk
    go_wp2
    go_ret
    exact ⟨ret_int (idxOf_at k hlt HP.out fun j hj h=>hp.out j hj h).symm,rfl⟩
  ·go_wp2
   go_ret
   refine ⟨ret_int (idxOf_neg fun x hx=>?_).symm,rfl⟩
   obtain ⟨j,hj,rfl⟩:=List.mem_iff_getElem.1 hx
   exact hp.out j hj (by omega)
theorem rule_wrong (r:Nat→Addr) (at_ n:Int) (w:World) (hg:Glob r w) (h1:1≤n) (h2:n≤11) :
 Calls Tryz.prog 38 #[.int .i64 at_,.int .i64 n] w (Ret1 (fun v w'=>ErrIs r w' (fresh sRule at_ n) v) w):=by
 go_enter Tryz.func38,Tryz.ntmps38
 go_wp2_with fail
 refine (new_any r _ at_ n w hg h1 h2).mono ?_
 rintro e w' ⟨v,rfl,hb,he⟩
 go_wp2
 go_ret
 exact ⟨_,rfl,hb,he⟩
theorem rule_odd1 (x k:Int) (b:Addr) (w:World) (hb:w.cell? b=some (.int .i64 k)) :
 Calls Tryz.prog 127 #[.int .i64 x,.pointer (some b)] w fun e w'=>e=.returned (.bool (odd1 k x))∧w=w':=by
 by_cases h:x<0
 ·have e:odd1 k x=true:=by simp [odd1,h]
  rw [e]
  go_enter Tryz.func127,Tryz.ntmps127
  go_wp2
  go_ret
  exact ⟨rfl,rfl⟩
 ·have e:odd1 k x=decide (k≤x):=by simp [odd1,h]
  rw [e]
  go_enter Tryz.func127,Tryz.ntmps127
  go_wp2
  go_ret
  exact ⟨ret_bool (by simp),rfl⟩
theorem eg_rule_odd1 (args:Array Value) (w:World):(callFunc 127 args).run Tryz.prog w=.ok (.enter 127 args) w:=by kernel_rfl
theorem rule_odd (k:Int) (v:Value) (xs:List Int) (w:World) (h:IntsAt w v xs) :
 Calls Tryz.prog 89 #[.int .i64 k,v] w (Ret1 (fun x _=>x=.int .i64 (idxOf (odd1 k) xs)) w):=by
 have h':=Hd h
 clear h
 go_enter Tryz.func89,Tryz.ntmps89
 go_wp2_with fail
 refine (indexFunc_any v _ 127 xs (odd1 k) _ (h'.out.below ((Below.refl _ _).alloc (Nat.le_refl _) _)) eg_rule_odd1 (fun x _=>rule_odd1 x k _ _ (by simp))).mono ?_
 rintro e w' ⟨rfl,rfl⟩
 go_wp2
 go_ret
 exact ⟨_,rfl,(Below.refl _ _).alloc (Nat.le_refl _) _,rfl⟩
theorem size_ok (K R:Nat) (w:World) (h1:1≤K) (h4:K≤4) (h3:R≤3) :
 Calls Tryz.prog 88 #[.int .i64 K,.int .i64 R] w fun e w'=>e=.returned (.tuple #[.int .i64 (pw K (2*R+1)),.nilIface])∧w=w':=by
 go_enter Tryz.func88,Tryz.ntmps88
 go_wp2
 go_loop [6,25] (fun n i=>∃ k:Nat,k≤2*R∧i=.int .i64 k∧n=.int .i64 (pw K (k+1))) (fun _ i=>2*R-(intOf i).toNat)
 case atStart=>exact ⟨0,by omega,rfl,by rw [pw_one]⟩
 case round =>
  obtain ⟨k,hk,rfl,rfl⟩:=hrel
  by_cases hlt:k<2*R
  ·have hb:=pw_le (i:=k+1+1) h1 h4 (by omega)
   have hs:((pw K (k+1+1):Nat):Int)=(pw K (k+1):Int)*(K:Int):=by rw [pw_succ]; simp
   have hb1:0≤(pw K (k+1):Int)*(K:Int):=by rw [← hs]; omega
   have hb2:(pw K (k+1):Int)*(K:Int)≤16384:=by rw [← hs]; omega
   replace hs:=Hd hs
   go_wp2
   go_round
   case rel=>exact ⟨k+1,by omega,by go_num,by rw [hs.out]⟩
   case measure=>simp [intOf]; omega
  ·obtain rfl:k=2*R:=by omega
   go_wp2
   go_ret2
   exact ⟨rfl,rfl⟩
theorem size_bad (r:Nat→Addr) (k R:Int) (w:World) (hg:Glob r w) (h:k<1∨4<k∨R<0∨3<R) :
 Calls Tryz.prog 88 #[.int .i64 k,.int .i64 R] w (Ret2 (fun x y w'=>x=.int .i64 0∧ErrIs r w' (fresh sRule 0 3) y) w):=by
 have hg':=Hd hg
 clear hg
 by_cases h1:k<1
 ·clear h
  go_enter Tryz.func88,Tryz.ntmps88
  go_wp2_with fail
  refine (rule_wrong r _ _ w hg'.out (by decide) (by decide)).mono ?_
  rintro e w' ⟨v,rfl,hb,he⟩
  go_wp2
  go_ret2
  exact ⟨_,_,rfl,hb,rfl,he⟩
 by_cases h2:4<k
 ·clear h
  go_enter Tryz.func88,Tryz.ntmps88
  go_wp2_with fail
  refine (rule_wrong r _ _ w hg'.out (by decide) (by decide)).mono ?_
  rintro e w' ⟨v,rfl,hb,he⟩
  go_wp2
  go_ret2
  exact ⟨_,_,rfl,hb,rfl,he⟩
 by_cases h3:R<0
 ·clear h
  go_enter Tryz.func88,Tryz.ntmps88
  go_wp2_with fail
  refine (rule_wrong r _ _ w hg'.out (by decide) (by decide)).mono ?_
  rintro e w' ⟨v,rfl,hb,he⟩
  go_wp2
  go_ret2
  exact ⟨_,_,rfl,hb,rfl,he⟩
 have h4:3<R:=by omega
 clear h
 go_enter Tryz.func88,Tryz.ntmps88
 go_wp2_with fail
 refine (rule_wrong r _ _ w hg'.out (by decide) (by decide)).mono ?_
 rintro e w' ⟨v,rfl,hb,he⟩
 go_wp2
 go_ret2
 exact ⟨_,_,rfl,hb,rfl,he⟩
set_option maxRecDepth 100000
def RetB (b:Bool) (w:World) (e:Ending) (w':World):Prop:=∃ n:Nat,e=.returned (.bool b)∧w'=w.drewN n
theorem RetB.below {b:Bool} {w w':World} {e:Ending} (h:RetB b w e w'):e=.returned (.bool b)∧Below w.heap.size w w':=by
 obtain ⟨n,he,rfl⟩:=h
 exact ⟨he,below_drewN (Below.refl _ _) n⟩
theorem equal_len (v u:Value) (xs ys:List Int) (w:World) (h:IntsAt w v xs) (k:IntsAt w u ys) (hne:xs.length≠ys.length) :
 Calls Tryz.prog 121 #[v,u] w (RetB false w):=by
 have h1:=h.len
 have h2:=k.len
 have hd:((xs.length:Int) != (ys.length:Int))=true:=by simp; omega
 clear h k hne
 go_enter Tryz.func121,Tryz.ntmps121
 go_wp2
 go_ret
 exact ⟨0,rfl,rfl⟩
theorem equal_any (v u:Value) (xs ys:List Int) (w:World) (h:IntsAt w v xs) (k:IntsAt w u ys) :
 Calls Tryz.prog 121 #[v,u] w (RetB (decide (xs=ys)) w):=by
 by_cases hl:xs.length=ys.length
 case neg =>
  rw [show decide (xs=ys)=false by simp; intro e; exact hl (by rw [e])]
  exact equal_len v u xs ys w h k hl
 have h1:=h.len
 have h2:=k.len
 have hm:=h.len_le
 have hd:((xs.length:Int) != (ys.length:Int))=false:=by simp; omega
 have hl':=Hd hl
 have hlt':xs.length≤ys.length:=by omega
 clear hl
 go_enter Tryz.func121,Tryz.ntmps121
 go_wp2
 go_loopw [13] (fun i wr=>(∃ j:Nat,j≤xs.length∧i=.int .i64 j∧∀ t (h1:t<xs.length) (h2:t<ys.length),t<j→xs[t]=ys[t])∧∃ n,wr=w.drewN n) (fun i _=>xs.length-(intOf i).toNat)
 case atStart=>exact ⟨⟨0,by omega,rfl,by intro t _ _ h; omega⟩,0,rfl⟩
 case round =>
  obtain ⟨⟨j,hj,rfl,hp⟩,n,rfl⟩:=hrel
  replace hp:=Hd hp
  by_cases hlt:j<xs.length
  ·have i1:=h.idx j hlt
   have i2:=k.idx j (by omega)
   have c1:w.cell? (valAt v j)=some (.int .i64 xs[j]):=h.cell j hlt
   have c2:w.cell? (valAt u j)=some (.int .i64 ys[j]):=k.cell j (by omega)
   clear h k
   by_cases he:xs[j]=ys[j]
   ·have hq:(xs[j] != ys[j])=false:=by simp [he]
    have hE:=Hd he
    clear he
    generalize hx:xs[j]=x at c1 hq
    generalize hy:ys[j]=y at c2 hq
    clear hx hy
    go_wp2
    go_quiet (fail)
    go_wp2
    go_roundw
    case rel =>
     refine ⟨⟨j+1,by omega,by go_num,?_⟩,_,rfl⟩
     intro t h1 h2 ht
     by_cases e:t=j
     ·subst e; exact hE.out
     ·exact hp.out t h1 h2 (by omega)
    case measure=>simp [intOf]; omega
   ·have hq:(xs[j] != ys[j])=true:=by simp [he]
    have hE:=Hd he
    clear he
    generalize hx:xs[j]=x at c1 hq
    generalize hy:ys[j]=y at c2 hq
    clear hx hy
    go_wp2
    go_quiet (fail)
    go_wp2
    go_ret
    refine ⟨_,ret_bool ?_,World.drewN_drewN ..⟩
    symm
    rw [decide_eq_false_iff_not]
    intro e
    exact hE.out (by subst e; rfl)
  ·go_wp2
   go_ret
   refine ⟨_,ret_bool ?_,rfl⟩
   symm
   rw [decide_eq_true_iff]
   exact List.ext_getElem hl'.out fun t h1 h2=>hp.out t h1 h2 (by omega)
theorem IntsAt.split {w:World} {v:Value} {xs:List Int} (h:IntsAt w v xs):(v=.slice none 0 0∧xs=[])∨∃ p cap,v=.slice (some p) xs.length cap:=by
 obtain ⟨a,cap,rfl,h1,h2,h3,h4⟩:=h
 cases a with
 | none =>
  obtain rfl:=h3 rfl
  obtain rfl:=List.length_eq_zero_iff.1 (show xs.length=0 by omega)
  exact .inl ⟨rfl,rfl⟩
 | some p=>exact .inr ⟨p,cap,rfl⟩
theorem clone_any (v:Value) (xs:List Int) (w:World) (h:IntsAt w v xs) (hl:xs.length≤17592186044416) :
 Calls Tryz.prog 62 #[v] w (Ret1 (fun x w'=>OwnI w.heap.size w' x xs) w):=by
 rcases h.split with ⟨rfl,rfl⟩ | ⟨p,cap,rfl⟩
 ·have hn:=fun w'=>Lib.run_eql_slice_nil (P:=Tryz.prog) w' _ _ none 0 0 0 0 uInts
  clear h
  go_enter Tryz.func62,Tryz.ntmps62
  go_wp2
  go_ret
  exact ⟨_,rfl,Below.refl _ _,OwnI.nil _ _⟩
 ·have hn:=fun w'=>Lib.run_eql_slice_nil (P:=Tryz.prog) w' _ _ (some p) xs.length cap 0 0 uInts
  have h':=Hd h
  clear h
  go_enter Tryz.func62,Tryz.ntmps62
  go_wp2_with (at_builtin; refine wpl_append rfl _ _ rfl w.heap.size _ _ [] xs (OwnI.lit _ _ (Nat.le_refl _) [] (by decide) #[] rfl 0 rfl) (h'.out.below ((Below.refl _ _).alloc (Nat.le_refl _) _)) rfl rfl (by simpa using hl) (by simp) ?_)
  intro v' w' ho hb _ _
  go_wp2
  go_ret
  exact ⟨_,rfl,((Below.refl _ _).alloc (Nat.le_refl _) _).trans hb,by simpa using ho⟩
theorem oneNats:OneCell 110 35 (.slice none 0 0) 24:=⟨by kernel_rfl,by kernel_rfl,rfl,by decide,fun _=>by kernel_rfl⟩
def NumAt (w:World) (v:Value) (n:Nat):Prop:=∃ l,LimbsAt w v l∧Limbs l∧Norm l∧natV l=n
theorem NumIs.num {B:Nat} {w:World} {v:Value} {n:Nat} (h:NumIs B w v n):NumAt w v n:=by
 obtain ⟨l,h1,h2⟩:=h; exact ⟨l,h1.at,h2⟩
theorem NumAt.below {w w':World} {v:Value} {n:Nat} (h:NumAt w v n) (hb:Below w.heap.size w w'):NumAt w' v n:=by
 obtain ⟨l,h1,h2⟩:=h; exact ⟨l,h1.below hb,h2⟩
theorem NumAt.nil (w:World):NumAt w (.slice none 0 0) 0:=⟨[],(OwnV.nil 82 0 w).at,(by intro x hx; cases hx),(by intro h; exact absurd rfl h),rfl⟩
theorem NumAt.shape {w:World} {v:Value} {n:Nat} (h:NumAt w v n):∃ a m c,v=.slice a m c:=by
 obtain ⟨l,h1,_⟩:=h; exact h1.shape
theorem NumAt.set {w:World} {v u:Value} {n:Nat} {a:Addr} (h:NumAt w v n) (hc:w.cell? a=some u) (hu:∀ x,u≠.int .u32 x) (y:Value):NumAt (w.setCell a y) v n:=by
 obtain ⟨l,h1,h2⟩:=h
 refine ⟨l,ValsAt.cells_eq h1 fun i hi=>World.cell?_setCell_other _ _ _ _ (fun e=>?_),h2⟩
 have h3:=ValsAt.cell h1 i hi
 rw [← e,hc] at h3
 injection h3 with h3
 exact hu _ (h3.trans (List.getElem_map ..))
structure NumsIn (w:World) (vs:List Value) (ns:List Nat):Prop where
 len:vs.length=ns.length
 each:∀ i,i<ns.length→NumAt w (vs.getD i .nilIface) (ns.getD i 0)
theorem NumsIn.below {w w':World} {vs:List Value} {ns:List Nat} (h:NumsIn w vs ns) (hb:Below w.heap.size w w'):NumsIn w' vs ns:=⟨h.len,fun i hi=>(h.each i hi).below hb⟩
theorem NumsIn.set {w:World} {vs:List Value} {ns:List Nat} {a:Addr} {u:Value} (h:NumsIn w vs ns) (hc:w.cell? a=some u) (hu:∀ x,u≠.int .u32 x) (y:Value):NumsIn (w.setCell a y) vs ns:=⟨h.len,fun i hi=>(h.each i hi).set hc hu y⟩
theorem NumsIn.upd {w:World} {vs:List Value} {ns:List Nat} (h:NumsIn w vs ns) (i:Nat) {y:Value} {n:Nat} (hy:NumAt w y n):NumsIn w (vs.set i y) (ns.set i n):=by
 refine ⟨by simp [h.len],fun j hj=>?_⟩
 rw [List.length_set] at hj
 have hjv:j<vs.length:=by rw [h.len]; exact hj
 by_cases e:i=j
 ·subst e
  have a1:(vs.set i y).getD i .nilIface=y:=by simp [List.getD,hjv]
  have a2:(ns.set i n).getD i 0=n:=by simp [List.getD,hj]
  rw [a1,a2]; exact hy
 ·have a1:(vs.set i y).getD j .nilIface=vs.getD j .nilIface:=by simp [List.getD,List.getElem?_set_ne e]
  have a2:(ns.set i n).getD j 0=ns.getD j 0:=by simp [List.getD,List.getElem?_set_ne e]
  rw [a1,a2]; exact h.each j hj
theorem NumsIn.zeros (w:World) (n:Nat):NumsIn w (List.replicate n (.slice none 0 0)) (List.replicate n 0):=by
 refine ⟨by simp,fun i hi=>?_⟩
 rw [List.length_replicate] at hi
 have a1:(List.replicate n (Value.slice none 0 0)).getD i .nilIface=.slice none 0 0:=by simp [List.getD,hi]
 have a2:(List.replicate n 0).getD i 0=0:=by simp [List.getD,hi]
 rw [a1,a2]; exact NumAt.nil w
theorem getD_at {vs:List Value} {i:Nat} (h:i<vs.length):vs.getD i .nilIface=vs[i]:=by simp [List.getD,h]
def AllLe (ns:List Nat) (M:Nat):Prop:=∀ i,ns.getD i 0≤M
theorem sum_le_c {n M:Nat} {f:Nat→Nat} (h:∀ i,f i≤M):((List.range n).map f).sum≤n*M:=by
 induction n with
 | zero=>simp
 | succ n ih =>
  rw [List.range_succ,List.map_append,List.sum_append]
  have:=h n
  simp only [List.map_cons,List.map_nil,List.sum_cons,List.sum_nil]
  rw [Nat.add_mul]; omega
theorem step_le {K N:Nat} (hK:1≤K) {T:List Int} {at_:List Nat} {y:Int} {M:Nat} (h:AllLe at_ M) {j:Nat} (hj:j≤N*K):AllLe (stepN K N T at_ y j) (K*M):=by
 intro u
 by_cases hu:u<N
 ·rw [stepN_get hK j hj u hu]
  refine Nat.le_trans (sum_le_c (M:=M) fun i=>?_) (Nat.mul_le_mul_right _ (Nat.min_le_left _ _))
  split
  ·exact h _
  ·exact Nat.zero_le _
 ·rw [List.getD_eq_getElem?_getD,List.getElem?_eq_none (by rw [stepN_len]; omega)]; exact Nat.zero_le _
theorem way_le {K N:Nat} (hK:1≤K) {T:List Int} {ends:List Nat} (h:AllLe ends 1):∀ ws:List Int,AllLe (wayE K N T ends ws) (K ^ ws.length)
 | []=>by simpa [wayE] using h
 | y::ws=>by
  rw [← stepN_wayE hK,List.length_cons,Nat.pow_succ,Nat.mul_comm (K ^ ws.length) K]
  exact step_le hK (way_le hK h ws) (Nat.le_refl _)
theorem limbs_low {l:List Nat} (hn:Norm l) (hne:l≠[]):4294967296 ^ (l.length-1)≤natV l:=by
 obtain ⟨b,x,rfl⟩:∃ b x,l=b++[x]:=⟨l.dropLast,l.getLast hne,(List.dropLast_concat_getLast hne).symm⟩
 have hx:x≠0:=by have:=hn hne; simpa using this
 rw [natV_snoc,List.length_append,List.length_singleton,Nat.add_sub_cancel]
 have:=Nat.mul_le_mul_left (4294967296 ^ b.length) (show 1≤x by omega)
 omega
theorem limbs_le {l:List Nat} (hn:Norm l) {k:Nat} (h:natV l<4294967296 ^ k):l.length≤k:=by
 by_cases hne:l=[]
 ·subst hne; simp
 ·have h1:=limbs_low hn hne
  have h2:4294967296 ^ (l.length-1)<4294967296 ^ k:=Nat.lt_of_le_of_lt h1 h
  have h3:=(Nat.pow_lt_pow_iff_right (show 1<4294967296 by decide)).1 h2
  omega
theorem limbs_four {l:List Nat} (hn:Norm l) {e k:Nat} (h:natV l≤4 ^ e) (he:e<16*k):l.length≤k :=
 limbs_le hn (Nat.lt_of_le_of_lt h (by rw [show (4294967296:Nat)=4 ^ 16 from rfl,← Nat.pow_mul]; exact Nat.pow_lt_pow_right (by decide) he))
def eW:Nat:=300
def eB:Nat:=400
theorem num_len {l:List Nat} (hn:Norm l) (h:natV l≤4 ^ eB):l.length≤1000000:=Nat.le_trans (limbs_four hn h (k:=100) (by decide)) (by decide)
theorem four_le {K n e:Nat} (hK:K≤4) (hn:n≤e):K ^ n≤4 ^ e:=Nat.le_trans (Nat.pow_le_pow_left hK n) (Nat.pow_le_pow_right (by decide) hn)
theorem nat_addN (v u:Value) (n m:Nat) (w:World) (h:NumAt w v n) (k:NumAt w u m) (hn:n≤4 ^ eB) (hm:m≤4 ^ eB) :
 Calls Tryz.prog 12 #[v,u] w (Ret1 (fun x w'=>NumIs w.heap.size w' x (n+m)) w):=by
 obtain ⟨l,h1,h2,h3,rfl⟩:=h
 obtain ⟨l',k1,k2,k3,rfl⟩:=k
 exact nat_add v u l l' w h1 k1 h2 k2 (num_len h3 hn) (num_len k3 hm)
def mkA (t:Nat):Int:=-2*(t:Int)-1
def mkB (t:Nat):Int:=-2*(t:Int)-2
def vAt (vs:List Value) (t:Nat):Value:=vs.getD t undef
theorem ValsAt.cellV {w:World} {v:Value} {vs:List Value} (h:ValsAt w v vs) (i:Nat) (hi:i<vs.length):w.cell? (valAt v i)=some (vAt vs i):=by
 rw [h.cell i hi]; simp [vAt,List.getD,hi]
structure Parted (lv:Value) (vs:List Value):Prop where
 two:∀ s t,s<vs.length→t<vs.length→s≠t→(vAt vs s).ownBlock=none∨(vAt vs s).ownBlock≠(vAt vs t).ownBlock
 top:∀ i t,i<vs.length→t<vs.length→(vAt vs t).ownBlock≠some (valAt lv i).block
theorem ValsAt.grown {w w':World} {row:Option Nat} {v:Value} {vs:List Value} (h:ValsAt w v vs) (hg:w.grownBy w' row) (hne:∀ i,i<vs.length→row≠some (valAt v i).block):ValsAt w' v vs :=
 h.cells_eq fun i hi=>World.cell?_of_block (hg.block _ (h.blk i hi) (fun e=>hne i hi e.symm))
def rA (X:Nat→List Int) (t:Nat):List Int:=List.replicate (X t).length (mkA t)
def rB (X:Nat→List Int) (t:Nat) (j:Nat):List Int:=rA X t++List.replicate j (mkB t)
theorem rB_zero (X:Nat→List Int) (t:Nat):rB X t 0=rA X t:=by simp [rB]
theorem rB_succ (X:Nat→List Int) (t j:Nat):rB X t (j+1)=rB X t j++[mkB t]:=by simp [rB,List.replicate_succ']
theorem grownBy_trans' {a b c:World} {row row':Option Nat} (h:a.grownBy b row) (k:b.grownBy c row') (hr:∀ i,row'=some i→a.heap.size≤i):a.grownBy c row :=
 ⟨k.os.trans h.os,k.tape.trans h.tape,k.output.trans h.output,Nat.le_trans h.size k.size,fun i hi hne=>(k.block i (Nat.lt_of_lt_of_le hi h.size) (fun e=>by have:=hr i e.symm; omega)).trans (h.block i hi hne)⟩
theorem OwnI.front {B:Nat} {w w':World} {v v':Value} {xs ys:List Int} (h:OwnI B w v xs) (h':OwnI B w' v' (xs++ys)) (hb:roomOf v'=roomOf v):OwnI B w' v xs :=
 OwnV.toI (OwnV.front h.toV (by simpa using h'.toV) hb)
theorem ownBlock_eq {B B':Nat} {w w':World} {v v':Value} {xs ys:List Int} (h:OwnI B w v xs) (h':OwnI B' w' v' ys) (hr:roomOf v'=roomOf v):v'.ownBlock=v.ownBlock:=by
 obtain ⟨a,n,c,e⟩:=h.at.shape
 obtain ⟨a',n',c',e'⟩:=h'.at.shape
 exact ownBlock_of_room e e' hr
structure Grows (B:Nat) (X:Nat→List Int) (k:Nat) (v:Value) (wi:World) (q:Nat) (g:Value) (wr:World):Prop where
 own:OwnI B wr g (rB X k q)
 old:OwnI B wr v (rA X k)
 step:wi.grownBy wr v.ownBlock
 lt:∀ b,v.ownBlock=some b→b<wi.heap.size
 at_:(roomOf g=roomOf v)∨∃ b,g.ownBlock=some b∧wi.heap.size≤b
theorem Grows.start {B:Nat} {X:Nat→List Int} {k:Nat} {v:Value} {wi:World} (h:OwnI B wi v (rA X k)):Grows B X k v wi 0 v wi :=
 ⟨by rw [rB_zero]; exact h,h,World.grownBy.refl _ _,fun b hb=>(h.lt b hb).2,.inl rfl⟩
theorem Grows.next {B:Nat} {X:Nat→List Int} {k:Nat} {v:Value} {wi:World} {q:Nat} {g:Value} {wr:World} (h:Grows B X k v wi q g wr) {g':Value} {w':World}
 (ho:OwnI B w' g' (rB X k q++[mkB k])) (ha:(roomOf g'=roomOf g∧wr.grownBy w' g.ownBlock)∨(∃ b,g'.ownBlock=some b∧wr.heap.size≤b∧wr.grownBy w' none)):Grows B X k v wi (q+1) g' w':=by
 rw [← rB_succ] at ho
 have hsz:=h.step.size
 rcases ha with ⟨hr,hg⟩ | ⟨b,hb,hlt,hg⟩
 ·rcases h.at_ with hat | ⟨b0,hb0,hlt0⟩
  ·have e:=ownBlock_eq h.old h.own hat
   rw [e] at hg
   exact ⟨ho,OwnI.front h.old (ys:=List.replicate (q+1) (mkB k)) ho (hr.trans hat),h.step.trans hg,h.lt,.inl (hr.trans hat)⟩
  ·have e:=ownBlock_eq h.own ho hr
   have hne:v.ownBlock=none∨v.ownBlock≠g.ownBlock:=by
    cases hv:v.ownBlock with
    | none=>exact .inl rfl
    | some kv =>
     right
     rw [hb0]
     intro e2
     simp at e2
     have:=h.lt kv hv
     omega
   exact ⟨ho,h.old.kept hg hne,grownBy_trans' h.step hg (fun i hi=>by rw [hb0] at hi; simp at hi; omega),h.lt,.inr ⟨b0,by rw [e]; exact hb0,hlt0⟩⟩
 ·exact ⟨ho,h.old.kept hg (by cases hv:v.ownBlock<;>simp),grownBy_trans' h.step hg (by intro i hi; cases hi),h.lt,.inr ⟨b,hb,by omega⟩⟩
structure Grown (B:Nat) (X:Nat→List Int) (vs:List Value) (gv:Value) (k:Nat) (gl:List Value) (wr:World):Prop where
 own:∀ t,t<k→OwnI B wr (vAt gl t) (rB X t 40)
 far:∀ t s,t<k→s<vs.length→s≠t→(vAt vs s).ownBlock=none∨(vAt gl t).ownBlock≠(vAt vs s).ownBlock
 top:∀ t,t<k→(vAt gl t).ownBlock≠gv.ownBlock
end Go.Proofs.YtkaoebokbfcmhaaGreatDoor
namespace Go.Proofs.YtkaoebokbfcmhaaGreatDoor
open Go.RowKit
theorem Below.step {w1 w2 w3:World} (h:Below w1.heap.size w1 w2) (k:Below w2.heap.size w2 w3):Below w1.heap.size w1 w3:=h.trans (k.mono h.size)
theorem belowAlloc (w:World) (o:Obj):Below w.heap.size w (w.alloc o):=(Below.refl _ _).alloc (Nat.le_refl _) _
def Owns (w:World):Nat→List Value→List (List Int)→Prop
 | lo,[],[]=>lo≤w.heap.size
 | lo,v::vs,x::xs=>∃ hi,lo≤hi∧OwnI lo w v x∧(∀ k,v.ownBlock=some k→k<hi)∧Owns w hi vs xs
 | _,_,_=>False
theorem Owns.get {w:World}:∀ {vs:List Value} {xs:List (List Int)} {lo:Nat},Owns w lo vs xs→vs.length=xs.length∧∀ t,t<vs.length→OwnI lo w (vAt vs t) (xs.getD t [])
 | [],[],_,_=>⟨rfl,by intro t h; simp at h⟩
 | v::vs,x::xs,lo,⟨hi,hle,ho,_,hr⟩=>by
  obtain ⟨hl,hg⟩:=Owns.get hr
  refine ⟨by simp [hl],fun t ht=>?_⟩
  cases t with
  | zero=>exact ho
  | succ t=>exact (hg t (by simpa using ht)).mono hle
 | [],_::_,_,h=>h.elim
 | _::_,[],_,h=>h.elim
theorem Owns.two {w:World}:∀ {vs:List Value} {xs:List (List Int)} {lo:Nat},Owns w lo vs xs→∀ s t,s<vs.length→t<vs.length→s≠t→(vAt vs s).ownBlock=none∨(vAt vs s).ownBlock≠(vAt vs t).ownBlock
 | [],[],_,_,s,t,hs,_,_=>by simp at hs
 | v::vs,x::xs,lo,⟨hi,hle,ho,hlt,hr⟩,s,t,hs,ht,hne=>by
  have hg:=(Owns.get hr).2
  have key:∀ t,t<vs.length→∀ k,v.ownBlock=some k→(vAt vs t).ownBlock≠some k:=fun t ht k hk e=>by
   have h1:=hlt k hk
   have h2:=((hg t ht).lt k e).1
   omega
  match s,t,hs,ht,hne with
  | 0,0,_,_,hne=>exact absurd rfl hne
  | 0,t+1,_,ht,_ =>
   show v.ownBlock=none∨v.ownBlock≠(vAt vs t).ownBlock
   cases hk:v.ownBlock with
   | none=>exact .inl rfl
   | some k=>exact .inr fun e=>key t (by simpa using ht) k hk e.symm
  | s+1,0,hs,_,_ =>
   show (vAt vs s).ownBlock=none∨(vAt vs s).ownBlock≠v.ownBlock
   cases hk:v.ownBlock with
   | none=>cases (vAt vs s).ownBlock<;>simp
   | some k=>exact .inr (key s (by simpa using hs) k hk)
  | s+1,t+1,hs,ht,hne=>exact Owns.two hr s t (by simpa using hs) (by simpa using ht) (by omega)
 | [],_::_,_,h,_,_,_,_,_=>h.elim
 | _::_,[],_,h,_,_,_,_,_=>h.elim
theorem Owns.alloc {w:World} (o:Obj):∀ {vs:List Value} {xs:List (List Int)} {lo:Nat},Owns w lo vs xs→Owns (w.alloc o) lo vs xs
 | [],[],lo,h=>by show lo≤(w.alloc o).heap.size; have:lo≤w.heap.size:=h; simp; omega
 | v::vs,x::xs,lo,⟨hi,hle,ho,hlt,hr⟩=>⟨hi,hle,ho.alloc o,hlt,Owns.alloc o hr⟩
 | [],_::_,_,h=>h.elim
 | _::_,[],_,h=>h.elim
set_option maxRecDepth 100000
theorem EOwn.shape {B:Nat} {w:World} {t:PErr} {v:Value} (h:EOwn B w t v):∃ n a1 n1 c1 a2 n2 c2,v=.agg #[.int .i64 n,.slice a1 n1 c1,.slice a2 n2 c2]:=h.at.shape
theorem below_set3 {B b:Nat} {w0 w:World} (h:Below B w0 w) (hb:B≤b) (x y z:Value):Below B w0 (((w.setCell ⟨b,0,none⟩ x).setCell ⟨b,1,none⟩ y).setCell ⟨b,2,none⟩ z) :=
 ((h.setCell (p:=⟨b,0,none⟩) hb x).setCell (p:=⟨b,1,none⟩) hb y).setCell (p:=⟨b,2,none⟩) hb z
end Go.Proofs.YtkaoebokbfcmhaaGreatDoor
namespace Go.Proofs.YtkaoebokbfcmhaaGreatDoor
open Go.RowKit
theorem check_k (r:Nat→Addr) (k R:Int) (v:Value) (w:World) (hg:Glob r w) (h:k<1∨4<k) :
 Calls Tryz.prog 37 #[.agg #[.int .i64 k,.int .i64 R,v]] w (Ret1 (fun x w'=>ErrIs r w' (fresh sRule 0 1) x) w):=by
 have hg':=Hd (hg.below ((Below.refl _ _).alloc (Nat.le_refl _) (.cells #[.int .i64 k,.int .i64 R,v] 24)))
 clear hg
 rcases h with h | h <;>
 (go_enter Tryz.func37,Tryz.ntmps37
  go_wp2_with fail
  refine (rule_wrong r _ _ _ hg'.out (by decide) (by decide)).mono ?_
  rintro e w' ⟨x,rfl,hb,he⟩
  go_wp2
  go_ret
  exact ⟨_,rfl,((Below.refl _ _).alloc (Nat.le_refl _) _).trans (hb.mono (by simp)),he⟩)
theorem check_r (r:Nat→Addr) (k R:Int) (v:Value) (w:World) (hg:Glob r w) (h1:1≤k) (h4:k≤4) (h:R<0∨3<R) :
 Calls Tryz.prog 37 #[.agg #[.int .i64 k,.int .i64 R,v]] w (Ret1 (fun x w'=>ErrIs r w' (fresh sRule 1 1) x) w):=by
 have hg':=Hd (hg.below ((Below.refl _ _).alloc (Nat.le_refl _) (.cells #[.int .i64 k,.int .i64 R,v] 24)))
 clear hg
 go_enter Tryz.func37,Tryz.ntmps37
 go_wp2_with fail
 refine (size_bad r _ _ _ hg'.out (by omega)).mono ?_
 rintro e w1 ⟨x,y,rfl,hb,rfl,he⟩
 obtain ⟨T,a,rfl⟩:=he.some_shape
 clear he
 go_wp2_with fail
 refine (rule_wrong r _ _ _ (hg'.out.below hb) (by decide) (by decide)).mono ?_
 rintro e w' ⟨x,rfl,hb',he⟩
 go_wp2
 go_ret
 exact ⟨_,rfl,(((Below.refl _ _).alloc (Nat.le_refl _) _).trans (hb.mono (by simp))).trans (hb'.mono (by have:=hb.size; simp at this; omega)),he⟩
theorem check_len (r:Nat→Addr) (K R:Nat) (v:Value) (xs:List Int) (w:World) (hg:Glob r w) (h:IntsAt w v xs) (h1:1≤K) (h4:K≤4) (h3:R≤3) (hl:xs.length≠pw K (2*R+1)) :
 Calls Tryz.prog 37 #[.agg #[.int .i64 K,.int .i64 R,v]] w (Ret1 (fun x w'=>ErrIs r w' (fresh sRule 2 1) x) w):=by
 have hg':=Hd (hg.below ((Below.refl _ _).alloc (Nat.le_refl _) (.cells #[.int .i64 K,.int .i64 R,v] 24)))
 clear hg
 have hlen:=h.len
 clear h
 have hne:((xs.length:Int) != (pw K (2*R+1):Int))=true:=by simp; omega
 clear hl
 go_enter Tryz.func37,Tryz.ntmps37
 go_wp2_with fail
 refine (size_ok K R _ h1 h4 h3).mono ?_
 rintro e w1 ⟨rfl,rfl⟩
 go_wp2_with fail
 refine (rule_wrong r _ _ _ hg'.out (by decide) (by decide)).mono ?_
 rintro e w' ⟨x,rfl,hb',he⟩
 go_wp2
 go_ret
 exact ⟨_,rfl,((Below.refl _ _).alloc (Nat.le_refl _) _).trans (hb'.mono (by simp)),he⟩
theorem check_odd (r:Nat→Addr) (K R:Nat) (v:Value) (xs:List Int) (i:Nat) (w:World) (hg:Glob r w) (h:IntsAt w v xs) (h1:1≤K) (h4:K≤4) (h3:R≤3) (hl:xs.length=pw K (2*R+1)) (hi:idxOf (odd1 K) xs=i) (hi':i<xs.length) :
 Calls Tryz.prog 37 #[.agg #[.int .i64 K,.int .i64 R,v]] w (Ret1 (fun x w'=>ErrIs r w' (fresh sRule (3+i) 1) x) w):=by
 have hg':=Hd (hg.below ((Below.refl _ _).alloc (Nat.le_refl _) (.cells #[.int .i64 K,.int .i64 R,v] 24)))
 clear hg
 have hm:=h.len_le
 have h':=Hd (h.below ((Below.refl _ _).alloc (Nat.le_refl _) (.cells #[.int .i64 K,.int .i64 R,v] 24)))
 have hlen:=h.len
 clear h
 have hne:((xs.length:Int) != (pw K (2*R+1):Int))=false:=by simp; omega
 clear hl
 replace hi:=Hd hi
 go_enter Tryz.func37,Tryz.ntmps37
 go_wp2_with fail
 refine (size_ok K R _ h1 h4 h3).mono ?_
 rintro e w1 ⟨rfl,rfl⟩
 go_wp2_with fail
 refine (rule_odd K v xs _ h'.out).mono ?_
 rintro e w1 ⟨x,rfl,hb,rfl⟩
 rw [hi.out]
 have hlt:i<9223372036854775807:=by omega
 have hb3:(3+(i:Int))≤9223372036854775807:=by
  have:=pw_le (i:=2*R+1) h1 h4 (by omega)
  have:¬ ((xs.length:Int) != (pw K (2*R+1):Int))=true:=by rw [hne]; simp
  simp at this
  omega
 go_wp2_with fail
 refine (rule_wrong r _ _ _ (hg'.out.below hb) (by decide) (by decide)).mono ?_
 rintro e w' ⟨x,rfl,hb',he⟩
 go_wp2
 go_ret
 exact ⟨_,rfl,(((Below.refl _ _).alloc (Nat.le_refl _) _).trans (hb.mono (by simp))).trans (hb'.mono (by have:=hb.size; simp at this; omega)),he⟩
theorem check_ok (K R:Nat) (v:Value) (xs:List Int) (w:World) (h:IntsAt w v xs) (hr:RuleOk K R xs) :
 Calls Tryz.prog 37 #[.agg #[.int .i64 K,.int .i64 R,v]] w (Ret1 (fun x _=>x=.nilIface) w):=by
 obtain ⟨h1,h4,h3,hl,hs⟩:=hr
 have h':=Hd (h.below ((Below.refl _ _).alloc (Nat.le_refl _) (.cells #[.int .i64 K,.int .i64 R,v] 24)))
 have hlen:=h.len
 clear h
 have hne:((xs.length:Int) != (pw K (2*R+1):Int))=false:=by simp; omega
 clear hl
 replace hs:=Hd hs
 go_enter Tryz.func37,Tryz.ntmps37
 go_wp2_with fail
 refine (size_ok K R _ h1 h4 h3).mono ?_
 rintro e w1 ⟨rfl,rfl⟩
 go_wp2_with fail
 refine (rule_odd K v xs _ h'.out).mono ?_
 rintro e w1 ⟨x,rfl,hb,rfl⟩
 rw [hs.out.odd]
 go_wp2
 go_ret
 exact ⟨_,rfl,(((Below.refl _ _).alloc (Nat.le_refl _) _).trans (hb.mono (by simp))),rfl⟩
theorem check_any (r:Nat→Addr) (k R:Int) (v:Value) (xs:List Int) (w:World) (hg:Glob r w) (h:IntsAt w v xs) :
 Calls Tryz.prog 37 #[.agg #[.int .i64 k,.int .i64 R,v]] w (Ret1 (fun x w'=>ErrIs r w' (checkP k R xs) x) w):=by
 by_cases hk:k<1∨4<k
 ·rw [checkP,if_pos hk]; exact check_k r k R v w hg hk
 by_cases hr:R<0∨3<R
 ·rw [checkP,if_neg hk,if_pos hr]; exact check_r r k R v w hg (by omega) (by omega) hr
 obtain ⟨K,rfl⟩:=Int.eq_ofNat_of_zero_le (show 0≤k by omega)
 obtain ⟨R,rfl⟩:=Int.eq_ofNat_of_zero_le (show 0≤R by omega)
 by_cases hl:xs.length=pw K (2*R+1)
 ·rcases syms_or K xs with hs | ⟨i,hi,hlt⟩
  ·have hok:RuleOk K R xs:=⟨by omega,by omega,by omega,hl,hs⟩
   rw [hok.check]; exact check_ok K R v xs w h hok
  ·have:checkP K R xs=fresh sRule (3+i) 1:=by
    rw [checkP,if_neg hk,if_neg hr,if_neg (by simp [hl]),if_neg (by omega),hi]
   rw [this]
   exact check_odd r K R v xs i w hg h (by omega) (by omega) (by omega) hl hi hlt
 ·have:checkP K R xs=fresh sRule 2 1:=by
   rw [checkP,if_neg hk,if_neg hr,if_pos (by simpa using hl)]
  rw [this]
  exact check_len r K R v xs w hg h (by omega) (by omega) (by omega) hl
set_option maxRecDepth 100000
end Go.Proofs.YtkaoebokbfcmhaaGreatDoor
namespace Go.Proofs.YtkaoebokbfcmhaaGreatDoor
open Go.RowKit Go.Extern.Stop Go.Stop Go.Extern
set_option maxRecDepth 100000
set_option maxHeartbeats 8000000
namespace Errs
theorem typeOfE (v:Value) (w:World):(ReflectliteType.typeOf #[.iface 287 v]).run Tryz.prog w=.ok (.iface 192 (.agg #[.pointer (some ⟨13,287,none⟩)])) w:=by kernel_rfl
theorem comparableE (w : World) : ((ReflectliteType.method fun t => do Rtype.noPackHeld "Comparable" t; (fun a => Value.bool a.comparable) <$> typeInfo t) #[.agg #[.pointer (some ⟨13, 287, none⟩)]]).run Tryz.prog w = .ok (.bool true) w := by kernel_rfl
theorem methodComparable (v : Value) (w : World) : (Go.method 419 192 v "Comparable").run Tryz.prog w = .ok (232, v) w := by kernel_rfl
theorem compE:(Tryz.prog.info? 287).map (·.comparable)=some true:=by kernel_rfl
theorem sizeE:(Tryz.prog.info? 307).map (·.size)=some 1:=by kernel_rfl
theorem uErr : Tryz.prog.underlying 27 = some (.interface #[("Error", 288)]) := by kernel_rfl
theorem uES:Tryz.prog.underlying 287=some (.pointer 307):=by kernel_rfl
theorem uIs : Tryz.prog.underlying 194 = some (.interface #[("Is", 196)]) := by kernel_rfl
theorem uUnw : Tryz.prog.underlying 197 = some (.interface #[("Unwrap", 179)]) := by kernel_rfl
theorem noIsF (v:Value) (xT:TypeId) (w:World):(Instr.typeAssert (.iface 75 v) xT 194 true).run Tryz.prog w=.ok (.tuple #[.nilIface,.bool false]) w:=run_typeAssert_lacksB uIs (by kernel_rfl) (by kernel_rfl) v xT w
theorem hasUnwrapF (v:Value) (xT:TypeId) (w:World):(Instr.typeAssert (.iface 75 v) xT 197 true).run Tryz.prog w=.ok (.tuple #[.iface 75 v,.bool true]) w:=run_typeAssert_hasB uUnw (by kernel_rfl) v xT w
theorem methodUnwrap (v : Value) (w : World) : (Go.method 419 75 v "Unwrap").run Tryz.prog w = .ok (225, v) w := by kernel_rfl
theorem unwrap_any (p:Nat) (u:Value) (w:World) (h:w.cell? ⟨p,2,none⟩=some u) :
 Calls Tryz.prog 225 #[.pointer (some ⟨p,0,none⟩)] w fun e w'=>e=.returned u∧w=w':=by
 go_enter Tryz.func225,Tryz.ntmps225
 go_wp2
 go_ret
 exact ⟨rfl,rfl⟩
theorem is_loop (r:Nat→Addr) (n:Int) (l:List (ByteArray×Int)) (v:Value) (w:World) (h:ErrAt r w n l v) :
 Calls Tryz.prog 72 #[v,rootV r n,.bool true] w fun e w'=>e=.returned (.bool true)∧w=w':=by
 obtain ⟨i,hi,hcmp⟩:=Option.map_eq_some_iff.1 compE
 obtain ⟨j,hj,hjs⟩:=Option.map_eq_some_iff.1 sizeE
 have heq:=run_eql_iface_ptr_same (P:=Tryz.prog) w (r n.toNat) uErr uES hi hcmp hj
 have nF:=noIsF
 have uF:=hasUnwrapF
 have mU:=methodUnwrap
 clear hi hcmp hj hjs
 replace h:=Hd h
 go_enter Tryz.func72,Tryz.ntmps72
 go_wp2
 go_loopg [0] l.length (fun k u wr=>wr=w∧∃ l',l'.length=k∧ErrAt r w n l' u)
 case atStart=>exact ⟨rfl,l,rfl,h.out⟩
 case round =>
  obtain ⟨rfl,l',hl',hu⟩:=hrel
  match l',hl',hu with
  | [],hl',hu =>
   obtain rfl:_=rootV r n:=hu
   clear hl'
   go_wp2
   go_ret
   exact ⟨rfl,rfl⟩
  | (op,at_)::rest,hl',hu =>
   obtain ⟨p,u',rfl,c0,c1,c2,hrest⟩:=hu
   obtain ⟨T,a,rfl⟩:=hrest.shape
   have hty:=run_eql_iface_types (P:=Tryz.prog) 75 287 (.pointer (some ⟨p,0,none⟩)) (.pointer (some (r n.toNat))) uErr (by decide) wr
   replace hrest:=Hd hrest
   replace hl':=Hd hl'
   go_wp2_with (go_at_call 225; refine (unwrap_any p _ _ c2).mono ?_; rintro e w' ⟨rfl,rfl⟩)
   go_roundg rest.length
   case measure=>have:=hl'.out; simp at this; omega
   case rel=>exact ⟨rfl,rest,rfl,hrest.out⟩
theorem is_any (r:Nat→Addr) (n:Int) (l:List (ByteArray×Int)) (v:Value) (w:World) (h:ErrAt r w n l v) :
 Calls Tryz.prog 27 #[v,rootV r n] w fun e w'=>e=.returned (.bool true)∧w=w':=by
 have h8:=@run_callFunc_extern Tryz.prog 71 _ Extern.ReflectliteType.typeOf Tryz.func71 (by kernel_rfl) (by kernel_rfl) (by kernel_rfl) (by kernel_rfl)
 have h32 := @run_callFunc_extern Tryz.prog 232 _ (Extern.ReflectliteType.method fun t => do Extern.Rtype.noPackHeld "Comparable" t; pure (.bool (← typeInfo t).comparable)) Tryz.func232 (by kernel_rfl) (by kernel_rfl) (by kernel_rfl) (by kernel_rfl)
 have tT:=typeOfE
 have cT:=comparableE
 have mR:=methodComparable
 obtain ⟨T,a,rfl⟩:=h.shape
 replace h:=Hd h
 go_enter Tryz.func27,Tryz.ntmps27
 go_wp2_with fail
 refine (is_loop r n l _ _ h.out).mono ?_
 rintro e w' ⟨rfl,rfl⟩
 go_wp2
 go_ret
 exact ⟨rfl,rfl⟩
end Errs
end Go.Proofs.YtkaoebokbfcmhaaGreatDoor
namespace Go.Proofs.YtkaoebokbfcmhaaGreatDoor
open Go.RowKit Go.Extern.Stop Go.Stop Go.Extern
set_option maxRecDepth 100000
namespace Errs
theorem uF:Tryz.prog.underlying 75=some (.pointer 79):=by kernel_rfl
theorem valueOfFF (t:Addr) (w:World):(ReflectliteValue.unpack (.iface 77 (.pointer (some t)))).run Tryz.prog w
 = .ok (.agg #[.pointer (some ⟨13,77,none⟩),.pointer (some ⟨w.heap.size,0,none⟩),.int .u64 150]) (w.alloc (.cells #[.pointer (some t)] 77)):=by kernel_rfl
theorem typeFF (a : Addr) (w : World) : (ReflectliteValue.methodAny (ReflectliteValue.valueError "reflectlite.Value.Type" 0) (fun t _ _ _ => ReflectliteType.toType t) #[.agg #[.pointer (some ⟨13, 77, none⟩), .pointer (some a), .int .u64 150]]).run Tryz.prog w
 = .ok (.iface 192 (.agg #[.pointer (some ⟨13,77,none⟩)])) w:=by kernel_rfl
theorem methodKind (h : Value) (w : World) : (Go.method 419 192 (.agg #[h]) "Kind").run Tryz.prog w = .ok (221, h) w := by kernel_rfl
theorem kindFF (w:World):((ReflectliteType.abiMethod fun t=>(fun a:Nat=>Value.int IntKind.u8 (a:Int)) <$> Rtype.kind t) #[.pointer (some ⟨13,77,none⟩)]).run Tryz.prog w=.ok (.int .u8 22) w:=by kernel_rfl
theorem kindF (w:World):((ReflectliteType.abiMethod fun t=>(fun a:Nat=>Value.int IntKind.u8 (a:Int)) <$> Rtype.kind t) #[.pointer (some ⟨13,75,none⟩)]).run Tryz.prog w=.ok (.int .u8 22) w:=by kernel_rfl
theorem rlm (z:Sem Value) (f:TypeId→Addr→Nat→Nat→Sem Value) (v:Value) :
 ReflectliteValue.method z f #[v]=(do match ← ReflectliteValue.parts v with | none=>z | some (t,a,fl)=>f t a fl (fl%32)):=rfl
theorem partsFF (a:Addr) (w:World):(ReflectliteValue.parts (.agg #[.pointer (some ⟨13,77,none⟩),.pointer (some a),.int .u64 150])).run Tryz.prog w=.ok (some (77,a,150)) w:=by kernel_rfl
theorem isNilFF (a p:Addr) (W:World) (ha:W.cell? a=some (.pointer (some p))) :
 (ReflectliteValue.method (ReflectliteValue.valueError "reflectlite.Value.IsNil" 0) ReflectliteValue.isNil #[.agg #[.pointer (some ⟨13, 77, none⟩), .pointer (some a), .int .u64 150]]).run Tryz.prog W = .ok (.bool false) W := by
 rw [rlm]
 simp only [Sem.run_bind,partsFF,Result.andThen]
 simp [ReflectliteValue.isNil,loadVar,isAgg,underlying,ha,Result.andThen]
theorem methodElem (h : Value) (w : World) : (Go.method 419 192 (.agg #[h]) "Elem").run Tryz.prog w = .ok (233, .agg #[h]) w := by kernel_rfl
theorem methodImplements (h : Value) (w : World) : (Go.method 419 192 (.agg #[h]) "Implements").run Tryz.prog w = .ok (234, .agg #[h]) w := by kernel_rfl
theorem methodAssignableTo (h : Value) (w : World) : (Go.method 419 192 (.agg #[h]) "AssignableTo").run Tryz.prog w = .ok (231, .agg #[h]) w := by kernel_rfl
theorem elemFF (w:World):(ReflectliteType.method ReflectliteType.elem #[.agg #[.pointer (some ⟨13,77,none⟩)]]).run Tryz.prog w=.ok (.iface 192 (.agg #[.pointer (some ⟨13,75,none⟩)])) w:=by kernel_rfl
theorem implementsF (w : World) : (ReflectliteType.relation "Implements" ReflectliteType.implements_ #[.agg #[.pointer (some ⟨13, 75, none⟩)], .iface 192 (.agg #[.pointer (some ⟨13, 27, none⟩)])]).run Tryz.prog w = .ok (.bool true) w := by kernel_rfl
theorem typeOfF (v:Value) (w:World):(ReflectliteType.typeOf #[.iface 75 v]).run Tryz.prog w=.ok (.iface 192 (.agg #[.pointer (some ⟨13,75,none⟩)])) w:=by kernel_rfl
theorem assignableF (w : World) : (ReflectliteType.relation "AssignableTo" ReflectliteType.assignableTo #[.agg #[.pointer (some ⟨13, 75, none⟩)], .iface 192 (.agg #[.pointer (some ⟨13, 75, none⟩)])]).run Tryz.prog w = .ok (.bool true) w := by kernel_rfl
theorem valueOfF (e:Addr) (w:World):(ReflectliteValue.unpack (.iface 75 (.pointer (some e)))).run Tryz.prog w
 = .ok (.agg #[.pointer (some ⟨13,75,none⟩),.pointer (some ⟨w.heap.size,0,none⟩),.int .u64 150]) (w.alloc (.cells #[.pointer (some e)] 75)):=by kernel_rfl
theorem elemOfFF (w:World):(Rtype.elem? 77).run Tryz.prog w=.ok (some 75) w:=by kernel_rfl
theorem mkF (p:Addr) (w:World):(ReflectliteValue.mk 75 p ReflectliteValue.flagAddr).run Tryz.prog w=.ok (.agg #[.pointer (some ⟨13,75,none⟩),.pointer (some p),.int .u64 406]) w:=by kernel_rfl
theorem elemVFF (a p:Addr) (W:World) (ha:W.cell? a=some (.pointer (some p))) :
 (ReflectliteValue.method (ReflectliteValue.valueError "reflectlite.Value.Elem" 0) ReflectliteValue.elem #[.agg #[.pointer (some ⟨13, 77, none⟩), .pointer (some a), .int .u64 150]]).run Tryz.prog W
   = .ok (.agg #[.pointer (some ⟨13,75,none⟩),.pointer (some p),.int .u64 406]) W:=by
 rw [rlm]
 simp only [Sem.run_bind,partsFF,Result.andThen]
 simp [ReflectliteValue.elem,loadVar,isAgg,underlying,ha,Result.andThen,elemOfFF,mkF]
theorem rls (v x:Value):ReflectliteValue.set #[v,x]=(do
 let (some (dst,a,fl),some (src,b,_)):=(← ReflectliteValue.parts v,← ReflectliteValue.parts x)
  | unsupported (.noEntry "extern/(internal/reflectlite.Value).Set.zeroValue")
 if fl / ReflectliteValue.flagAddr % 2 == 0 then unsupported (.noEntry "extern/(internal/reflectlite.Value).Set.unaddressable")
 let val ← loadVar src b
 if ← Rtype.directlyAssignable dst src then storeVar dst a val
 else if ← Rtype.implements dst src then
  if (← Rtype.kind src)==20 then
   match val with
   | .nilIface => unsupported (.noEntry "extern/reflectlite: a nil value of one interface type handed on as a value of another")
   | _=>storeVar dst a val
  else storeVar dst a (.iface src val)
 else panicString ("reflectlite.Set: value of type " ++ (← Rtype.spelt src) ++ " is not assignable to type " ++ (← Rtype.spelt dst))
 pure (.tuple #[])):=rfl
theorem partsFa (a:Addr) (w:World):(ReflectliteValue.parts (.agg #[.pointer (some ⟨13,75,none⟩),.pointer (some a),.int .u64 406])).run Tryz.prog w=.ok (some (75,a,406)) w:=by kernel_rfl
theorem partsF (a:Addr) (w:World):(ReflectliteValue.parts (.agg #[.pointer (some ⟨13,75,none⟩),.pointer (some a),.int .u64 150])).run Tryz.prog w=.ok (some (75,a,150)) w:=by kernel_rfl
theorem directF (w:World):(Rtype.directlyAssignable 75 75).run Tryz.prog w=.ok true w:=by kernel_rfl
theorem setF (ta b e:Addr) (old:Value) (W:World) (hb:W.cell? b=some (.pointer (some e))) (ht:W.cell? ta=some old) (hf:W.frozen? ta=false) :
 (ReflectliteValue.set #[.agg #[.pointer (some ⟨13,75,none⟩),.pointer (some ta),.int .u64 406],.agg #[.pointer (some ⟨13,75,none⟩),.pointer (some b),.int .u64 150]]).run Tryz.prog W
   = .ok (.tuple #[]) (W.setCell ta (.pointer (some e))):=by
 rw [rls]
 simp only [Sem.run_bind,partsFa,partsF,Result.andThen]
 simp [ReflectliteValue.flagAddr,loadVar,isAgg,underlying,hb,Result.andThen,directF,storeVar,Value.cells,storeCells,Addr.add]
 rw [run_store Tryz.prog W ta _ _ (by rfl)]
 simp [ht,hf]
end Errs
set_option maxHeartbeats 8000000
namespace Errs
theorem as_hit (e t:Addr) (old:Value) (w:World) (hg:w.cell? ⟨3,0,none⟩=some (.iface 192 (.agg #[.pointer (some ⟨13,27,none⟩)]))) (ht0:w.cell? t=some old) (hf0:w.frozen? t=false) :
 Calls Tryz.prog 31 #[.iface 75 (.pointer (some e)),.iface 77 (.pointer (some t))] w fun ev w'=>ev=.returned (.bool true)∧w'=((((w.alloc (.cells #[.pointer (some t)] 77)).alloc (.cells #[.pointer (some ⟨13,77,none⟩),.pointer (some ⟨w.heap.size,0,none⟩),.int .u64 150] 138)).alloc (.cells #[.pointer (some ⟨13,77,none⟩),.pointer (some ⟨w.heap.size,0,none⟩),.int .u64 150] 138)).alloc (.cells #[.pointer (some e)] 75)).setCell t (.pointer (some e)):=by
 have h6:=@run_callFunc_extern Tryz.prog 79 _ (fun args=>ReflectliteValue.unpack (args.getD 0 (.tuple #[]))) Tryz.func79 (by kernel_rfl) (by kernel_rfl) (by kernel_rfl) (by kernel_rfl)
 have h7 := @run_callFunc_extern Tryz.prog 80 _ (ReflectliteValue.methodAny (ReflectliteValue.valueError "reflectlite.Value.Type" 0) (fun t _ _ _ => ReflectliteType.toType t)) Tryz.func80 (by kernel_rfl) (by kernel_rfl) (by kernel_rfl) (by kernel_rfl)
 have h8 := @run_callFunc_extern Tryz.prog 81 _ (ReflectliteValue.method (ReflectliteValue.valueError "reflectlite.Value.IsNil" 0) ReflectliteValue.isNil) Tryz.func81 (by kernel_rfl) (by kernel_rfl) (by kernel_rfl) (by kernel_rfl)
 have h27:=@run_callFunc_extern Tryz.prog 221 _ (ReflectliteType.abiMethod fun t=>do pure (.int .u8 (← Rtype.kind t))) Tryz.func221 (by kernel_rfl) (by kernel_rfl) (by kernel_rfl) (by kernel_rfl)
 have h37:=@run_callFunc_extern Tryz.prog 233 _ (ReflectliteType.method ReflectliteType.elem) Tryz.func233 (by kernel_rfl) (by kernel_rfl) (by kernel_rfl) (by kernel_rfl)
 have h38 := @run_callFunc_extern Tryz.prog 234 _ (ReflectliteType.relation "Implements" ReflectliteType.implements_) Tryz.func234 (by kernel_rfl) (by kernel_rfl) (by kernel_rfl) (by kernel_rfl)
 have h10:=@run_callFunc_extern Tryz.prog 71 _ ReflectliteType.typeOf Tryz.func71 (by kernel_rfl) (by kernel_rfl) (by kernel_rfl) (by kernel_rfl)
 have h35 := @run_callFunc_extern Tryz.prog 231 _ (ReflectliteType.relation "AssignableTo" ReflectliteType.assignableTo) Tryz.func231 (by kernel_rfl) (by kernel_rfl) (by kernel_rfl) (by kernel_rfl)
 have h11 := @run_callFunc_extern Tryz.prog 125 _ (ReflectliteValue.method (ReflectliteValue.valueError "reflectlite.Value.Elem" 0) ReflectliteValue.elem) Tryz.func125 (by kernel_rfl) (by kernel_rfl) (by kernel_rfl) (by kernel_rfl)
 have h12:=@run_callFunc_extern Tryz.prog 126 _ ReflectliteValue.set Tryz.func126 (by kernel_rfl) (by kernel_rfl) (by kernel_rfl) (by kernel_rfl)
 have tO:=typeOfF
 have mA:=methodAssignableTo
 have aF:=assignableF
 have vF:=valueOfF
 have f6:=valueOfFF
 have f7:=typeFF
 have mK:=methodKind
 have mE:=methodElem
 have mI:=methodImplements
 have kFF:=kindFF
 have kF:=kindF
 have eFF:=elemFF
 have iF:=implementsF
 have n8:=isNilFF ⟨w.heap.size,0,none⟩ t ((w.alloc (.cells #[.pointer (some t)] 77)).alloc (.cells #[.pointer (some ⟨13,77,none⟩),.pointer (some ⟨w.heap.size,0,none⟩),.int .u64 150] 138)) (by simp)
 have hlt:3<w.heap.size:=World.block_lt_of_cell? _ _ hg
 have hg2:((w.alloc (.cells #[.pointer (some t)] 77)).alloc (.cells #[.pointer (some ⟨13,77,none⟩),.pointer (some ⟨w.heap.size,0,none⟩),.int .u64 150] 138)).cell? ⟨3,0,none⟩=some (.iface 192 (.agg #[.pointer (some ⟨13,27,none⟩)])):=by
  rw [World.cell?_alloc_lt _ _ ⟨3,0,none⟩ (by simp; omega),World.cell?_alloc_lt _ _ ⟨3,0,none⟩ hlt]; exact hg
 have htl:t.block<w.heap.size:=World.block_lt_of_cell? _ _ ht0
 have el:=elemVFF ⟨w.heap.size,0,none⟩ t (((w.alloc (.cells #[.pointer (some t)] 77)).alloc (.cells #[.pointer (some ⟨13,77,none⟩),.pointer (some ⟨w.heap.size,0,none⟩),.int .u64 150] 138)).alloc (.cells #[.pointer (some ⟨13,77,none⟩),.pointer (some ⟨w.heap.size,0,none⟩),.int .u64 150] 138)) (by rw [World.cell?_alloc_lt _ _ ⟨w.heap.size,0,none⟩ (by simp; omega)]; simp)
 have st:=setF t ⟨w.heap.size+1+1+1,0,none⟩ e old ((((w.alloc (.cells #[.pointer (some t)] 77)).alloc (.cells #[.pointer (some ⟨13,77,none⟩),.pointer (some ⟨w.heap.size,0,none⟩),.int .u64 150] 138)).alloc (.cells #[.pointer (some ⟨13,77,none⟩),.pointer (some ⟨w.heap.size,0,none⟩),.int .u64 150] 138)).alloc (.cells #[.pointer (some e)] 75))
  (by rw [World.cell?_alloc_at _ _ _ _ (by simp)]; rfl)
  (by rw [World.cell?_alloc_lt _ _ t (by simp; omega),World.cell?_alloc_lt _ _ t (by simp; omega),World.cell?_alloc_lt _ _ t (by simp; omega),World.cell?_alloc_lt _ _ t htl]; exact ht0)
  (by rw [World.frozen?_alloc_old _ _ t (by simp; omega),World.frozen?_alloc_old _ _ t (by simp; omega),World.frozen?_alloc_old _ _ t (by simp; omega),World.frozen?_alloc_old _ _ t (Nat.ne_of_lt htl)]; exact hf0)
 go_enter Tryz.func31,Tryz.ntmps31
 go_wp2
 refine wp_loop_rounds 1 ?_
 rw [rounds_succ]
 go_wp2
 go_ret
 exact ⟨rfl,rfl⟩
theorem as_any (e t:Addr) (old:Value) (w:World) (hg:w.cell? ⟨3,0,none⟩=some (.iface 192 (.agg #[.pointer (some ⟨13,27,none⟩)]))) (ht0:w.cell? t=some old) (hf0:w.frozen? t=false) :
 Calls Tryz.prog 31 #[.iface 75 (.pointer (some e)),.iface 77 (.pointer (some t))] w fun ev w'=>ev=.returned (.bool true)∧∃ w1,Below w.heap.size w w1∧w'=w1.setCell t (.pointer (some e)) :=
 (as_hit e t old w hg ht0 hf0).mono fun _ _ ⟨h1,h2⟩=>⟨h1,_,((((Below.refl _ _).alloc (Nat.le_refl _) _).alloc (by simp) _).alloc (by simp; omega) _).alloc (by simp; omega) _,h2⟩
end Errs
end Go.Proofs.YtkaoebokbfcmhaaGreatDoor
namespace Go.Proofs.YtkaoebokbfcmhaaGreatDoor
open Go.RowKit
set_option maxRecDepth 100000
def GlobE (w:World):Prop:=w.cell? ⟨3,0,none⟩=some (.iface 192 (.agg #[.pointer (some ⟨13,27,none⟩)]))
theorem GlobE.below {w w':World} (h:GlobE w) (hb:Below w.heap.size w w'):GlobE w':=cell_keep hb h
end Go.Proofs.YtkaoebokbfcmhaaGreatDoor
namespace Go.Proofs.YtkaoebokbfcmhaaGreatDoor
open Go.RowKit
set_option maxRecDepth 100000
theorem Box3.belowB {B:Nat} {w w':World} {b:Nat} {x0 x1 x2:Value} (h:Box3 w b x0 x1 x2) (hb:Below B w w') (hlt:b<B):Box3 w' b x0 x1 x2:=by
 obtain ⟨⟨h0,h1,h2⟩,f0,f1,f2⟩:=h
 exact ⟨⟨(hb.cell (p:=⟨b,0,none⟩) hlt).trans h0,(hb.cell (p:=⟨b,1,none⟩) hlt).trans h1,(hb.cell (p:=⟨b,2,none⟩) hlt).trans h2⟩,(hb.frozen (p:=⟨b,0,none⟩) hlt).trans f0,(hb.frozen (p:=⟨b,1,none⟩) hlt).trans f1,(hb.frozen (p:=⟨b,2,none⟩) hlt).trans f2⟩
theorem Box3.far {w:World} {b b':Nat} {x0 x1 x2:Value} (h:Box3 w b x0 x1 x2) (hne:b'≠b) (i:Nat) (u:Value):Box3 (w.setCell ⟨b',i,none⟩ u) b x0 x1 x2:=by
 obtain ⟨⟨h0,h1,h2⟩,f0,f1,f2⟩:=h
 refine ⟨⟨?_,?_,?_⟩,?_,?_,?_⟩
 ·rw [World.cell?_setCell_far _ _ _ _ hne]; exact h0
 ·rw [World.cell?_setCell_far _ _ _ _ hne]; exact h1
 ·rw [World.cell?_setCell_far _ _ _ _ hne]; exact h2
 ·simpa using f0
 ·simpa using f1
 ·simpa using f2
theorem Box3.set2 {w:World} {b:Nat} {x0 x1 x2:Value} (h:Box3 w b x0 x1 x2) (u:Value):Box3 (w.setCell ⟨b,2,none⟩ u) b x0 x1 u:=by
 obtain ⟨⟨h0,h1,h2⟩,f0,f1,f2⟩:=h
 refine ⟨⟨?_,?_,World.cell?_setCell_same _ _ _ h2⟩,?_,?_,?_⟩
 ·rw [World.cell?_setCell_other _ _ _ _ (by simp)]; exact h0
 ·rw [World.cell?_setCell_other _ _ _ _ (by simp)]; exact h1
 ·simpa using f0
 ·simpa using f1
 ·simpa using f2
theorem EOwn.drew {B:Nat} {w:World} {t:PErr} {v:Value} (h:EOwn B w t v):EOwn B w.drew t v:=by
 match t,h with
 | none,h=>exact h
 | some (n,l),h=>exact h
theorem sizeInt1:(Tryz.prog.info? 3).map (·.size)=some 1:=by kernel_rfl
theorem splice_take {α:Type} (C ys:List α) (off n:Nat) (h:off+ys.length≤n) (hn:n≤C.length) :
 (C.take off++ys++C.drop (off+ys.length)).take n=(C.take n).take off++ys++(C.take n).drop (off+ys.length):=by
 have hl:(C.take off++ys).length=off+ys.length:=by simp; omega
 rw [List.take_append,List.take_of_length_le (by omega),hl,List.drop_take,List.take_take,Nat.min_eq_left (by omega)]
def preV (v:Value) (h:Nat):Value:=match v with | .slice a _ c=>.slice a h c | v=>v
theorem preV_at (v:Value) (h i:Nat):valAt (preV v h) i=valAt v i:=by
 cases v with
 | slice a n c=>cases a<;>rfl
 | _=>rfl
theorem IntsAt.pre {w:World} {v:Value} {xs:List Int} (h:IntsAt w v xs) (k:Nat) (hk:k≤xs.length):IntsAt w (preV v k) (xs.take k):=by
 obtain ⟨a,cap,rfl,h1,h2,h3,h4⟩:=h
 have hl:(xs.take k).length=k:=by simp; omega
 refine ⟨a,cap,by rw [hl]; rfl,by omega,h2,h3,fun i hi=>?_⟩
 rw [preV_at,h4 i (by omega)]
 simp
def LentI (B:Nat) (w:World) (m:Value) (xs:List Int):Prop:=∃ v,m=preV v xs.length∧OwnI B w v (xs++[7001,7002])
theorem LentI.at {B:Nat} {w:World} {m:Value} {xs:List Int} (h:LentI B w m xs):IntsAt w m xs:=by
 obtain ⟨v,rfl,ho⟩:=h
 have:=ho.at.pre xs.length (by simp)
 rwa [List.take_left'] at this
 rfl
theorem LentI.below {B:Nat} {w w':World} {m:Value} {xs:List Int} (h:LentI B w m xs) (hb:Below w.heap.size w w'):LentI B w' m xs:=by
 obtain ⟨v,e,ho⟩:=h
 exact ⟨v,e,ho.below hb⟩
theorem OwnI.belowB {B B':Nat} {w w':World} {v:Value} {xs:List Int} (h:OwnI B w v xs) (hb:Below B' w w') (hlt:∀ k,v.ownBlock=some k→k<B'):OwnI B w' v xs:=by
 refine ⟨h.1,?_⟩
 rcases h.2 with h2 | ⟨g,cap,cur,rfl,hB,hg,r⟩
 ·exact .inl h2
 ·exact .inr ⟨g,cap,cur,rfl,hB,by rw [hb.block g (hlt g rfl)]; exact hg,r⟩
theorem LentI.belowB {B B':Nat} {w0 w w':World} {m:Value} {xs:List Int} (h:LentI B w m xs) (h0:LentI B w0 m xs) (hs:w0.heap.size≤B') (hb:Below B' w w'):LentI B w' m xs:=by
 obtain ⟨v,rfl,ho⟩:=h
 obtain ⟨v0,e0,ho0⟩:=h0
 refine ⟨v,rfl,ho.belowB hb fun k hk=>?_⟩
 have hbk:v0.ownBlock=v.ownBlock:=by
  obtain ⟨a,n,c,rfl⟩:=ho.at.shape
  obtain ⟨a',n',c',rfl⟩:=ho0.at.shape
  simp [preV] at e0
  obtain ⟨rfl,rfl⟩:=e0
  cases a<;>rfl
 have:=(ho0.lt k (hbk.trans hk)).2
 omega
end Go.Proofs.YtkaoebokbfcmhaaGreatDoor
namespace Go.Proofs.YtkaoebokbfcmhaaGreatDoor
open Go.RowKit
set_option maxRecDepth 100000
theorem symbol_any (K R:Nat) (va:Option Addr) (vn vc:Nat) (T:List Int) (u:Value) (ys:List Int) (w:World) (h:IntsAt w (.slice va vn vc) T) (hr:RuleOk K R T) (hu:IntsAt w u ys) (hy:Syms K ys) (hyl:ys.length=2*R+1) :
 Calls Tryz.prog 87 #[.agg #[.int .i64 K,.int .i64 R,.slice va vn vc],u] w (Ret1 (fun x _=>x=.int .i64 (T.getD (numW K ys) 0)) w):=by
 have hb0:=belowAlloc w (.cells #[.int .i64 K,.int .i64 R,.slice va vn vc] 24)
 have hR:=hr.r3
 have hk1:=hr.k1
 have hk4:=hr.k4
 have l1:=hu.len
 have hb7:ys.length≤7:=by omega
 have hnl:numW K ys<T.length:=by rw [hr.len,← hyl]; exact numW_lt ys hy
 generalize hy0:T.getD (numW K ys) 0=y0
 replace hy0:=Hd hy0
 replace hnl:=Hd hnl
 replace hyl:=Hd hyl
 replace h:=Hd (h.below hb0)
 replace hu:=Hd (hu.below hb0)
 replace hy:=Hd hy
 replace hr:=Hd hr
 obtain ⟨ua,un,uc,rfl⟩:=hu.out.shape
 go_enter Tryz.func87,Tryz.ntmps87
 go_wp2
 go_loop [5,10] (fun n i=>∃ j:Nat,j≤ys.length∧i=.int .i64 j∧n=.int .i64 (numW K (ys.take j))) (fun _ i=>ys.length-(intOf i).toNat)
 case atStart=>exact ⟨0,by omega,rfl,rfl⟩
 case round =>
  obtain ⟨j,hj,rfl,rfl⟩:=hrel
  by_cases hjl:j<ys.length
  ·have i1:=hu.out.idx j hjl
   have c1:=hu.out.cell j hjl
   have hx:=hy.out ys[j] (by simp)
   have hn:Hid (numW K (ys.take (j+1))=numW K (ys.take j)*K+ys[j].toNat):=by
    show _=_
    rw [take_snoc ys j hjl,numW_snoc]
   have hn2:numW K (ys.take j)≤16384:=by
    have h1:=numW_lt (ys.take j) (fun x hx=>hy.out x (List.mem_of_mem_take hx))
    have h2:=pw_le hk1 hk4 (i:=(ys.take j).length) (by simp; omega)
    omega
   generalize ys[j]=x at c1 hx hn
   generalize numW K (ys.take j)=N at hn hn2
   have hm1:0≤(N:Int)*(K:Int):=Int.mul_nonneg (by omega) (by omega)
   have hm2:(N:Int)*(K:Int)≤65536:=by
    have:N*K≤65536:=Nat.mul_le_mul hn2 hk4
    have h2:=Int.ofNat_le.2 this
    rw [Int.natCast_mul] at h2
    exact h2
   go_wp2
   go_round
   case rel=>exact ⟨j+1,by omega,by go_num,by rw [hn.out]; go_num⟩
   case measure=>simp [intOf]; omega
  ·obtain rfl:j=ys.length:=by omega
   rw [List.take_length]
   have i2:=h.out.idx (numW K ys) hnl.out
   have c2:=h.out.cellD (numW K ys) hnl.out
   rw [hy0.out] at c2
   clear hy0 hnl
   generalize numW K ys=N at i2 c2
   go_wp2
   go_ret
   exact ⟨_,rfl,hb0,rfl⟩
theorem run_makeI (C:Int) (n:Nat) (w:World) (hC:C=n) (hn:n≤17592186044416) :
 ∃ v w',(Instr.makeSlice 22 (.int .i64 C) (.int .i64 C)).run Tryz.prog w=.ok v w'∧OwnI w.heap.size w' v (List.replicate n 0)∧Below w.heap.size w w':=by
 subst hC
 obtain ⟨i,hi,hz0,hz1,hz2⟩:=info_parts iInt
 obtain ⟨w',hrun,r1,r2⟩:=run_make_full (P:=Tryz.prog) w w.heap.size 22 3 i (.int .i64 0) 1 uInts hi hz0 hz1 .i64 .i64 n (by rw [hz2]; omega) (by unfold maxLen; omega) (Nat.le_refl _)
 refine ⟨_,w',hrun,?_,(Below.refl _ _).grown r2 (Nat.le_refl _) (by intro k hk; cases hk)⟩
 have e:(madeCells (Value.cells (.int .i64 0)) (n*1)).toList=(List.replicate n (0:Int)).map (Value.int .i64):=by
  rw [show Value.cells (.int .i64 0)=#[.int .i64 0] from rfl,toList_madeCells_one]; simp
 rw [e] at r1
 simpa [OwnI] using r1
theorem OwnI.post {B:Nat} {w:World} {v:Value} {xs:List Int} (h:OwnI B w v xs) (off:Nat) (ho:off≤xs.length) :
 ∃ dp dLen dCap,(∀ w',(Instr.slice 22 v (some (.int .i64 off)) none none).run Tryz.prog w'=.ok (.slice dp dLen dCap) w')∧dLen=xs.length-off∧(0<xs.length-off→dp=some (valAt v off)):=by
 rcases h.2 with ⟨rfl,hn⟩ | ⟨g,cap,cur,rfl,hB,hg,hn,hm,hs,ht⟩
 ·have hr:∀ w',(Instr.slice 22 (.slice none 0 0) (some (.int .i64 off)) none none).run Tryz.prog w'=.ok (sliced none off 0 0 1) w':=by
   intro w'
   rw [run_slice_l w' 22 none 0 0 uIntsE .i64 off (by omega) (by omega),eInts,sInt]
   rfl
  exact ⟨_,_,_,hr,by omega,by intro hh; omega⟩
 ·have hr:∀ w',(Instr.slice 22 (.slice (some ⟨g,0,none⟩) xs.length cap) (some (.int .i64 off)) none none).run Tryz.prog w'=.ok (sliced (some ⟨g,0,none⟩) off xs.length cap 1) w':=by
   intro w'
   rw [run_slice_l w' 22 (some ⟨g,0,none⟩) xs.length cap uIntsE .i64 off (by omega) (by omega),eInts,sInt]
   rfl
  refine ⟨_,_,_,hr,rfl,fun hh=>?_⟩
  rw [if_neg (by omega),valAt_row]
  simp [Addr.add]
  intro e; exact e.symm
set_option maxHeartbeats 8000000
def madeP (K n:Nat) (s:List Int→Int) (m:Nat):List Int:=(List.range m).map fun x=>s (digs K n x)
theorem madeP_length (K n:Nat) (s:List Int→Int) (m:Nat):(madeP K n s m).length=m:=by simp [madeP]
theorem madeP_set (K n:Nat) (s:List Int→Int) (m P:Nat) (h:m<P):(madeP K n s m++List.replicate (P-m) (0:Int)).set m (s (digs K n m))=madeP K n s (m+1)++List.replicate (P-(m+1)) 0:=by
 rw [List.set_append_right _ _ (by rw [madeP_length]; exact Nat.le_refl _),madeP_length,Nat.sub_self,show P-m=(P-(m+1))+1 by omega,List.replicate_succ,List.set_cons_zero,madeP,madeP,List.range_succ,List.map_append,List.append_assoc]
 rfl
theorem made_two0 (K R F:Nat) (c1 c2:Value) (s:List Int→Int) (w:World) (hk1:1≤K) (hk4:K≤4) (hR:R≤3)
 (eg:∀ args w,(callFunc F args).run Tryz.prog w=.ok (.enter F args) w)
 (hF:∀ (v:Value) (ys:List Int) (w':World),Below w.heap.size w w'→IntsAt w' v ys→Syms K ys→ys.length=2*R+1→Calls Tryz.prog F #[v,c1,c2] w' (Ret1 (fun x _=>x=.int .i64 (s ys)) w')) :
 Calls Tryz.prog 84 #[.int .i64 K,.int .i64 R,.func (.func F) #[] #[c1,c2]] w (Ret1 (fun x w'=>∃ a n c,x=.agg #[.int .i64 K,.int .i64 R,.slice a n c]∧OwnI w.heap.size w' (.slice a n c) (madeP K (2*R+1) s (pw K (2*R+1)))) w):=by
 have hpl:=pw_le hk1 hk4 (i:=2*R+1) (by omega)
 replace hF:=Hd hF
 go_enter Tryz.func84,Tryz.ntmps84
 go_wp2_with fail
 refine (size_ok K R _ hk1 hk4 hR).mono ?_
 rintro e w' ⟨rfl,rfl⟩
 go_wp2_with fail
 have hb0:=belowAlloc w (.cells #[.int .i64 0,.int .i64 0,.slice none 0 0] 24)
 obtain ⟨tv,w1,hmk,ho1,hb1⟩:=run_makeI ((pw K (2*R+1):Nat):Int) (pw K (2*R+1)) (w.alloc (.cells #[.int .i64 0,.int .i64 0,.slice none 0 0] 24)) rfl (by omega)
 obtain ⟨ta,tn,tc,rfl⟩:=ho1.at.shape
 rw [hmk]
 simp only [Result.andThen]
 clear hmk
 generalize hN:2*R+1=N at *
 go_wp2_with fail
 obtain ⟨wv,w2,hmk2,ho2,hb2⟩:=run_makeI (2*(R:Int)+1) N (w1.alloc (.cells #[.int .i64 K,.int .i64 R,.slice ta tn tc] 24)) (by omega) (by omega)
 obtain ⟨wa,wn,wc,rfl⟩:=ho2.at.shape
 rw [hmk2]
 simp only [Result.andThen]
 clear hmk2
 obtain ⟨z0,z1,z2,-,-,-⟩:=cells3 hb2
 have lt:=(ho1.at.len)
 rw [List.length_replicate] at lt
 have hN7:N≤7:=by omega
 replace hN:=Hd hN
 have ltb:∀ k,(Value.slice ta tn tc).ownBlock=some k→k<w1.heap.size:=fun k hk=>(ho1.lt k hk).2
 have lwn:=ho2.at.len
 rw [List.length_replicate] at lwn
 have ho1':=Hd ((ho1.alloc (.cells #[.int .i64 K,.int .i64 R,.slice ta tn tc] 24)).below hb2)
 have zz:=Hd (And.intro z0 (And.intro z1 z2))
 have hbw:=Hd (hb1.trans ((Below.step (belowAlloc w1 (.cells #[.int .i64 K,.int .i64 R,.slice ta tn tc] 24)) hb2).mono hb1.size))
 replace ho2:=Hd ho2
 replace ltb:=Hd ltb
 have hsz1:=hb1.size
 simp at hsz1
 have hM:pw K N=pw K N:=rfl
 clear hM
 go_wp2
 go_loopw [32] (fun i wr=>∃ m:Nat,m≤pw K N∧i=.int .i64 m∧OwnI (w.heap.size+1) wr (.slice ta tn tc) (madeP K N s m++List.replicate (pw K N-m) 0)∧(∃ p:List Int,p.length=N∧OwnI (w1.heap.size+1) wr (.slice wa wn wc) p) ∧
  (wr.cell? ⟨w1.heap.size,0,none⟩=some (.int .i64 K)∧wr.cell? ⟨w1.heap.size,1,none⟩=some (.int .i64 R)∧wr.cell? ⟨w1.heap.size,2,none⟩=some (.slice ta tn tc)) ∧
  Below (w.heap.size+1) (w.alloc (.cells #[.int .i64 0,.int .i64 0,.slice none 0 0] 24)) wr) (fun i _=>pw K N-(intOf i).toNat)
 case atStart=>exact ⟨0,by omega,rfl,by simpa [madeP] using ho1'.out,⟨List.replicate N 0,by simp,by simpa using ho2.out⟩,zz.out,by simpa using hbw.out⟩
 case round =>
  obtain ⟨m,hm,rfl,hT,⟨p,hp,hP⟩,hz,hbO⟩:=hrel
  obtain ⟨wo,rfl⟩:∃ wo:World,wo=wr:=⟨_,rfl⟩
  replace hz:=Hd hz
  replace hT:=Hd hT
  by_cases hml:m<pw K N
  ·have hsz2:w1.heap.size<wo.heap.size:=World.block_lt_of_cell? _ _ hz.out.1
   have hK0:((K:Int)==0)=false:=by rw [beq_eq_false_iff_ne]; omega
   have hK1:¬ (K:Int)=0:=by omega
   have hK2:(0:Int)<K:=by omega
   go_wp2
   go_loopw [12,38] (fun x i wr=>∃ j:Nat,j≤N∧i=.int .i64 j∧x=.int .i64 (m/pw K j:Nat)∧OwnI (w1.heap.size+1) wr (.slice wa wn wc) (p.take (N-j)++(digs K N m).drop (N-j))∧Below (w1.heap.size+1) wo wr) (fun _ i _=>N-(intOf i).toNat)
   case atStart=>exact ⟨0,by omega,rfl,by simp [pw],by rw [Nat.sub_zero,List.drop_of_length_le (by rw [digs_length]; exact Nat.le_refl _),List.append_nil,List.take_of_length_le (by omega)]; exact hP,Below.refl _ _⟩
   case round =>
    obtain ⟨j,hj,rfl,rfl,hO,hbI⟩:=hrel
    obtain ⟨wi,rfl⟩:∃ wi:World,wi=wr:=⟨_,rfl⟩
    by_cases hjl:j<N
    ·have hXl:(p.take (N-j)++(digs K N m).drop (N-j)).length=N:=by simp [digs_length]; omega
     have i1:∀ w',(Instr.indexAt 22 (.slice wa wn wc) (.int .i64 ((N:Int)-1-(j:Int)))).run Tryz.prog w'=.ok (.pointer (some (valAt (.slice wa wn wc) (N-1-j)))) w':=by
      intro w'
      have:=hO.at.idxI ((N:Int)-1-(j:Int)) (by omega) (by rw [hXl]; omega) w'
      rwa [show ((N:Int)-1-(j:Int)).toNat=N-1-j by omega] at this
     have c1:=hO.at.cellD (N-1-j) (by rw [hXl]; omega)
     have f1:=hO.frz (N-1-j) (by rw [hXl]; omega)
     have hS:=hO.set (N-1-j) (by rw [hXl]; omega) ((m/pw K j%K:Nat):Int)
     have hbS:=hO.setBelow hbI (N-1-j) (by rw [hXl]; omega) (.int .i64 ((m/pw K j%K:Nat):Int))
     rw [digs_fill K N m j hjl p hp] at hS
     replace hS:=Hd hS
     replace hbS:=Hd hbS
     have hqd:m/pw K j/K=m/pw K (j+1):=by rw [Nat.div_div_eq_div_mul,← pw_succ]
     replace hqd:=Hd hqd
     have hql:m/pw K j≤16384:=Nat.le_trans (Nat.div_le_self _ _) (by omega)
     generalize (p.take (N-j)++(digs K N m).drop (N-j)).getD (N-1-j) 0=y at c1
     clear hXl hO
     generalize m/pw K j=q at *
     rw [Int.natCast_emod] at hS hbS
     have hd0:0≤(q:Int)/(K:Int):=Int.ediv_nonneg (by omega) (by omega)
     have hd1:(q:Int)/(K:Int)≤16384:=by
      have h1:q/K≤q:=Nat.div_le_self _ _
      have h2:q/K≤16384:=by omega
      exact_mod_cast h2
     have hdw:IntKind.i64.wrap ((q:Int)/(K:Int))=(q:Int)/(K:Int):=wrapK (by omega) (by omega)
     go_wp2
     go_roundw
     case rel=>exact ⟨j+1,by omega,by go_num,by rw [← hqd.out]; simp,hS.out,hbS.out⟩
     case measure=>simp [intOf]; omega
    ·have hjN:j=N:=by omega
     subst hjN
     rw [Nat.sub_self,List.take_zero,List.drop_zero,List.nil_append] at hO
     have hbW:Below w.heap.size w wi:=((belowAlloc w _).trans (hbO.mono (by omega))).trans (hbI.mono (by omega))
     have hz2:=hbI.cell (p:=⟨w1.heap.size,2,none⟩) (by simp)
     have hTl:m<(madeP K j s m++List.replicate (pw K j-m) (0:Int)).length:=by simp [madeP_length]; omega
     have hTi:=hT.out.belowB hbI (fun k hk=>by have:=ltb.out k hk; omega)
     have i2:=hTi.at.idx m hTl
     have c2:=hTi.at.cellD m hTl
     have f2:=hTi.frz m hTl
     have b2:=hTi.at.blk m hTl
     have z2i:=hz2.trans hz.out.2.2
     have zbi:(⟨w1.heap.size,2,none⟩:Addr).block<wi.heap.size:=World.block_lt_of_cell? _ _ z2i
     generalize (madeP K j s m++List.replicate (pw K j-m) (0:Int)).getD m 0=o at c2
     replace hTi:=Hd hTi
     replace hO:=Hd hO
     replace hbW:=Hd hbW
     replace hTl:=Hd hTl
     clear hz2
     have hvb:(valAt (.slice ta tn tc) m).block≠w1.heap.size:=by
      have:=ltb.out _ (hT.out.toV.blkB m (by simpa using hTl.out)).1
      omega
     have hdl:m+1≤pw K j:=hml
     go_wp2
     go_region_held3 (fun w'=>w'.cell? ⟨w1.heap.size,2,none⟩=some (.slice ta tn tc)) (go_keep)
      (first | (refine (hF.out _ (digs K j m) _ (by first | exact hbW.out.drew | exact hbW.out) (by first | exact hO.out.at.drew | exact hO.out.at) (digs_syms hk1 _ _) (by rw [digs_length])).mono ?_; rintro e w5 ⟨x5,rfl,hb5,rfl⟩; have y1:=(hb5.cell zbi).trans z2i; have y2:=(hb5.cell b2).trans c2; have y3:=(hb5.frozen b2).trans f2; have bb:Below wi.heap.size wi w5:=((Below.refl _ _).drew).trans hb5))
     have hT5:=(hTi.out.drew.below hb5).set m hTl.out (s (digs K j m))
     rw [madeP_set K j s m _ hml] at hT5
     have hO5:=(hO.out.drew.below hb5).setOther (hTi.out.drew.below hb5) (by
      intro e
      have e1:=(hT.out.toV.blkB m (by simpa using hTl.out)).1
      have e2:=(hO.out.lt _ (e.trans e1)).1
      have e3:=ltb.out _ e1
      omega) m hTl.out (.int .i64 (s (digs K j m)))
     have hB5:=((hbO.trans (hbI.mono (by omega))).trans (bb.mono (by omega))).setCell ((hTi.out.blkB m hTl.out)) (.int .i64 (s (digs K j m)))
     have x0:=(World.cell?_setCell_far w5 (valAt (.slice ta tn tc) m) ⟨w1.heap.size,0,none⟩ (.int .i64 (s (digs K j m))) hvb).trans (((bb.cell (p:=⟨w1.heap.size,0,none⟩) zbi)).trans ((hbI.cell (p:=⟨w1.heap.size,0,none⟩) (by simp)).trans hz.out.1))
     have x1:=(World.cell?_setCell_far w5 (valAt (.slice ta tn tc) m) ⟨w1.heap.size,1,none⟩ (.int .i64 (s (digs K j m))) hvb).trans (((bb.cell (p:=⟨w1.heap.size,1,none⟩) zbi)).trans ((hbI.cell (p:=⟨w1.heap.size,1,none⟩) (by simp)).trans hz.out.2.1))
     have x2:=(World.cell?_setCell_far w5 (valAt (.slice ta tn tc) m) ⟨w1.heap.size,2,none⟩ (.int .i64 (s (digs K j m))) hvb).trans y1
     have xx:=Hd (And.intro x0 (And.intro x1 x2))
     clear x0 x1 x2
     replace hT5:=Hd hT5
     replace hO5:=Hd hO5
     replace hB5:=Hd hB5
     go_wp2
     go_roundw
     case rel=>exact ⟨m+1,by omega,by go_num,hT5.out,⟨digs K j m,digs_length ..,hO5.out⟩,xx.out,hB5.out⟩
     case measure=>simp [intOf]; omega
  ·obtain rfl:m=pw K N:=by omega
   rw [Nat.sub_self,List.replicate_zero,List.append_nil] at hT
   obtain ⟨z0,z1,z2⟩:=hz.out
   obtain ⟨y0,y1,y2,f0,f1,f2⟩:=cells3 (w:=w) (show Below (w.alloc (.cells #[.int .i64 0,.int .i64 0,.slice none 0 0] 24)).heap.size _ wo by simpa using hbO)
   replace hbO:=Hd hbO
   go_wp2
   refine bodyPost_ret (v:=.agg #[.int .i64 K,.int .i64 R,.slice ta tn tc]) (by simp [results,Tryz.results84,go_sem,y0,y1,y2]) rfl ⟨_,rfl,?_,ta,tn,tc,rfl,?_⟩
   ·exact (((belowAlloc w _).trans (hbO.out.mono (by omega))).setCell (by simp) _).setCell (by simp) _ |>.setCell (by simp) _
   ·rw [hN.out]; exact (((hT.out.setBelowBase (a:=⟨w.heap.size,0,none⟩) (by simp) _).setBelowBase (a:=⟨w.heap.size,1,none⟩) (by simp) _).setBelowBase (a:=⟨w.heap.size,2,none⟩) (by simp) _).mono (Nat.le_succ _)
theorem made_two (K R F:Nat) (c1 c2:Value) (s:List Int→Int) (w:World) (hk1:1≤K) (hk4:K≤4) (hR:R≤3) (Ri:Int) (hRi:Ri=R)
 (eg:∀ args w,(callFunc F args).run Tryz.prog w=.ok (.enter F args) w)
 (hF:∀ (v:Value) (ys:List Int) (w':World),Below w.heap.size w w'→IntsAt w' v ys→Syms K ys→ys.length=2*R+1→Calls Tryz.prog F #[v,c1,c2] w' (Ret1 (fun x _=>x=.int .i64 (s ys)) w')) :
 Calls Tryz.prog 84 #[.int .i64 K,.int .i64 Ri,.func (.func F) #[] #[c1,c2]] w (Ret1 (fun x w'=>∃ a n c,x=.agg #[.int .i64 K,.int .i64 R,.slice a n c]∧OwnI w.heap.size w' (.slice a n c) (madeP K (2*R+1) s (pw K (2*R+1)))) w):=by
 subst hRi
 exact made_two0 K R F c1 c2 s w hk1 hk4 hR eg hF
end Go.Proofs.YtkaoebokbfcmhaaGreatDoor
namespace Go.Proofs.YtkaoebokbfcmhaaGreatDoor
open Go.RowKit
set_option maxRecDepth 100000
abbrev zR:Value:=.agg #[.int .i64 0,.int .i64 0,.slice none 0 0]
def sForms:ByteArray:=⟨#[102,111,114,109,115]⟩
theorem forms_check (r:Nat→Addr) (at_:Int) (k R:Int) (va:Option Addr) (vn vc:Nat) (xs:List Int) (w:World) (hg:Glob r w) (h:IntsAt w (.slice va vn vc) xs) :
 Calls Tryz.prog 34 #[.int .i64 at_,.agg #[.int .i64 k,.int .i64 R,.slice va vn vc]] w (Ret1 (fun x w'=>ErrIs r w' (under sForms at_ (checkP k R xs)) x) w):=by
 have hb0:=belowAlloc w (.cells #[.int .i64 k,.int .i64 R,.slice va vn vc] 24)
 replace hg:=Hd (hg.below hb0)
 replace h:=Hd (h.below hb0)
 go_enter Tryz.func34,Tryz.ntmps34
 go_wp2_with fail
 refine (check_any r k R _ xs _ hg.out h.out).mono ?_
 rintro e w1 ⟨x,rfl,hb,he⟩
 go_wp2_with fail
 refine (under_any r _ _ _ _ _ he).mono ?_
 rintro e w2 ⟨x,rfl,hb',he⟩
 go_wp2
 go_ret
 exact ⟨_,rfl,Below.step hb0 (Below.step hb hb'),he⟩
end Go.Proofs.YtkaoebokbfcmhaaGreatDoor
