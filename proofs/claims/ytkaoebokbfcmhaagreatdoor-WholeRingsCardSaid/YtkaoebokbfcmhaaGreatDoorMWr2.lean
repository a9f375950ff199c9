/-
  Texts that the proof leans on.
-/
import Derived.Test.YtkaoebokbfcmhaaGreatDoorMWr1
import Derived.StillTail
import Derived.Deep.RegionHeld3
import Derived.Deep.RegionLawGrows
import Derived.BigQuiet
import Derived.Deep.QuietTactic
import Derived.LaidEql
import Derived.Stop.Asserts
import Derived.RowKitTokens
import Derived.Deep.LoopGhost
import Derived.Deep.RegionWith
import Derived.RegionTactic
namespace Go.Proofs.YtkaoebokbfcmhaaGreatDoor
structure IsTwins (K R:Nat) (T a b:List Int):Prop where
 sa:Syms K a
 sb:Syms K b
 len:a.length=b.length
 ne:a≠b
 low:2*R≤a.length
 front:a.take (2*R)=b.take (2*R)
 back:a.drop (a.length-2*R)=b.drop (b.length-2*R)
 img:imgP K R T a=imgP K R T b
theorem IsTwins.symm {K R:Nat} {T a b:List Int} (h:IsTwins K R T a b):IsTwins K R T b a :=
 ⟨h.sb,h.sa,h.len.symm,h.ne.symm,by rw [← h.len]; exact h.low,h.front.symm,h.back.symm,h.img.symm⟩
theorem IsTwins.context {K R:Nat} {T a b:List Int} (h:IsTwins K R T a b) (u v:List Int):imgP K R T (u++a++v)=imgP K R T (u++b++v):=by
 have hlen:=h.len
 have hlow:=h.low
 have fr:∀ k,k<2*R→a[k]?=b[k]?:=fun k hk=>by
  have:=congrArg (·[k]?) h.front
  simpa [List.getElem?_take,hk] using this
 have bk:∀ k,a.length-2*R≤k→a[k]?=b[k]?:=fun k hk=>by
  have:=congrArg (·[k-(a.length-2*R)]?) h.back
  simp only [List.getElem?_drop] at this
  rw [show a.length-2*R+(k-(a.length-2*R))=k by omega,show b.length-2*R+(k-(a.length-2*R))=k by omega] at this
  exact this
 have at_:∀ (c:List Int) (p:Nat),(u++c++v)[p]?=if p<u.length then u[p]? else if p<u.length+c.length then c[p-u.length]? else v[p-(u.length+c.length)]?:=fun c p=>by
  rw [List.getElem?_append]
  simp only [List.length_append,List.getElem?_append]
  split
  ·split<;>rfl
  ·split
   ·omega
   ·rfl
 refine List.ext_getElem (by rw [imgP_length,imgP_length]; simp [hlen]) fun i h1 h2=>?_
 rw [imgP_length] at h1 h2
 have key:((u++a++v).drop i).take (2*R+1)=((u++b++v).drop i).take (2*R+1)∨(u.length≤i∧i+2*R<u.length+a.length):=by
  by_cases hin:u.length≤i∧i+2*R<u.length+a.length
  ·exact .inr hin
  ·left
   refine List.ext_getElem? fun j=>?_
   rw [List.getElem?_take,List.getElem?_take]
   split
   ·rw [List.getElem?_drop,List.getElem?_drop,at_,at_,← hlen]
    split
    ·rfl
    ·split
     ·by_cases q:i<u.length
      ·exact fr _ (by omega)
      ·exact bk _ (by omega)
     ·rfl
   ·rfl
 have g1:=imgP_getD K R T (u++a++v) i h1
 have g2:=imgP_getD K R T (u++b++v) i h2
 simp only [List.getD_eq_getElem?_getD,List.getElem?_eq_getElem (show i<(imgP K R T (u++a++v)).length by rw [imgP_length]; exact h1),List.getElem?_eq_getElem (show i<(imgP K R T (u++b++v)).length by rw [imgP_length]; exact h2),Option.getD_some] at g1 g2
 rw [g1,g2]
 rcases key with key | ⟨k1,k2⟩
 ·rw [key]
 ·have win:∀ (c:List Int),c.length=a.length→((u++c++v).drop i).take (2*R+1)=(c.drop (i-u.length)).take (2*R+1):=fun c hc=>by
   rw [List.append_assoc,List.drop_append,List.drop_eq_nil_of_le (show u.length≤i by omega),List.nil_append,List.drop_append_of_le_length (by omega),List.take_append_of_le_length (by simp; omega)]
  rw [win a rfl,win b hlen.symm]
  have e:=congrArg (fun l=>l.getD (i-u.length) 0) h.img
  rw [imgP_getD _ _ _ _ _ (by omega),imgP_getD _ _ _ _ _ (by omega)] at e
  simpa [List.getD_eq_getElem?_getD] using e
def Diag (N p:Nat):Prop:=p/N=p%N
instance (N p:Nat):Decidable (Diag N p):=by unfold Diag; exact inferInstance
theorem diag_mk {N u:Nat} (h:u<N):Diag N (u*N+u):=by unfold Diag; rw [pair_div h,pair_mod h]
theorem Diag.eq {N p:Nat} (h:Diag N p):p=p/N*N+p/N:=by
 have:=pair_eq p N
 rw [← h] at this; exact this.symm
structure ApartWay (N:Nat) (adj:Nat→List Nat) (w:List Nat):Prop where
 len:3≤w.length
 low:∀ i,i<w.length→w.getD i 0<N*N
 arr:∀ i,i+1<w.length→w.getD (i+1) 0∈adj (w.getD i 0)
 fst:Diag N (w.getD 0 0)
 lst:Diag N (w.getD (w.length-1) 0)
 inn:∀ i,0<i→i+1<w.length→¬ Diag N (w.getD i 0)
theorem last_diag {N:Nat} {W:Nat→Nat} (h0:Diag N (W 0)):∀ i,¬ Diag N (W i)→∃ k,k<i∧Diag N (W k)∧∀ j,k<j→j≤i→¬ Diag N (W j)
 | 0,h=>absurd h0 h
 | i+1,h=>by
  by_cases q:Diag N (W i)
  ·exact ⟨i,by omega,q,fun j h1 h2=>by obtain rfl:j=i+1:=by omega
                                       exact h⟩
  ·obtain ⟨k,h1,h2,h3⟩:=last_diag h0 i q
   refine ⟨k,by omega,h2,fun j h4 h5=>?_⟩
   by_cases e:j=i+1
   ·subst e; exact h
   ·exact h3 j h4 (by omega)
theorem next_diag {N:Nat} {W:Nat→Nat} {i:Nat} (h:¬ Diag N (W i)):∀ k,Diag N (W (i+k))→∃ m,i<m∧m≤i+k∧Diag N (W m)∧∀ j,i≤j→j<m→¬ Diag N (W j)
 | 0,hk=>absurd hk h
 | k+1,hk=>by
  by_cases q:∃ m,i<m∧m≤i+k∧Diag N (W m)∧∀ j,i≤j→j<m→¬ Diag N (W j)
  ·obtain ⟨m,h1,h2,h3⟩:=q
   exact ⟨m,h1,by omega,h3⟩
  ·refine ⟨i+(k+1),by omega,Nat.le_refl _,hk,fun j h1 h2 hd=>q ?_⟩
   obtain ⟨d,rfl⟩:∃ d,j=i+d:=⟨j-i,by omega⟩
   obtain ⟨m,m1,m2,m3⟩:=next_diag h d hd
   exact ⟨m,m1,by omega,m3⟩
theorem list_range_get (f:Nat→Nat) (n i:Nat) (h:i<n):((List.range n).map f).getD i 0=f i:=by simp [List.getD,h]
theorem IsTwins.way {K R:Nat} {T a b:List Int} (hK:1≤K) (hR:1≤R) (h:IsTwins K R T a b):∃ w,ApartWay (pw K (2*R)) (pairL K (pw K (2*R)) T) w∧2*R+(w.length-1)≤a.length:=by
 have hlen:=h.len
 have hlow:=h.low
 have hN:=pw_pos (K:=K) (2*R) hK
 have na:∀ i,i+2*R≤a.length→nodeAt K (2*R) a i<pw K (2*R):=fun i hi=>node_lt h.sa hi
 have nb:∀ i,i+2*R≤a.length→nodeAt K (2*R) b i<pw K (2*R):=fun i hi=>node_lt h.sb (by omega)
 obtain ⟨W,hW⟩:∃ W:Nat→Nat,W=fun i=>nodeAt K (2*R) a i*pw K (2*R)+nodeAt K (2*R) b i:=⟨_,rfl⟩
 have hWi:∀ i,W i=nodeAt K (2*R) a i*pw K (2*R)+nodeAt K (2*R) b i:=fun i=>by rw [hW]
 have dg:∀ i,i+2*R≤a.length→(Diag (pw K (2*R)) (W i)↔nodeAt K (2*R) a i=nodeAt K (2*R) b i):=fun i hi=>by
  unfold Diag; rw [hWi,pair_div (nb i hi),pair_mod (nb i hi)]
 have d0:Diag (pw K (2*R)) (W 0):=by
  rw [dg 0 (by omega)]; unfold nodeAt; rw [List.drop_zero,List.drop_zero,h.front]
 obtain ⟨n,hn⟩:∃ n,a.length=n+2*R:=⟨a.length-2*R,by omega⟩
 have dn:Diag (pw K (2*R)) (W n):=by
  rw [dg n (by omega)]; unfold nodeAt
  have:=h.back
  rw [← hlen,hn,Nat.add_sub_cancel] at this
  rw [this]
 have hex:∃ i,i≤n∧¬ Diag (pw K (2*R)) (W i):=by
  apply Classical.byContradiction
  intro hno
  have hall:∀ i,i≤n→nodeAt K (2*R) a i=nodeAt K (2*R) b i:=fun i hi=>(dg i (by omega)).1 (Classical.byContradiction fun q=>hno ⟨i,hi,q⟩)
  apply h.ne
  have hget:∀ i,i<n+1→((List.range (n+1)).map (nodeAt K (2*R) a)).getD i 0=nodeAt K (2*R) a i:=fun i hi=>list_range_get _ _ _ hi
  have e1:=along_word (F:=id) (way:=(List.range (n+1)).map (nodeAt K (2*R) a)) hK hR h.sa h.low (by simp; omega) (fun i hi=>hget i (by simpa using hi))
  have e2:=along_word (F:=id) (way:=(List.range (n+1)).map (nodeAt K (2*R) a)) hK hR h.sb (by omega) (by simp; omega) (fun i hi=>by
   have hi:i<n+1:=by simpa using hi
   show ((List.range (n+1)).map (nodeAt K (2*R) a)).getD i 0=_
   rw [hget i hi,hall i (by omega)])
  rw [← e1,e2]
 obtain ⟨i,hi,hnd⟩:=hex
 obtain ⟨k,k1,k2,k3⟩:=last_diag d0 i hnd
 obtain ⟨m,m1,m2,m3,m4⟩:=next_diag hnd (n-i) (by rw [show i+(n-i)=n by omega]; exact dn)
 have hget:∀ j,j<m-k+1→((List.range (m-k+1)).map fun j=>W (k+j)).getD j 0=W (k+j):=fun j hj=>list_range_get _ _ _ hj
 refine ⟨(List.range (m-k+1)).map fun j=>W (k+j),⟨by simp; omega,fun j hj=>?_,fun j hj=>?_,?_,?_,fun j j0 j1=>?_⟩,by simp; omega⟩
 ·rw [hget j (by simpa using hj),hWi]
  have:j<m-k+1:=by simpa using hj
  exact pair_lt (na _ (by omega)) (nb _ (by omega))
 ·have hj:j+1<m-k+1:=by simpa using hj
  rw [hget j (by omega),hget (j+1) hj,mem_pairL (by omega),hWi,hWi,pair_div (nb _ (by omega)),pair_mod (nb _ (by omega)),← Nat.add_assoc]
  exact wayW_arr h.sa h.sb hlen h.img (by omega)
 ·rw [hget 0 (by omega)]; exact k2
 ·rw [List.length_map,List.length_range,Nat.add_sub_cancel,hget _ (by omega),show k+(m-k)=m by omega]; exact m3
 ·have hj:j+1<m-k+1:=by simpa using j1
  rw [hget j (by omega)]
  by_cases q:k+j≤i
  ·exact k3 _ (by omega) q
  ·exact m4 _ (by omega) (by omega)
theorem ways_words {K R:Nat} {T:List Int} {w:List Nat} (hK:1≤K) (hR:1≤R) (hw:1≤w.length) (low:∀ i,i<w.length→w.getD i 0<pw K (2*R)*pw K (2*R))
 (arr:∀ i,i+1<w.length→w.getD (i+1) 0∈pairL K (pw K (2*R)) T (w.getD i 0)) :
 (∀ i,i<w.length→nodeAt K (2*R) (alongW K (2*R) (·/pw K (2*R)) w) i=w.getD i 0/pw K (2*R)∧nodeAt K (2*R) (alongW K (2*R) (·%pw K (2*R)) w) i=w.getD i 0%pw K (2*R)) ∧
 imgP K R T (alongW K (2*R) (·/pw K (2*R)) w)=imgP K R T (alongW K (2*R) (·%pw K (2*R)) w):=by
 have hN:=pw_pos (K:=K) (2*R) hK
 have fits:∀ i,i+1<w.length→StepFits K (pw K (2*R)) T (w.getD i 0) (w.getD (i+1) 0):=fun i hi =>
  (fits_iff hK hR (low _ hi)).2 ((mem_pairL (by omega)).1 (arr i hi))
 have n1:=along_node (K:=K) (m:=2*R) (F:=(·/pw K (2*R))) (way:=w) hK (div_lt_of (low 0 (by omega))) (fun i hi=>(fits i hi).1)
 have n2:=along_node (K:=K) (m:=2*R) (F:=(·%pw K (2*R))) (way:=w) hK (Nat.mod_lt _ (by omega)) (fun i hi=>(fits i hi).2.1)
 refine ⟨fun i hi=>⟨n1 i hi,n2 i hi⟩,?_⟩
 rw [img_eq (by rw [alongW_len,alongW_len])]
 intro i hi
 rw [alongW_len] at hi
 rw [n1 i (by omega),n2 i (by omega),alongW_get (by omega),alongW_get (by omega),Int.toNat_natCast,Int.toNat_natCast]
 exact (fits i (by omega)).2.2
theorem ApartWay.twins {K R:Nat} {T:List Int} {w:List Nat} (hK:1≤K) (hR:1≤R) (h:ApartWay (pw K (2*R)) (pairL K (pw K (2*R)) T) w) :
 IsTwins K R T (alongW K (2*R) (·/pw K (2*R)) w) (alongW K (2*R) (·%pw K (2*R)) w):=by
 have hN:=pw_pos (K:=K) (2*R) hK
 have h3:=h.len
 obtain ⟨hn,hi⟩:=ways_words hK hR (by omega) h.low h.arr
 have la:=alongW_len K (2*R) (·/pw K (2*R)) w
 have lb:=alongW_len K (2*R) (·%pw K (2*R)) w
 have sa:=alongW_syms (m:=2*R) hK (·/pw K (2*R)) w
 have sb:=alongW_syms (m:=2*R) hK (·%pw K (2*R)) w
 generalize alongW K (2*R) (·/pw K (2*R)) w=a at *
 generalize alongW K (2*R) (·%pw K (2*R)) w=b at *
 have same:∀ i,i<w.length→Diag (pw K (2*R)) (w.getD i 0)→(a.drop i).take (2*R)=(b.drop i).take (2*R):=fun i hi hd=>by
  obtain ⟨e1,e2⟩:=hn i hi
  have q1:=digs_numW hK _ (syms_take (syms_drop sa i) (2*R))
  have q2:=digs_numW hK _ (syms_take (syms_drop sb i) (2*R))
  rw [show ((a.drop i).take (2*R)).length=2*R by simp; omega] at q1
  rw [show ((b.drop i).take (2*R)).length=2*R by simp; omega] at q2
  rw [← q1,← q2]
  show digs K (2*R) (nodeAt K (2*R) a i)=digs K (2*R) (nodeAt K (2*R) b i)
  rw [e1,e2,hd]
 refine ⟨sa,sb,by omega,fun e=>?_,by omega,?_,?_,hi⟩
 ·subst e
  obtain ⟨e1,e2⟩:=hn 1 (by omega)
  exact h.inn 1 (by omega) (by omega) (e1.symm.trans e2)
 ·have:=same 0 (by omega) h.fst
  simpa using this
 ·have:=same (w.length-1) (by omega) h.lst
  rw [List.take_of_length_le (by simp; omega),List.take_of_length_le (by simp; omega)] at this
  rw [show a.length-2*R=w.length-1 by omega,show b.length-2*R=w.length-1 by omega]
  exact this
def TwinLen (K R:Nat) (T:List Int) (n:Nat):Prop:=(∃ a b,IsTwins K R T a b∧a.length=n)∧∀ a b,IsTwins K R T a b→n≤a.length
theorem TwinLen.unique {K R:Nat} {T:List Int} {n m:Nat} (h:TwinLen K R T n) (k:TwinLen K R T m):n=m:=by
 obtain ⟨⟨a,b,h1,rfl⟩,h2⟩:=h
 obtain ⟨⟨c,d,k1,rfl⟩,k2⟩:=k
 exact Nat.le_antisymm (h2 _ _ k1) (k2 _ _ h1)
theorem way_twinLen {K R:Nat} {T:List Int} {w:List Nat} (hK:1≤K) (hR:1≤R) (h:ApartWay (pw K (2*R)) (pairL K (pw K (2*R)) T) w)
 (hm:∀ u,ApartWay (pw K (2*R)) (pairL K (pw K (2*R)) T) u→w.length≤u.length):TwinLen K R T (2*R+(w.length-1)):=by
 refine ⟨⟨_,_,h.twins hK hR,alongW_len ..⟩,fun a b hab=>?_⟩
 obtain ⟨u,hu,hl⟩:=hab.way hK hR
 have:=hm u hu
 omega
theorem no_twins {K R:Nat} {T:List Int} (hK:1≤K) (hR:1≤R) (hm:∀ u,¬ ApartWay (pw K (2*R)) (pairL K (pw K (2*R)) T) u) (a b:List Int):¬ IsTwins K R T a b:=fun h=>by
 obtain ⟨u,hu,_⟩:=h.way hK hR
 exact hm u hu
theorem emod_nat {a:Int} {n:Nat} (hn:1≤n):∃ m:Nat,m<n∧a%(n:Int)=m:=by
 have h1:=Int.emod_nonneg a (show (n:Int)≠0 by omega)
 have h2:=Int.emod_lt_of_pos a (show (0:Int)<n by omega)
 exact ⟨(a%(n:Int)).toNat,by omega,by omega⟩
theorem getD_syms {K:Int} {x:List Int} (h:Syms K x) {i:Nat} (hi:i<x.length):0≤x.getD i 0∧x.getD i 0<K:=by
 have e:x.getD i 0=x[i]:=by simp [List.getD,hi]
 rw [e]; exact h _ (List.getElem_mem hi)
def ringX (R:Nat) (w:List Int):List Int:=(List.range (w.length+2*R)).map fun t:Nat=>w.getD (((t:Int)-R)%(w.length:Int)).toNat 0
theorem ringX_len (R:Nat) (w:List Int):(ringX R w).length=w.length+2*R:=by simp [ringX]
def ringI (K R:Nat) (T w:List Int):List Int:=imgP K R T (ringX R w)
theorem ringI_len (K R:Nat) (T w:List Int):(ringI K R T w).length=w.length:=by unfold ringI; rw [imgP_length,ringX_len]; omega
theorem ringX_syms {K:Int} {R:Nat} {w:List Int} (h:Syms K w) (hl:1≤w.length):Syms K (ringX R w):=by
 intro x hx
 obtain ⟨t,_,rfl⟩:=List.mem_map.1 hx
 obtain ⟨m,hm,e⟩:=emod_nat (a:=(t:Int)-R) hl
 rw [e,Int.toNat_natCast]; exact getD_syms h hm
def FirstIs (img:Nat→List Int) (m a b:Nat):Prop:=a<b∧b<m∧img a=img b∧∀ x y,x<y→y<b→img x≠img y
theorem FirstIs.unique {img:Nat→List Int} {m a b c d:Nat} (h:FirstIs img m a b) (k:FirstIs img m c d):a=c∧b=d:=by
 obtain ⟨h1,h2,h3,h4⟩:=h
 obtain ⟨k1,k2,k3,k4⟩:=k
 have e:b=d:=by
  rcases Nat.lt_trichotomy b d with e | e | e
  ·exact absurd h3 (k4 a b h1 e)
  ·exact e
  ·exact absurd k3 (h4 c d k1 e)
 subst e
 refine ⟨?_,rfl⟩
 rcases Nat.lt_trichotomy a c with e | e | e
 ·exact absurd (h3.trans k3.symm) (h4 a c e k1)
 ·exact e
 ·exact absurd (k3.trans h3.symm) (h4 c a e h1)
def wideT (K R d:Nat) (T:List Int):List Int:=(List.range (pw K (2*(R+d)+1))).map fun i=>T.getD (numW K (((digs K (2*(R+d)+1) i).drop d).take (2*R+1))) 0
theorem wideT_length (K R d:Nat) (T:List Int):(wideT K R d T).length=pw K (2*(R+d)+1):=by simp [wideT]
theorem wideT_ok {K R d:Nat} {T:List Int} (h:RuleOk K R T) (hd:R+d≤3):RuleOk K (R+d) (wideT K R d T) :=
 ⟨h.k1,h.k4,hd,wideT_length ..,fun y hy=>by
   obtain ⟨i,_,rfl⟩:=List.mem_map.1 hy
   exact h.syms.getD (by have:=h.k1; omega) _⟩
theorem wideT_at {K R d:Nat} {T:List Int} (hK:1≤K) (w:List Int) (hw:Syms K w) (hl:w.length=2*(R+d)+1):(wideT K R d T).getD (numW K w) 0=T.getD (numW K ((w.drop d).take (2*R+1))) 0:=by
 have hlt:=numW_lt w hw
 rw [hl] at hlt
 have:(wideT K R d T).getD (numW K w) 0=T.getD (numW K (((digs K (2*(R+d)+1) (numW K w)).drop d).take (2*R+1))) 0:=by simp [wideT,List.getD,hlt]
 rw [this,← hl,digs_numW hK w hw]
theorem img_wide {K R d:Nat} {T:List Int} (hK:1≤K) (x:List Int) (hx:Syms K x):imgP K (R+d) (wideT K R d T) x=imgP K R T ((x.drop d).take (x.length-2*d)):=by
 refine List.ext_getElem (by rw [imgP_length,imgP_length]; simp; omega) fun i h1 h2=>?_
 have e1:=imgP_getD K (R+d) (wideT K R d T) x i (by rw [imgP_length] at h1; exact h1)
 have e2:=imgP_getD K R T ((x.drop d).take (x.length-2*d)) i (by rw [imgP_length] at h2; exact h2)
 rw [imgP_length] at h1
 rw [List.getD_eq_getElem?_getD,List.getElem?_eq_getElem (by rw [imgP_length]; exact h1),Option.getD_some] at e1
 rw [List.getD_eq_getElem?_getD,List.getElem?_eq_getElem h2,Option.getD_some] at e2
 rw [e1,e2,wideT_at hK _ (syms_take (syms_drop hx i) _) (by simp; omega)]
 congr 2
 rw [List.drop_take,List.take_take,List.drop_drop,List.drop_take,List.drop_drop,List.take_take,Nat.add_comm d i]
 congr 1
 omega
def cellA {α:Type} (d:α) (L C Q:List α) (i:Int):α :=
 if i<0 then L.getD (i%(L.length:Int)).toNat d
 else if i<C.length then C.getD i.toNat d
 else Q.getD ((i-C.length)%(Q.length:Int)).toNat d
theorem emod_next {a:Int} {n j:Nat} (hn:1≤n) (h:a%(n:Int)=j):(a+1)%(n:Int)=if j+1<n then ((j+1:Nat):Int) else 0:=by
 have h1:=Int.emod_lt_of_pos a (show (0:Int)<n by omega)
 have e:(a+1)%(n:Int)=(((a%n)+1)%n):=by rw [Int.emod_add_emod]
 rw [e,h]
 split
 ·exact Int.emod_eq_of_lt (by omega) (by omega)
 ·rw [show (j:Int)+1=n by omega]; exact Int.emod_self
structure Bi (adj:Nat→List Nat) (L C Q:List Nat):Prop where
 l1:1≤L.length
 c1:1≤C.length
 q1:1≤Q.length
 sL:∀ j,j+1<L.length→L.getD (j+1) 0∈adj (L.getD j 0)
 eL:L.getD 0 0∈adj (L.getD (L.length-1) 0)
 fC:C.getD 0 0=L.getD 0 0
 sC:∀ j,j+1<C.length→C.getD (j+1) 0∈adj (C.getD j 0)
 eC:Q.getD 0 0∈adj (C.getD (C.length-1) 0)
 sQ:∀ j,j+1<Q.length→Q.getD (j+1) 0∈adj (Q.getD j 0)
 eQ:Q.getD (Q.length-1) 0=C.getD (C.length-1) 0
theorem Bi.step {adj:Nat→List Nat} {L C Q:List Nat} (h:Bi adj L C Q) (i:Int):cellA 0 L C Q (i+1)∈adj (cellA 0 L C Q i):=by
 have l1:=h.l1
 have c1:=h.c1
 have q1:=h.q1
 unfold cellA
 by_cases h0:i<0
 ·rw [if_pos h0]
  obtain ⟨j,hj,e⟩:=emod_nat (a:=i) l1
  have e2:=emod_next l1 e
  rw [e,Int.toNat_natCast]
  by_cases h1:i+1<0
  ·rw [if_pos h1,e2]
   split
   ·rename_i hlt; rw [Int.toNat_natCast]; exact h.sL j hlt
   ·obtain rfl:j=L.length-1:=by omega
    exact h.eL
  ·rw [if_neg h1,if_pos (by omega),show (i+1).toNat=0 by omega,h.fC]
   have:i=-1:=by omega
   subst this
   have e3:(-1:Int)+1=0:=rfl
   rw [e3,Int.zero_emod] at e2
   have:j=L.length-1:=by
    split at e2
    ·omega
    ·omega
   subst this
   exact h.eL
 ·rw [if_neg h0,if_neg (show ¬ i+1<0 by omega)]
  by_cases h1:i<C.length
  ·rw [if_pos h1]
   by_cases h2:i+1<C.length
   ·rw [if_pos h2,show (i+1).toNat=i.toNat+1 by omega]; exact h.sC _ (by omega)
   ·rw [if_neg h2,show i+1-(C.length:Int)=0 by omega,Int.zero_emod]
    have:=h.eC
    rw [show i.toNat=C.length-1 by omega]
    exact this
  ·rw [if_neg h1,if_neg (show ¬ i+1<C.length by omega)]
   obtain ⟨j,hj,e⟩:=emod_nat (a:=i-C.length) q1
   have e2:=emod_next q1 e
   rw [show i+1-(C.length:Int)=i-C.length+1 by omega,e2,e,Int.toNat_natCast]
   split
   ·rename_i hlt; rw [Int.toNat_natCast]; exact h.sQ j hlt
   ·obtain rfl:j=Q.length-1:=by omega
    rw [h.eQ]; exact h.eC
def winF (A:Int→Int) (i:Int) (m:Nat):List Int:=(List.range m).map fun t:Nat=>A (i+1+t)
def imgC (K R:Nat) (T:List Int) (A:Int→Int) (j:Int):Int:=T.getD (numW K (winF A (j-R-1) (2*R+1))) 0
def pieceF (A:Int→Int) (f:Int) (n:Nat):List Int:=(List.range n).map fun i:Nat=>A (f+i)
theorem pieceF_win {A:Int→Int} {f:Int} {n i m:Nat} (h:i+m≤n):((pieceF A f n).drop i).take m=winF A (f+i-1) m:=by
 refine List.ext_getElem (by simp [pieceF,winF]; omega) fun t h1 h2=>?_
 simp only [pieceF,winF,List.getElem_take,List.getElem_drop,List.getElem_map,List.getElem_range]
 congr 1
 omega
theorem img_piece {K R:Nat} {T:List Int} {A:Int→Int} {f:Int} {n:Nat}:imgP K R T (pieceF A f n)=pieceF (imgC K R T A) (f+R) (n-2*R):=by
 have hl:(pieceF A f n).length=n:=by simp [pieceF]
 refine List.ext_getElem (by rw [imgP_length,hl]; simp [pieceF]) fun i h1 h2=>?_
 have h1':=h1
 rw [imgP_length,hl] at h1'
 have gd:∀ {l:List Int} {j:Nat} (h:j<l.length),l[j]=l.getD j 0:=fun h=>by simp [List.getD,h]
 rw [gd h1,imgP_getD _ _ _ _ _ (by rw [hl]; exact h1'),pieceF_win (by omega)]
 simp only [pieceF,List.getElem_map,List.getElem_range]
 unfold imgC
 rw [show f+(R:Int)+i-R-1=f+i-1 by omega]
theorem sub_get {x:List Int} {i m j:Nat} (h:j<m):((x.drop i).take m).getD j 0=x.getD (i+j) 0:=by
 simp [List.getD,h,List.getElem?_drop]
theorem ext_getD {a b:List Int} (hl:a.length=b.length) (h:∀ t,t<a.length→a.getD t 0=b.getD t 0):a=b :=
 List.ext_getElem hl fun t h1 h2=>by have:=h t h1; simpa [List.getD,h1,h2] using this
theorem ne_at {a b:List Int} (hl:a.length=b.length) (hne:a≠b):∃ j,j<a.length∧a.getD j 0≠b.getD j 0:=by
 apply Classical.byContradiction
 intro h
 exact hne (ext_getD hl fun t ht=>Classical.byContradiction fun q=>h ⟨t,ht,q⟩)
theorem img_cut {K R:Nat} {T x:List Int} {i m:Nat} (h:i+m≤x.length):imgP K R T ((x.drop i).take m)=((imgP K R T x).drop i).take (m-2*R):=by
 have hl:((x.drop i).take m).length=m:=by simp; omega
 refine ext_getD (by simp only [imgP_length,hl,List.length_take,List.length_drop]; omega) fun t ht=>?_
 rw [imgP_length,hl] at ht
 rw [imgP_getD _ _ _ _ _ (by rw [hl]; exact ht),sub_get ht,imgP_getD _ _ _ _ _ (by omega)]
 congr 2
 rw [List.drop_take,List.take_take,List.drop_drop,Nat.min_eq_left (by omega)]
def Split (K R:Nat) (T:List Int) (n:Nat):Prop:=∃ x y,Syms K x∧Syms K y∧x.length=2*n+1∧y.length=2*n+1∧x.getD n 0≠y.getD n 0∧imgP K R T x=imgP K R T y
def NotOne (K R:Nat) (T:List Int):Prop:=∀ n,Split K R T n
theorem split_of {K R:Nat} {T x y:List Int} (sx:Syms K x) (sy:Syms K y) (hl:x.length=y.length) {j n:Nat} (h1:n≤j) (h2:j+n<x.length) (hne:x.getD j 0≠y.getD j 0)
 (hi:imgP K R T ((x.drop (j-n)).take (2*n+1))=imgP K R T ((y.drop (j-n)).take (2*n+1))):Split K R T n :=
 ⟨_,_,syms_take (syms_drop sx _) _,syms_take (syms_drop sy _) _,by simp; omega,by simp; omega,by
   rw [sub_get (by omega),sub_get (by omega),show j-n+n=j by omega]; exact hne,hi⟩
theorem split_img {K R:Nat} {T x y:List Int} (sx:Syms K x) (sy:Syms K y) (hl:x.length=y.length) {j n:Nat} (h1:n≤j) (h2:j+n<x.length) (hne:x.getD j 0≠y.getD j 0)
 (hi:imgP K R T x=imgP K R T y):Split K R T n :=
 split_of sx sy hl h1 h2 hne (by rw [img_cut (by omega),img_cut (by omega),hi])
theorem Split.mono {K R:Nat} {T:List Int} {n m:Nat} (h:Split K R T n) (hm:m≤n):Split K R T m:=by
 obtain ⟨x,y,sx,sy,lx,ly,hne,hi⟩:=h
 exact split_img sx sy (by omega) (j:=n) hm (by omega) hne hi
theorem pad_get {z a v:List Int} {n j:Nat} (hz:z.length=n) (hj:j<a.length):(z++a++v).getD (n+j) 0=a.getD j 0:=by
 subst hz
 rw [List.append_assoc,List.getD_eq_getElem?_getD,List.getElem?_append_right (by omega),Nat.add_sub_cancel_left,List.getElem?_append_left hj,← List.getD_eq_getElem?_getD]
theorem syms_pad {K:Nat} (hK:1≤K) {a:List Int} (h:Syms K a) (n m:Nat):Syms K (List.replicate n 0++a++List.replicate m 0):=by
 intro y hy
 rcases List.mem_append.1 hy with hy | hy
 ·rcases List.mem_append.1 hy with hy | hy
  ·rw [List.eq_of_mem_replicate hy]; omega
  ·exact h y hy
 ·rw [List.eq_of_mem_replicate hy]; omega
theorem notOne_wide {K R d:Nat} {T:List Int} (hK:1≤K):NotOne K (R+d) (wideT K R d T)↔NotOne K R T:=by
 constructor
 ·intro h n
  obtain ⟨x,y,sx,sy,lx,ly,hne,e⟩:=h (n+d)
  rw [img_wide hK x sx,img_wide hK y sy] at e
  refine ⟨_,_,syms_take (syms_drop sx d) _,syms_take (syms_drop sy d) _,by simp; omega,by simp; omega,?_,e⟩
  rw [sub_get (by omega),sub_get (by omega),Nat.add_comm d n]
  exact hne
 ·intro h n
  obtain ⟨x,y,sx,sy,lx,ly,hne,e⟩:=h n
  have mid:∀ u:List Int,((List.replicate d (0:Int)++u++List.replicate d 0).drop d).take ((List.replicate d (0:Int)++u++List.replicate d 0).length-2*d)=u:=fun u=>by
   rw [List.append_assoc,List.drop_left' (by simp),List.take_left' (by simp; omega)]
  refine Split.mono (n:=n+d) ⟨_,_,syms_pad hK sx d d,syms_pad hK sy d d,by simp; omega,by simp; omega,?_,?_⟩ (by omega)
  ·rw [Nat.add_comm n d,pad_get (by simp) (by omega),pad_get (by simp) (by omega)]
   exact hne
  ·rw [img_wide hK _ (syms_pad hK sx d d),img_wide hK _ (syms_pad hK sy d d),mid,mid,e]
def Onto (K R:Nat) (T:List Int):Prop:=∀ y,Syms K y→∃ x,Syms K x∧x.length=y.length+2*R∧imgP K R T x=y
def wordsL (K m:Nat):List (List Int):=(List.range (pw K m)).map (digs K m)
theorem wordsL_len (K m:Nat):(wordsL K m).length=pw K m:=by simp [wordsL]
theorem mem_wordsL {K m:Nat} (hK:1≤K) {x:List Int}:x∈wordsL K m↔Syms K x∧x.length=m:=by
 unfold wordsL
 rw [List.mem_map]
 constructor
 ·rintro ⟨i,_,rfl⟩
  exact ⟨digs_syms hK _ _,digs_length ..⟩
 ·rintro ⟨hx,rfl⟩
  exact ⟨numW K x,List.mem_range.2 (numW_lt x hx),digs_numW hK x hx⟩
theorem wordsL_nodup {K m:Nat} (hK:1≤K):(wordsL K m).Nodup:=by
 unfold wordsL
 refine List.pairwise_map.2 (List.Pairwise.imp_of_mem ?_ List.nodup_range)
 intro a b ha hb hne e
 have h:=congrArg (numW K) e
 rw [numW_digs hK _ _ (List.mem_range.1 ha),numW_digs hK _ _ (List.mem_range.1 hb)] at h
 exact hne h
theorem pw_mul (K m k:Nat):pw K (k*m)=pw K m ^ k:=by
 induction k with
 | zero=>simp [pw_zero]
 | succ k ih=>rw [Nat.succ_mul,pw_add,ih,Nat.pow_succ]
theorem bernoulli (Q k:Nat):Q ^ (k+1)+(k+1)*Q ^ k≤(Q+1) ^ (k+1):=by
 induction k with
 | zero=>simp
 | succ k ih =>
  have h1:=Nat.mul_le_mul_right (Q+1) ih
  rw [← Nat.pow_succ] at h1
  refine Nat.le_trans ?_ h1
  have e1:Q ^ (k+1+1)=Q ^ (k+1)*Q:=Nat.pow_succ ..
  have e2:Q ^ (k+1)=Q ^ k*Q:=Nat.pow_succ ..
  have e3:(Q ^ (k+1)+(k+1)*Q ^ k)*(Q+1)=Q ^ (k+1)*Q+Q ^ (k+1)+((k+1)*(Q ^ k*Q)+(k+1)*Q ^ k):=by
   rw [Nat.add_mul,Nat.mul_add,Nat.mul_one,Nat.mul_add,Nat.mul_one,Nat.mul_assoc]
  rw [e3,e1,← e2,Nat.add_mul (k+1) 1,Nat.one_mul]
  omega
theorem few (P C:Nat) (hP:1≤P):∃ k,(P-1) ^ k*C<P ^ k:=by
 obtain ⟨Q,rfl⟩:∃ Q,P=Q+1:=⟨P-1,by omega⟩
 rw [Nat.add_sub_cancel]
 refine ⟨C*Q+1,Nat.lt_of_lt_of_le ?_ (bernoulli Q (C*Q))⟩
 rcases Nat.eq_zero_or_pos Q with rfl | hQ
 ·simp
 ·have hp:0<Q ^ (C*Q):=Nat.pow_pos hQ
  have e:Q ^ (C*Q+1)*C=Q ^ (C*Q)*(C*Q):=by rw [Nat.pow_succ,Nat.mul_assoc,Nat.mul_comm Q C]
  have e2:(C*Q+1)*Q ^ (C*Q)=Q ^ (C*Q)*(C*Q)+Q ^ (C*Q):=by rw [Nat.add_mul,Nat.one_mul,Nat.mul_comm]
  rw [e,e2]
  omega
def avoid (K m c:Nat) (o:List Int):Nat→List (List Int)
 | 0=>wordsL K c
 | k+1=>((wordsL K m).erase o).flatMap fun b=>(avoid K m c o k).map (b++·)
theorem flatMap_len {α β:Type} (f:α→List β) (n:Nat):∀ (l:List α),(∀ a∈l,(f a).length=n)→(l.flatMap f).length=l.length*n
 | [],_=>by simp
 | a::l,h=>by
  rw [List.flatMap_cons,List.length_append,h a (by simp),flatMap_len f n l fun b hb=>h b (by simp [hb]),List.length_cons,Nat.succ_mul,Nat.add_comm]
theorem avoid_len {K m c:Nat} {o:List Int} (ho:o∈wordsL K m):∀ k,(avoid K m c o k).length=(pw K m-1) ^ k*pw K c
 | 0=>by simp [avoid,wordsL_len]
 | k+1=>by
  rw [avoid,flatMap_len _ ((pw K m-1) ^ k*pw K c) _ fun b _=>by rw [List.length_map,avoid_len ho k],List.length_erase_of_mem ho,wordsL_len,← Nat.mul_assoc,Nat.mul_comm (pw K m-1),← Nat.pow_succ]
theorem mem_avoid {K m c:Nat} (hK:1≤K) {o:List Int}:∀ (k:Nat) (y:List Int),Syms K y→y.length=k*m+c→(∀ i,i<k→(y.drop (i*m)).take m≠o)→y∈avoid K m c o k
 | 0,y,hy,hl,_=>(mem_wordsL hK).2 ⟨hy,by omega⟩
 | k+1,y,hy,hl,h=>by
  rw [avoid,List.mem_flatMap]
  rw [Nat.succ_mul] at hl
  refine ⟨y.take m,(List.mem_erase_of_ne (by simpa using h 0 (by omega))).2 ((mem_wordsL hK).2 ⟨syms_take hy _,by simp; omega⟩),List.mem_map.2 ⟨y.drop m,mem_avoid hK k _ (syms_drop hy _) (by simp; omega) fun i hi=>?_,List.take_append_drop ..⟩⟩
  have:=h (i+1) (by omega)
  rwa [Nat.succ_mul,Nat.add_comm,← List.drop_drop] at this
theorem onto_of_no_twins {K R:Nat} {T:List Int} (h:RuleOk K R T) (hno:∀ a b,¬ IsTwins K R T a b):Onto K R T:=by
 intro o so
 apply Classical.byContradiction
 intro hor
 have hK:=h.k1
 obtain ⟨k,hk⟩:=few (pw K o.length) (pw K (2*R)) (pw_pos _ hK)
 have hom:o∈wordsL K o.length:=(mem_wordsL hK).2 ⟨so,rfl⟩
 have hsub:(wordsL K (k*o.length)).map (fun u=>imgP K R T (List.replicate (2*R) 0++u++List.replicate (2*R) 0)) ⊆ avoid K o.length (2*R) o k:=by
  intro y hy
  obtain ⟨u,hu,rfl⟩:=List.mem_map.1 hy
  obtain ⟨su,lu⟩:=(mem_wordsL hK).1 hu
  have hpl:(List.replicate (2*R) (0:Int)++u++List.replicate (2*R) 0).length=k*o.length+4*R:=by simp only [List.length_append,List.length_replicate,lu]; omega
  refine mem_avoid hK k _ (imgP_syms hK h.syms) (by rw [imgP_length,hpl]; omega) fun i hi e=>hor ?_
  have him:i*o.length+o.length≤k*o.length:=by rw [← Nat.succ_mul]; exact Nat.mul_le_mul_right _ hi
  have hc:=img_cut (K:=K) (R:=R) (T:=T) (x:=List.replicate (2*R) (0:Int)++u++List.replicate (2*R) 0) (i:=i*o.length) (m:=o.length+2*R) (by rw [hpl]; omega)
  rw [Nat.add_sub_cancel,e] at hc
  exact ⟨_,syms_take (syms_drop (syms_pad hK su _ _) _) _,by rw [List.length_take,List.length_drop,hpl]; omega,hc⟩
 have hnd:((wordsL K (k*o.length)).map (fun u=>imgP K R T (List.replicate (2*R) 0++u++List.replicate (2*R) 0))).Nodup:=by
  refine List.pairwise_map.2 (List.Pairwise.imp_of_mem ?_ (wordsL_nodup hK))
  intro u v hu hv hne e
  obtain ⟨su,lu⟩:=(mem_wordsL hK).1 hu
  obtain ⟨sv,lv⟩:=(mem_wordsL hK).1 hv
  refine hno _ _ ⟨syms_pad hK su _ _,syms_pad hK sv _ _,by simp [lu,lv],fun e=>hne ?_,by simp only [List.length_append,List.length_replicate]; omega,?_,?_,e⟩
  ·rw [List.append_assoc,List.append_assoc] at e
   exact List.append_cancel_right (List.append_cancel_left e)
  ·rw [List.append_assoc,List.append_assoc,List.take_left' (by simp),List.take_left' (by simp)]
  ·rw [List.drop_left' (by simp only [List.length_append,List.length_replicate]; omega),List.drop_left' (by simp only [List.length_append,List.length_replicate]; omega)]
 have:=nodup_sub hnd hsub
 rw [List.length_map,wordsL_len,avoid_len hom,pw_mul] at this
 omega
theorem ringX_get {R:Nat} {w:List Int} {t:Nat} (h:t<w.length+2*R):(ringX R w).getD t 0=w.getD (((t:Int)-R)%(w.length:Int)).toNat 0:=by
 simp [ringX,List.getD,h]
def perA (w:List Int) (i:Int):Int:=w.getD (i%(w.length:Int)).toNat 0
theorem ringX_per (R:Nat) (w:List Int):ringX R w=pieceF (perA w) (-(R:Int)) (w.length+2*R):=by
 unfold ringX pieceF perA
 refine List.map_congr_left fun t _=>?_
 rw [show -(R:Int)+(t:Nat)=(t:Int)-R by omega]
theorem perA_syms {K:Int} {w:List Int} (h:Syms K w) (hl:1≤w.length) (i:Int):0≤perA w i∧perA w i<K:=by
 unfold perA
 obtain ⟨m,hm,e⟩:=emod_nat (a:=i) hl
 rw [e,Int.toNat_natCast]
 exact getD_syms h hm
theorem ringI_per {K R:Nat} {T w:List Int}:ringI K R T w=pieceF (imgC K R T (perA w)) 0 w.length:=by
 unfold ringI
 rw [ringX_per,img_piece,show -(R:Int)+R=0 by omega,show w.length+2*R-2*R=w.length by omega]
theorem imgC_per {K R:Nat} {T w:List Int} (j:Int):imgC K R T (perA w) j=imgC K R T (perA w) (j%(w.length:Int)):=by
 unfold imgC winF
 congr 2
 refine List.map_congr_left fun t _=>?_
 unfold perA
 congr 2
 have:j-R-1+1+(t:Nat)=(j%(w.length:Int)-R-1+1+(t:Nat))+(w.length:Int)*(j/(w.length:Int)):=by
  have:=Int.emod_add_mul_ediv j (w.length:Int)
  omega
 rw [this,Int.add_mul_emod_self_left]
theorem ring_notOne {K R:Nat} {T x y:List Int} (sx:Syms K x) (sy:Syms K y) (hl:x.length=y.length) (h1:1≤x.length) (hne:x≠y) (hi:ringI K R T x=ringI K R T y):NotOne K R T:=by
 obtain ⟨s,hs,hd⟩:=ne_at hl hne
 have key:∀ j,imgC K R T (perA x) j=imgC K R T (perA y) j:=fun j=>by
  rw [imgC_per j,imgC_per (w:=y) j,← hl]
  obtain ⟨m,hm,e⟩:=emod_nat (a:=j) h1
  rw [e]
  rw [ringI_per,ringI_per,← hl] at hi
  have:=congrArg (fun l=>l.getD m 0) hi
  simpa [pieceF,List.getD,hm] using this
 intro n
 have mid:∀ w:List Int,w.length=x.length→(pieceF (perA w) ((s:Int)-n) (2*n+1)).getD n 0=w.getD s 0:=fun w hw=>by
  have:(pieceF (perA w) ((s:Int)-n) (2*n+1)).getD n 0=perA w ((s:Int)-n+n):=by simp [pieceF,List.getD,show n<2*n+1 by omega]
  rw [this,show (s:Int)-n+n=s by omega]
  unfold perA
  rw [hw,← Int.natCast_emod,Int.toNat_natCast,Nat.mod_eq_of_lt hs]
 have sym:∀ w:List Int,Syms K w→1≤w.length→Syms K (pieceF (perA w) ((s:Int)-n) (2*n+1)):=fun w hw hl z hz=>by
  obtain ⟨i,_,rfl⟩:=List.mem_map.1 hz
  exact perA_syms hw hl _
 refine ⟨pieceF (perA x) ((s:Int)-n) (2*n+1),pieceF (perA y) ((s:Int)-n) (2*n+1),sym x sx h1,sym y sy (by omega),by simp [pieceF],by simp [pieceF],?_,?_⟩
 ·rw [mid x rfl,mid y hl.symm]; exact hd
 ·rw [img_piece,img_piece]
  exact congrFun (congrFun (congrArg pieceF (funext key)) _) _
def compl (K N:Nat) (T:List Int):Nat→List Int→List (List Int)
 | _,[]=>[[]]
 | node,y::ws=>(List.range K).flatMap fun s=>if T.getD (node*K+s) 0=y then (compl K N T ((node*K+s)%N) ws).map (fun c=>(s:Int)::c) else []
def complU (K N:Nat) (T:List Int) (node:Nat) (y:Int) (ws:List Int) (t:Nat):List (List Int) :=
 (List.range t).flatMap fun s=>if T.getD (node*K+s) 0=y then (compl K N T ((node*K+s)%N) ws).map (fun c=>(s:Int)::c) else []
theorem compl_cons (K N:Nat) (T:List Int) (node:Nat) (y:Int) (ws:List Int):compl K N T node (y::ws)=complU K N T node y ws K:=rfl
def allBefore (K R:Nat) (T ws:List Int) (n:Nat):List (List Int):=(List.range n).flatMap fun node=>(compl K (pw K (2*R)) T node ws).map fun c=>digs K (2*R) node++c
def begins (n:Nat) (ends l:List Int):Bool:=decide (n≤l.length)&&decide (l.take n=ends)
theorem mem_compl {K R:Nat} {T:List Int} (_hK:1≤K) (ws:List Int):∀ (u:List Int),Syms K u→u.length=2*R→∀ c,c∈compl K (pw K (2*R)) T (numW K u) ws↔Syms K c∧c.length=ws.length∧imgP K R T (u++c)=ws:=by
 induction ws with
 | nil =>
  intro u su lu c
  show c∈[[]]↔_
  rw [List.mem_singleton]
  constructor
  ·rintro rfl
   exact ⟨fun x hx=>(by cases hx),rfl,List.eq_nil_of_length_eq_zero (by rw [imgP_length]; simp [lu])⟩
  ·rintro ⟨_,h,_⟩
   exact List.eq_nil_of_length_eq_zero h
 | cons y ws ih =>
  intro u su lu c
  -- the front behind one more symbol
  have front:∀ s:Int,0≤s→s<K→∃ x0 u',u++[s]=x0::u'∧Syms K u'∧u'.length=2*R∧numW K u'=(numW K u*K+s.toNat)%pw K (2*R):=fun s s0 s1=>by
   have hs:=syms_snoc s0 s1 su
   obtain ⟨x0,u',e⟩:∃ x0 u',u++[s]=x0::u':=by
    cases h:u++[s] with
    | nil=>simp at h
    | cons a b=>exact ⟨a,b,rfl⟩
   have su':Syms K u':=fun z hz=>hs z (by rw [e]; exact List.mem_cons_of_mem _ hz)
   have lu':u'.length=2*R:=by have:=congrArg List.length e; simp at this; omega
   refine ⟨x0,u',e,su',lu',?_⟩
   have:=numW_mod (K:=K) (u:=[x0]) su'
   rw [lu',List.singleton_append,← e,numW_snoc] at this
   exact this.symm
  have img:∀ s c',0≤s→s<(K:Int)→∀ x0 u',u++[s]=x0::u'→u'.length=2*R→imgP K R T (u++s::c')=T.getD (numW K u*K+s.toNat) 0::imgP K R T (u'++c'):=fun s c' s0 s1 x0 u' e lu'=>by
   have e1:u++s::c'=x0::(u'++c'):=by
    rw [show u++s::c'=(u++[s])++c' by simp,e]; rfl
   rw [e1,imgP_cons (by rw [List.length_append]; omega),List.take_append_of_le_length (by omega),List.take_of_length_le (by omega),← e,numW_snoc]
  rw [compl_cons]
  unfold complU
  rw [List.mem_flatMap]
  constructor
  ·rintro ⟨s,hs,h⟩
   have hsK:=List.mem_range.1 hs
   by_cases ht:T.getD (numW K u*K+s) 0=y
   ·rw [if_pos ht,List.mem_map] at h
    obtain ⟨c',hc',rfl⟩:=h
    obtain ⟨x0,u',e,su',lu',nu'⟩:=front s (by omega) (by omega)
    rw [Int.toNat_natCast] at nu'
    rw [← nu'] at hc'
    obtain ⟨a,b,d⟩:=(ih u' su' lu' c').1 hc'
    refine ⟨syms_cons (by omega) (by omega) a,by simp [b],?_⟩
    rw [img s c' (by omega) (by omega) x0 u' e lu',Int.toNat_natCast,ht,d]
   ·rw [if_neg ht] at h; cases h
  ·rintro ⟨sc,lc,e⟩
   cases c with
   | nil=>simp at lc
   | cons s c' =>
    have hs:=sc s (by simp)
    obtain ⟨n,rfl⟩:∃ n:Nat,s=n:=⟨s.toNat,by omega⟩
    obtain ⟨x0,u',e0,su',lu',nu'⟩:=front n (by omega) hs.2
    rw [img n c' (by omega) hs.2 x0 u' e0 lu',Int.toNat_natCast] at e
    rw [Int.toNat_natCast] at nu'
    injection e with e1 e2
    refine ⟨n,List.mem_range.2 (by omega),?_⟩
    rw [if_pos e1,List.mem_map]
    refine ⟨c',?_,rfl⟩
    rw [← nu']
    exact (ih u' su' lu' c').2 ⟨fun z hz=>sc z (List.mem_cons_of_mem _ hz),by simpa using lc,e2⟩
theorem compl_nodup {K N:Nat} {T:List Int} (ws:List Int):∀ node,(compl K N T node ws).Nodup:=by
 induction ws with
 | nil=>intro node; show ([[]]:List (List Int)).Nodup; simp
 | cons y ws ih =>
  intro node
  rw [compl_cons]
  unfold complU
  refine List.pairwise_flatMap.2 ⟨fun s _=>?_,?_⟩
  ·split
   ·exact List.pairwise_map.2 ((ih _).imp fun h e=>h (List.cons.inj e).2)
   ·exact List.Pairwise.nil
  ·refine List.Pairwise.imp_of_mem (fun {a b} ha hb hne=>?_) (List.nodup_range (n:=K))
   intro x hx z hz e
   subst e
   split at hx
   ·obtain ⟨p,_,rfl⟩:=List.mem_map.1 hx
    split at hz
    ·obtain ⟨q,_,e⟩:=List.mem_map.1 hz
     have:=(List.cons.inj e).1
     exact hne (by omega)
    ·cases hz
   ·cases hx
def preL (K R:Nat) (T ws:List Int):List (List Int):=allBefore K R T ws (pw K (2*R))
theorem mem_preL {K R:Nat} {T:List Int} (hK:1≤K) {ws x:List Int}:x∈preL K R T ws↔Syms K x∧x.length=ws.length+2*R∧imgP K R T x=ws:=by
 unfold preL allBefore
 rw [List.mem_flatMap]
 constructor
 ·rintro ⟨node,hn,h⟩
  obtain ⟨c,hc,rfl⟩:=List.mem_map.1 h
  have hn':=List.mem_range.1 hn
  have hd:=digs_syms hK (2*R) node
  have hc':=(mem_compl hK ws (digs K (2*R) node) hd (digs_length ..) c).1 (by rw [numW_digs hK _ _ hn']; exact hc)
  refine ⟨fun z hz=>?_,by rw [List.length_append,digs_length,hc'.2.1]; omega,hc'.2.2⟩
  rcases List.mem_append.1 hz with hz | hz
  ·exact hd z hz
  ·exact hc'.1 z hz
 ·rintro ⟨sx,lx,e⟩
  have st:Syms K (x.take (2*R)):=syms_take sx _
  have lt:(x.take (2*R)).length=2*R:=by rw [List.length_take]; omega
  have hn:=numW_lt _ st
  rw [lt] at hn
  have ed:=digs_numW hK _ st
  rw [lt] at ed
  refine ⟨numW K (x.take (2*R)),List.mem_range.2 hn,List.mem_map.2 ⟨x.drop (2*R),?_,by rw [ed,List.take_append_drop]⟩⟩
  exact (mem_compl hK ws _ st lt _).2 ⟨syms_drop sx _,by rw [List.length_drop]; omega,by rw [List.take_append_drop]; exact e⟩
theorem preL_nodup {K R:Nat} {T:List Int} (hK:1≤K) (ws:List Int):(preL K R T ws).Nodup:=by
 unfold preL allBefore
 refine List.pairwise_flatMap.2 ⟨fun node _=>List.pairwise_map.2 ((compl_nodup ws _).imp fun h e=>h (List.append_cancel_left e)),?_⟩
 refine List.Pairwise.imp_of_mem (fun {a b} ha hb hne=>?_) (List.nodup_range (n:=pw K (2*R)))
 intro x hx z hz e
 subst e
 obtain ⟨p,_,rfl⟩:=List.mem_map.1 hx
 obtain ⟨q,_,e⟩:=List.mem_map.1 hz
 have h1:=(List.append_inj e (by rw [digs_length,digs_length])).1
 have h2:=congrArg (numW K) h1
 rw [numW_digs hK _ _ (List.mem_range.1 ha),numW_digs hK _ _ (List.mem_range.1 hb)] at h2
 exact hne h2.symm
def preN (K R:Nat) (T ws:List Int):Nat:=(preL K R T ws).length
theorem nodup_same {α:Type} [DecidableEq α] {l m:List α} (hl:l.Nodup) (hm:m.Nodup) (h:∀ x,x∈l↔x∈m):l.length=m.length :=
 Nat.le_antisymm (nodup_sub hl fun x hx=>(h x).1 hx) (nodup_sub hm fun x hx=>(h x).2 hx)
theorem flatMap_sum {α β:Type} (f:α→List β) (l:List α):(l.flatMap f).length=(l.map fun a=>(f a).length).sum:=by
 induction l with
 | nil=>rfl
 | cons a l ih=>rw [List.flatMap_cons,List.length_append,ih,List.map_cons,List.sum_cons]
def wayN (K N:Nat) (T:List Int):List Int→List Nat
 | []=>List.replicate N 1
 | y::ws=>(List.range N).map fun u=>((List.range K).map fun s=>if T.getD (u*K+s) 0=y then (wayN K N T ws).getD ((u*K+s)%N) 0 else 0).sum
theorem wayN_cons (K N:Nat) (T:List Int) (y:Int) (ws:List Int):wayN K N T (y::ws)=(List.range N).map fun u=>((List.range K).map fun s=>if T.getD (u*K+s) 0=y then (wayN K N T ws).getD ((u*K+s)%N) 0 else 0).sum:=rfl
theorem wayN_len (K N:Nat) (T ws:List Int):(wayN K N T ws).length=N:=by cases ws<;>simp [wayN]
theorem wayN_compl {K N:Nat} {T:List Int} (hN:0<N) (ws:List Int):∀ u,u<N→(wayN K N T ws).getD u 0=(compl K N T u ws).length:=by
 induction ws with
 | nil=>intro u hu; simp [wayN,compl,List.getD,hu]
 | cons y ws ih =>
  intro u hu
  rw [compl_cons]
  unfold complU
  rw [flatMap_sum]
  have e:(wayN K N T (y::ws)).getD u 0=((List.range K).map fun s=>if T.getD (u*K+s) 0=y then (wayN K N T ws).getD ((u*K+s)%N) 0 else 0).sum:=by
   rw [wayN_cons,List.getD_eq_getElem?_getD,List.getElem?_map,List.getElem?_range hu]; rfl
  rw [e]
  congr 1
  refine List.map_congr_left fun s _=>?_
  split
  ·rw [ih _ (Nat.mod_lt _ hN),List.length_map]
  ·rfl
theorem preN_way {K R:Nat} {T:List Int} (hK:1≤K) (ws:List Int):preN K R T ws=(wayN K (pw K (2*R)) T ws).sum:=by
 unfold preN preL allBefore
 rw [flatMap_sum]
 have hp:=pw_pos (2*R) hK
 have e:wayN K (pw K (2*R)) T ws=(List.range (pw K (2*R))).map fun u=>((compl K (pw K (2*R)) T u ws).map fun c=>digs K (2*R) u++c).length:=by
  refine List.ext_getElem (by rw [wayN_len]; simp) fun u h1 h2=>?_
  have hu:u<pw K (2*R):=by rw [wayN_len] at h1; exact h1
  have:=wayN_compl (K:=K) (T:=T) hp ws u hu
  rw [List.getD_eq_getElem?_getD,List.getElem?_eq_getElem h1,Option.getD_some] at this
  rw [this]
  simp
 rw [e]
def stepN (K N:Nat) (T:List Int) (at_:List Nat) (y:Int):Nat→List Nat
 | 0=>List.replicate N 0
 | j+1=>if T.getD j 0=y then (stepN K N T at_ y j).set (j/K) ((stepN K N T at_ y j).getD (j/K) 0+at_.getD (j%N) 0) else stepN K N T at_ y j
theorem stepN_len (K N:Nat) (T:List Int) (at_:List Nat) (y:Int) (j:Nat):(stepN K N T at_ y j).length=N:=by
 induction j with
 | zero=>simp [stepN]
 | succ j ih=>unfold stepN; split<;>simp [ih]
theorem stepN_get {K N:Nat} (hK:1≤K) {T:List Int} {at_:List Nat} {y:Int}:∀ j,j≤N*K→∀ u,u<N→(stepN K N T at_ y j).getD u 0=((List.range (min K (j-u*K))).map fun s=>if T.getD (u*K+s) 0=y then at_.getD ((u*K+s)%N) 0 else 0).sum
 | 0,_,u,hu=>by simp [stepN,List.getD,hu]
 | j+1,hj,u,hu=>by
  have ih:=stepN_get hK (T:=T) (at_:=at_) (y:=y) j (by omega) u hu
  have hd:=Nat.div_add_mod j K
  have hm:=Nat.mod_lt j (show 0<K by omega)
  have hq:j/K<N:=by rw [Nat.div_lt_iff_lt_mul (by omega)]; omega
  have hc:K*(j/K)=j/K*K:=Nat.mul_comm _ _
  unfold stepN
  by_cases e:u=j/K
  ·subst e
   have e1:min K (j-j/K*K)=j%K:=by omega
   have e2:min K (j+1-j/K*K)=j%K+1:=by omega
   rw [e1] at ih
   rw [e2,List.range_succ,List.map_append,List.sum_append,← ih,List.map_singleton,List.sum_singleton,show j/K*K+j%K=j by omega]
   split
   ·have hl:j/K<(stepN K N T at_ y j).length:=by rw [stepN_len]; exact hq
    simp [List.getD,hl]
   ·omega
  ·have e1:min K (j+1-u*K)=min K (j-u*K):=by
    rcases Nat.lt_or_ge u (j/K) with q | q
    ·have:=Nat.mul_le_mul_right K (show u+1≤j/K by omega)
     rw [Nat.succ_mul] at this
     omega
    ·have:=Nat.mul_le_mul_right K (show j/K+1≤u by omega)
     rw [Nat.succ_mul] at this
     omega
   rw [e1,← ih]
   split
   ·simp [List.getD,List.getElem?_set_ne (Ne.symm e)]
   ·rfl
def ringPre (K R:Nat) (T w:List Int):List (List Int):=(wordsL K w.length).filter fun x=>decide (ringI K R T x=w)
def ringN (K R:Nat) (T w:List Int):Nat:=(ringPre K R T w).length
theorem mem_ringPre {K R:Nat} {T w x:List Int} (hK:1≤K):x∈ringPre K R T w↔Syms K x∧x.length=w.length∧ringI K R T x=w:=by
 unfold ringPre
 rw [List.mem_filter,mem_wordsL hK,decide_eq_true_iff,and_assoc]
theorem ringPre_nodup {K R:Nat} {T w:List Int} (hK:1≤K):(ringPre K R T w).Nodup:=(wordsL_nodup hK).filter _
theorem ringI_symsC {K R:Nat} {T w:List Int} (hr:RuleOk K R T):Syms K (ringI K R T w):=imgP_syms hr.k1 hr.syms
theorem ringN_one {K R:Nat} {T w:List Int} (hr:RuleOk K R T) (ho:¬ NotOne K R T) (sw:Syms K w) (h1:1≤w.length):ringN K R T w=1:=by
 have hK:=hr.k1
 have inj:∀ x y,Syms K x→Syms K y→x.length=w.length→y.length=w.length→ringI K R T x=ringI K R T y→x=y:=fun x y sx sy lx ly e=>Classical.byContradiction fun q=>ho (ring_notOne sx sy (by omega) (by omega) q e)
 have hex:∃ x,x∈ringPre K R T w:=by
  apply Classical.byContradiction
  intro hno
  have hm:w∈wordsL K w.length:=(mem_wordsL hK).2 ⟨sw,rfl⟩
  have hsub:(wordsL K w.length).map (ringI K R T) ⊆ (wordsL K w.length).erase w:=fun y hy=>by
   obtain ⟨x,hx,rfl⟩:=List.mem_map.1 hy
   obtain ⟨sx,lx⟩:=(mem_wordsL hK).1 hx
   refine (List.mem_erase_of_ne fun e=>hno ⟨x,(mem_ringPre hK).2 ⟨sx,lx,e⟩⟩).2 ((mem_wordsL hK).2 ⟨ringI_symsC hr,by rw [ringI_len]; exact lx⟩)
  have hnd:((wordsL K w.length).map (ringI K R T)).Nodup:=List.pairwise_map.2 (List.Pairwise.imp_of_mem (fun {a b} ha hb hne e=>hne (by
   obtain ⟨sa,la⟩:=(mem_wordsL hK).1 ha
   obtain ⟨sb,lb⟩:=(mem_wordsL hK).1 hb
   exact inj a b sa sb la lb e)) (wordsL_nodup hK))
  have:=nodup_sub hnd hsub
  rw [List.length_map,List.length_erase_of_mem hm,wordsL_len] at this
  have:=pw_pos w.length hK
  omega
 obtain ⟨x,hx⟩:=hex
 have e:(ringPre K R T w).length=[x].length:=nodup_same (ringPre_nodup hK) (by simp) fun y=>by
  rw [List.mem_singleton]
  constructor
  ·intro hy
   obtain ⟨sx,lx,ex⟩:=(mem_ringPre hK).1 hx
   obtain ⟨sy,ly,ey⟩:=(mem_ringPre hK).1 hy
   exact inj y x sy sx ly lx (by rw [ey,ex])
  ·rintro rfl; exact hx
 exact e
def rotL (w:List Int) (s:Int):List Int:=pieceF (perA w) s w.length
theorem rotL_len (w:List Int) (s:Int):(rotL w s).length=w.length:=by simp [rotL,pieceF]
theorem pieceF_get {A:Int→Int} {f:Int} {n i:Nat} (h:i<n):(pieceF A f n).getD i 0=A (f+i):=by simp [pieceF,List.getD,h]
theorem perA_add {w:List Int} (i q:Int):perA w (i+(w.length:Int)*q)=perA w i:=by
 unfold perA
 rw [Int.add_mul_emod_self_left]
theorem perA_rot {w:List Int} (h1:1≤w.length) (s i:Int):perA (rotL w s) i=perA w (s+i):=by
 obtain ⟨m,hm,e⟩:=emod_nat (a:=i) h1
 have hd:=Int.emod_add_mul_ediv i (w.length:Int)
 rw [e] at hd
 have e1:perA (rotL w s) i=perA w (s+m):=by
  show (rotL w s).getD (i%((rotL w s).length:Int)).toNat 0=_
  rw [rotL_len,e,Int.toNat_natCast]
  unfold rotL
  rw [pieceF_get hm]
 rw [e1,← hd,← Int.add_assoc,perA_add]
theorem rotL_syms {K:Int} {w:List Int} (h:Syms K w) (h1:1≤w.length) (s:Int):Syms K (rotL w s):=fun z hz=>by
 obtain ⟨i,_,rfl⟩:=List.mem_map.1 hz
 exact perA_syms h h1 _
theorem per_ext {w v:List Int} (hl:w.length=v.length) (h:∀ i:Int,perA w i=perA v i):w=v:=by
 refine ext_getD hl fun t ht=>?_
 have:=h t
 unfold perA at this
 rw [← hl,← Int.natCast_emod,Int.toNat_natCast,Nat.mod_eq_of_lt ht] at this
 exact this
theorem rotL_back {w:List Int} (h1:1≤w.length) (s:Int):rotL (rotL w s) (-s)=w :=
 per_ext (by rw [rotL_len,rotL_len]) fun i=>by
  rw [perA_rot (by rw [rotL_len]; exact h1),perA_rot h1]
  congr 1; omega
theorem perA_img {K R:Nat} {T w:List Int} (h1:1≤w.length) (i:Int):perA (ringI K R T w) i=imgC K R T (perA w) i:=by
 rw [imgC_per]
 unfold perA
 rw [ringI_len]
 obtain ⟨m,hm,e⟩:=emod_nat (a:=i) h1
 rw [e,Int.toNat_natCast,ringI_per,pieceF_get hm]
 congr 1; omega
theorem imgC_shift {K R:Nat} {T:List Int} {A B:Int→Int} {s:Int} (h:∀ i,B i=A (s+i)) (j:Int):imgC K R T B j=imgC K R T A (s+j):=by
 unfold imgC winF
 congr 2
 refine List.map_congr_left fun t _=>?_
 rw [h]
 congr 1; omega
theorem ringI_rot {K R:Nat} {T w:List Int} (h1:1≤w.length) (s:Int):ringI K R T (rotL w s)=rotL (ringI K R T w) s:=by
 refine per_ext (by rw [ringI_len,rotL_len,rotL_len,ringI_len]) fun i=>?_
 rw [perA_img (by rw [rotL_len]; exact h1),perA_rot (by rw [ringI_len]; exact h1),perA_img h1,imgC_shift (perA_rot h1 s)]
theorem ringN_rot {K R:Nat} {T w:List Int} (hr:RuleOk K R T) (h1:1≤w.length) (s:Int):ringN K R T (rotL w s)=ringN K R T w:=by
 have hK:=hr.k1
 unfold ringN
 rw [← @List.length_map _ _ (ringPre K R T w) (fun x=>rotL x s)]
 refine nodup_same (ringPre_nodup hK) ?_ fun y=>?_
 ·refine List.pairwise_map.2 (List.Pairwise.imp_of_mem (fun {a b} ha hb hne e=>hne ?_) (ringPre_nodup (R:=R) (T:=T) (w:=w) hK))
  have la:=((mem_ringPre hK).1 ha).2.1
  have lb:=((mem_ringPre hK).1 hb).2.1
  rw [← rotL_back (w:=a) (by omega) s,e,rotL_back (by omega)]
 ·rw [mem_ringPre hK,List.mem_map]
  constructor
  ·rintro ⟨sy,ly,ey⟩
   rw [rotL_len] at ly
   refine ⟨rotL y (-s),(mem_ringPre hK).2 ⟨rotL_syms sy (by omega) _,by rw [rotL_len]; exact ly,?_⟩,?_⟩
   ·rw [ringI_rot (by omega),ey,rotL_back h1]
   ·have:=rotL_back (w:=y) (by omega) (-s)
    rwa [Int.neg_neg] at this
  ·rintro ⟨x,hx,rfl⟩
   obtain ⟨sx,lx,ex⟩:=(mem_ringPre hK).1 hx
   exact ⟨rotL_syms sx (by omega) _,by rw [rotL_len,rotL_len]; exact lx,by rw [ringI_rot (by omega),ex]⟩
theorem perA_twice {w:List Int} (h1:1≤w.length) (i:Int):perA (w++w) i=perA w i:=by
 obtain ⟨m,hm,e⟩:=emod_nat (a:=i) (n:=(w++w).length) (by simp; omega)
 have hd:=Int.emod_add_mul_ediv i ((w++w).length:Int)
 rw [e] at hd
 have hl:((w++w).length:Int)=(w.length:Int)*2:=by simp; omega
 have e2:perA w i=perA w m:=by rw [← hd,hl,Int.mul_assoc,perA_add]
 rw [e2]
 unfold perA
 rw [e,Int.toNat_natCast,← Int.natCast_emod,Int.toNat_natCast]
 rw [List.length_append] at hm
 by_cases q:m<w.length
 ·rw [Nat.mod_eq_of_lt q]; simp [List.getD,List.getElem?_append_left q]
 ·have e3:m%w.length=m-w.length:=by rw [Nat.mod_eq_sub_mod (by omega),Nat.mod_eq_of_lt (by omega)]
  rw [e3]; simp [List.getD,List.getElem?_append_right (show w.length≤m by omega)]
theorem ringI_twice {K R:Nat} {T w:List Int} (h1:1≤w.length):ringI K R T (w++w)=ringI K R T w++ringI K R T w:=by
 refine per_ext (by rw [ringI_len,List.length_append,List.length_append,ringI_len]) fun i=>?_
 rw [perA_img (by simp; omega),perA_twice (by rw [ringI_len]; exact h1),perA_img h1]
 have e:perA (w++w)=perA w:=funext (perA_twice h1)
 rw [e]
theorem ringN_twice {K R:Nat} {T w:List Int} (hr:RuleOk K R T) (h1:1≤w.length):ringN K R T w≤ringN K R T (w++w):=by
 have hK:=hr.k1
 unfold ringN
 rw [← @List.length_map _ _ (ringPre K R T w) (fun x=>x++x)]
 refine nodup_sub ?_ fun y hy=>?_
 ·refine List.pairwise_map.2 (List.Pairwise.imp_of_mem (fun {a b} ha hb hne e=>hne ?_) (ringPre_nodup (R:=R) (T:=T) (w:=w) hK))
  exact (List.append_inj e (by rw [((mem_ringPre hK).1 ha).2.1,((mem_ringPre hK).1 hb).2.1])).1
 ·obtain ⟨x,hx,rfl⟩:=List.mem_map.1 hy
  obtain ⟨sx,lx,ex⟩:=(mem_ringPre hK).1 hx
  refine (mem_ringPre hK).2 ⟨fun z hz=>?_,by rw [List.length_append,List.length_append,lx],by rw [ringI_twice (by omega),ex]⟩
  rcases List.mem_append.1 hz with hz | hz<;>exact sx z hz
def wayE (K N:Nat) (T:List Int) (ends:List Nat):List Int→List Nat
 | []=>ends
 | y::ws=>(List.range N).map fun u=>((List.range K).map fun s=>if T.getD (u*K+s) 0=y then (wayE K N T ends ws).getD ((u*K+s)%N) 0 else 0).sum
theorem wayE_cons (K N:Nat) (T:List Int) (ends:List Nat) (y:Int) (ws:List Int):wayE K N T ends (y::ws)=(List.range N).map fun u=>((List.range K).map fun s=>if T.getD (u*K+s) 0=y then (wayE K N T ends ws).getD ((u*K+s)%N) 0 else 0).sum:=rfl
theorem wayE_len {K N:Nat} {T:List Int} {ws:List Int} {e:List Nat} (h:e.length=N):(wayE K N T e ws).length=N:=by cases ws<;>simp [wayE,h]
theorem wayE_one (K N:Nat) (T ws:List Int):wayE K N T (List.replicate N 1) ws=wayN K N T ws:=by
 induction ws with
 | nil=>rfl
 | cons y ws ih=>rw [wayE_cons,wayN_cons,ih]
theorem stepN_wayE {K N:Nat} (hK:1≤K) {T:List Int} {y:Int} {ws:List Int} {ends:List Nat}:stepN K N T (wayE K N T ends ws) y (N*K)=wayE K N T ends (y::ws):=by
 refine List.ext_getElem (by rw [stepN_len,wayE_cons]; simp) fun u h1 h2=>?_
 have hu:u<N:=by rw [stepN_len] at h1; exact h1
 have e:=stepN_get hK (T:=T) (at_:=wayE K N T ends ws) (y:=y) (N*K) (Nat.le_refl _) u hu
 rw [List.getD_eq_getElem?_getD,List.getElem?_eq_getElem h1,Option.getD_some] at e
 rw [e]
 have hm:min K (N*K-u*K)=K:=by
  have:=Nat.mul_le_mul_right K (show u+1≤N by omega)
  rw [Nat.succ_mul] at this
  omega
 rw [hm]
 simp [wayE_cons]
def endN (K N:Nat) (u:Nat) (c:List Int):Nat:=c.foldl (fun v s=>(v*K+s.toNat)%N) u
theorem wayE_compl {K N:Nat} {T:List Int} (hN:0<N) (ends:List Nat) (ws:List Int):∀ u,u<N→(wayE K N T ends ws).getD u 0=((compl K N T u ws).map fun c=>ends.getD (endN K N u c) 0).sum:=by
 induction ws with
 | nil=>intro u hu; simp [wayE,compl,endN]
 | cons y ws ih =>
  intro u hu
  rw [compl_cons]
  unfold complU
  rw [wayE_cons,List.getD_eq_getElem?_getD,List.getElem?_map,List.getElem?_range hu,Option.map_some,Option.getD_some,List.map_flatMap]
  have key:∀ l:List Nat,(l.map fun s=>if T.getD (u*K+s) 0=y then (wayE K N T ends ws).getD ((u*K+s)%N) 0 else 0).sum=(l.flatMap fun s=>(if T.getD (u*K+s) 0=y then (compl K N T ((u*K+s)%N) ws).map (fun c=>(s:Int)::c) else []).map fun c=>ends.getD (endN K N u c) 0).sum:=by
   intro l
   induction l with
   | nil=>rfl
   | cons s l ihl =>
    rw [List.map_cons,List.sum_cons,List.flatMap_cons,List.sum_append,ihl]
    congr 1
    split
    ·rw [ih _ (Nat.mod_lt _ hN),List.map_map]
     congr 1
    ·rfl
  exact key _
theorem endN_lt {K N u:Nat} (hN:0<N) (hu:u<N) (c:List Int):endN K N u c<N:=by
 unfold endN
 have key:∀ (c:List Int) (v:Nat),v<N→c.foldl (fun v s=>(v*K+s.toNat)%N) v<N:=by
  intro c
  induction c with
  | nil=>intro v hv; exact hv
  | cons s c ih=>intro v _; rw [List.foldl_cons]; exact ih _ (Nat.mod_lt _ hN)
 exact key c u hu
theorem endN_numW {K R u:Nat} (hK:1≤K) (hu:u<pw K (2*R)) (c:List Int):endN K (pw K (2*R)) u c=numW K (digs K (2*R) u++c)%pw K (2*R):=by
 have key:∀ (c d:List Int),endN K (pw K (2*R)) (numW K d%pw K (2*R)) c=numW K (d++c)%pw K (2*R):=by
  intro c
  induction c with
  | nil=>intro d; simp [endN]
  | cons s c ih =>
   intro d
   have e:endN K (pw K (2*R)) (numW K d%pw K (2*R)) (s::c)=endN K (pw K (2*R)) ((numW K d%pw K (2*R)*K+s.toNat)%pw K (2*R)) c:=rfl
   rw [e,← numW_step,ih (d++[s])]
   simp
 have h:=key c (digs K (2*R) u)
 rw [numW_digs hK _ _ hu,Nat.mod_eq_of_lt hu] at h
 exact h
def unitL (N u:Nat):List Nat:=(List.replicate N 0).set u 1
theorem unitL_len (N u:Nat):(unitL N u).length=N:=by simp [unitL]
theorem unitL_get {N u v:Nat} (hu:u<N) (hv:v<N):(unitL N u).getD v 0=if v=u then 1 else 0:=by
 unfold unitL
 by_cases e:v=u
 ·subst e
  rw [List.getD_eq_getElem?_getD,List.getElem?_set_self (by simpa using hv),if_pos rfl]; rfl
 ·rw [List.getD_eq_getElem?_getD,List.getElem?_set_ne (fun q=>e q.symm),if_neg e]
  simp [hv]
theorem sum_ones {α:Type} (p:α→Bool) (l:List α):(l.map fun a=>if p a=true then 1 else 0).sum=(l.filter p).length:=by
 induction l with
 | nil=>rfl
 | cons a l ih =>
  rw [List.map_cons,List.sum_cons,ih]
  by_cases h:p a=true
  ·rw [if_pos h,List.filter_cons,if_pos h,List.length_cons]; omega
  ·rw [if_neg h,List.filter_cons,if_neg h]; omega
def closedB (K R:Nat) (z:List Int):Bool:=decide (numW K z%pw K (2*R)=numW K (z.take (2*R)))
theorem closed_at {K R:Nat} {T:List Int} (hK:1≤K) (ws:List Int) {u:Nat} (hu:u<pw K (2*R)):(wayE K (pw K (2*R)) T (unitL (pw K (2*R)) u) ws).getD u 0=(((compl K (pw K (2*R)) T u ws).map fun c=>digs K (2*R) u++c).filter (closedB K R)).length:=by
 have hN:=pw_pos (2*R) hK
 rw [wayE_compl hN _ ws u hu,List.filter_map,List.length_map,← sum_ones]
 congr 1
 refine List.map_congr_left fun c _=>?_
 rw [unitL_get hu (endN_lt hN hu c),endN_numW hK hu]
 have ht:(digs K (2*R) u++c).take (2*R)=digs K (2*R) u:=List.take_left' (digs_length ..)
 by_cases e:numW K (digs K (2*R) u++c)%pw K (2*R)=u
 ·rw [if_pos e,if_pos]
  show closedB K R (digs K (2*R) u++c)=true
  unfold closedB
  rw [ht,numW_digs hK _ _ hu]
  exact decide_eq_true e
 ·rw [if_neg e,if_neg]
  show ¬ closedB K R (digs K (2*R) u++c)=true
  unfold closedB
  rw [ht,numW_digs hK _ _ hu,decide_eq_false e]
  decide
theorem filter_flat {α β:Type} (p:β→Bool) (f:α→List β) (l:List α):(l.flatMap f).filter p=l.flatMap fun a=>(f a).filter p:=by
 induction l with
 | nil=>rfl
 | cons a l ih=>rw [List.flatMap_cons,List.filter_append,ih,List.flatMap_cons]
theorem closed_sum {K R:Nat} {T:List Int} (hK:1≤K) (ws:List Int):((List.range (pw K (2*R))).map fun u=>(wayE K (pw K (2*R)) T (unitL (pw K (2*R)) u) ws).getD u 0).sum=((preL K R T ws).filter (closedB K R)).length:=by
 unfold preL allBefore
 rw [filter_flat,flatMap_sum]
 congr 1
 exact List.map_congr_left fun u hu=>closed_at hK ws (List.mem_range.1 hu)
theorem per_nat {z:List Int} {n m:Nat} (h:∀ i,i<m→z.getD (i+n) 0=z.getD i 0):∀ q s,s+q*n<n+m→z.getD (s+q*n) 0=z.getD s 0
 | 0,s,_=>by simp
 | q+1,s,hl=>by
  rw [Nat.succ_mul] at hl ⊢
  rw [← Nat.add_assoc,h (s+q*n) (by omega)]
  exact per_nat h q s (by omega)
theorem numW_injS {K:Nat} (hK:1≤K) {a b:List Int} (sa:Syms K a) (sb:Syms K b) (hl:a.length=b.length) (h:numW K a=numW K b):a=b:=by
 rw [← digs_numW hK a sa,← digs_numW hK b sb,hl,h]
theorem closed_ring {K R:Nat} (hK:1≤K) {z:List Int} {n:Nat} (hn:1≤n) (sz:Syms K z) (lz:z.length=n+2*R):closedB K R z=true↔∃ x,Syms K x∧x.length=n∧ringX R x=z:=by
 have hdl:(z.drop n).length=2*R:=by rw [List.length_drop]; omega
 have hnw:numW K z%pw K (2*R)=numW K (z.drop n):=by
  have:=numW_mod (K:=K) (u:=z.take n) (syms_drop sz n)
  rwa [hdl,List.take_append_drop] at this
 have hiff:closedB K R z=true↔z.drop n=z.take (2*R):=by
  unfold closedB
  rw [decide_eq_true_iff,hnw]
  exact ⟨fun h=>numW_injS hK (syms_drop sz _) (syms_take sz _) (by rw [hdl,List.length_take]; omega) h,fun h=>by rw [h]⟩
 rw [hiff]
 constructor
 ·intro h
  have per:∀ i,i<2*R→z.getD (i+n) 0=z.getD i 0:=fun i hi=>by
   have:=congrArg (fun l:List Int=>l.getD i 0) h
   rw [List.getD_eq_getElem?_getD,List.getD_eq_getElem?_getD,List.getElem?_drop,List.getElem?_take,if_pos hi,← List.getD_eq_getElem?_getD,← List.getD_eq_getElem?_getD,Nat.add_comm] at this
   exact this
  have hxl:((z.drop R).take n).length=n:=by rw [List.length_take,List.length_drop]; omega
  refine ⟨(z.drop R).take n,syms_take (syms_drop sz _) _,hxl,?_⟩
  refine ext_getD (by rw [ringX_len,hxl,lz]) fun t ht=>?_
  rw [ringX_len,hxl] at ht
  rw [ringX_get (by rw [hxl]; exact ht),hxl]
  obtain ⟨m,hm,e⟩:=emod_nat (a:=(t:Int)-R) hn
  have hd:=Int.emod_add_mul_ediv ((t:Int)-R) (n:Int)
  rw [e] at hd ⊢
  rw [Int.toNat_natCast,sub_get hm]
  obtain ⟨q,hq⟩:∃ q,((t:Int)-R)/(n:Int)=q:=⟨_,rfl⟩
  rw [hq] at hd
  rcases Int.le_total 0 q with q0 | q0
  ·obtain ⟨p,rfl⟩:=Int.eq_ofNat_of_zero_le q0
   have hd2:t=(R+m)+p*n:=by
    have:((p*n:Nat):Int)=(n:Int)*(p:Int):=by rw [Int.natCast_mul,Int.mul_comm]
    omega
   rw [hd2]
   exact (per_nat per p (R+m) (by omega)).symm
  ·obtain ⟨p,hp⟩:=Int.eq_ofNat_of_zero_le (show 0≤-q by omega)
   have hd2:R+m=t+p*n:=by
    have h1:((p*n:Nat):Int)=(n:Int)*(p:Int):=by rw [Int.natCast_mul,Int.mul_comm]
    have h2:(n:Int)*q=-((n:Int)*(p:Int)):=by rw [← Int.mul_neg]; congr 1; omega
    omega
   rw [hd2]
   exact per_nat per p t (by omega)
 ·rintro ⟨x,sx,lx,rfl⟩
  refine ext_getD (by rw [hdl,List.length_take]; omega) fun i hi=>?_
  rw [hdl] at hi
  rw [List.getD_eq_getElem?_getD,List.getD_eq_getElem?_getD,List.getElem?_drop,List.getElem?_take,if_pos hi,← List.getD_eq_getElem?_getD,← List.getD_eq_getElem?_getD,ringX_get (by omega),ringX_get (by omega),lx]
  congr 2
  rw [show ((n+i:Nat):Int)-R=((i:Int)-R)+(n:Int)*1 by omega,Int.add_mul_emod_self_left]
theorem rings_count {K R:Nat} {T:List Int} (hK:1≤K) {ws:List Int} (h1:1≤ws.length):((List.range (pw K (2*R))).map fun u=>(wayE K (pw K (2*R)) T (unitL (pw K (2*R)) u) ws).getD u 0).sum=ringN K R T ws:=by
 rw [closed_sum hK]
 unfold ringN
 rw [← @List.length_map _ _ (ringPre K R T ws) (ringX R)]
 have inj:∀ a b:List Int,Syms K a→a.length=ws.length→b.length=ws.length→ringX R a=ringX R b→a=b:=fun a b sa la lb e=>by
  refine ext_getD (by omega) fun t ht=>?_
  have:=congrArg (fun l:List Int=>l.getD (t+R) 0) e
  rw [ringX_get (by omega),ringX_get (by omega),show ((t+R:Nat):Int)-R=t by omega,la,lb,← Int.natCast_emod,Int.toNat_natCast,Nat.mod_eq_of_lt (by omega)] at this
  exact this
 refine nodup_same ((preL_nodup hK ws).filter _) ?_ fun z=>?_
 ·refine List.pairwise_map.2 (List.Pairwise.imp_of_mem (fun {a b} ha hb hne e=>hne ?_) (ringPre_nodup (R:=R) (T:=T) (w:=ws) hK))
  obtain ⟨sa,la,_⟩:=(mem_ringPre hK).1 ha
  obtain ⟨_,lb,_⟩:=(mem_ringPre hK).1 hb
  exact inj a b sa la lb e
 ·rw [List.mem_filter,mem_preL hK,List.mem_map]
  constructor
  ·rintro ⟨⟨sz,lz,ez⟩,hc⟩
   obtain ⟨x,sx,lx,rfl⟩:=(closed_ring hK h1 sz lz).1 hc
   exact ⟨x,(mem_ringPre hK).2 ⟨sx,lx,ez⟩,rfl⟩
  ·rintro ⟨x,hx,rfl⟩
   obtain ⟨sx,lx,ex⟩:=(mem_ringPre hK).1 hx
   have sz:=ringX_syms (R:=R) sx (by omega)
   have lz:(ringX R x).length=ws.length+2*R:=by rw [ringX_len,lx]
   exact ⟨⟨sz,lz,ex⟩,(closed_ring hK h1 sz lz).2 ⟨x,sx,lx,rfl⟩⟩
section
variable {P:Program} {ops:Array Oper} {Q:Exit→Act→World→Prop} {md:Region.Mode} {S:World→Prop}
def wpAnyT (P:Program) (md:Region.Mode) (ops:Array Oper) (Q:Exit→Act→World→Prop) (S:World→Prop) (n:Nat):Nat→Array Bool→Act→World→Prop
 | 0,listed,a,w=>Region.ready md ops listed=[]∧Q .normal a w
 | fuel+1,listed,a,w =>
  (Region.ready md ops listed=[]→Q .normal a w) ∧
  ∀ i∈Region.ready md ops listed,wpOp P ops Q i (fun a' w'=>(i<n→S w')∧wpAnyT P md ops Q S n fuel (listed.setIfInBounds i true) a' w') a w
theorem wpAny_of_T {n:Nat}:∀ (fuel:Nat) (listed:Array Bool) (a:Act) (w:World),wpAnyT P md ops Q S n fuel listed a w→wpAny P md ops Q fuel listed a w
 | 0,_,_,_,h=>h
 | fuel+1,_,_,_,h=>⟨h.1,fun i hi=>wpOp_mono (fun a' w' h'=>wpAny_of_T fuel _ a' w' h'.2) (h.2 i hi)⟩
theorem wpAnyT_of {n:Nat}:∀ (fuel:Nat) (listed:Array Bool) (a:Act) (w:World),(∀ j,j<n→listed.getD j true=true)→wpAny P md ops Q fuel listed a w→wpAnyT P md ops Q S n fuel listed a w
 | 0,_,_,_,_,h=>h
 | fuel+1,listed,a,w,hl,h=>⟨h.1,fun i hi=>wpOp_mono (fun a' w' h'=>⟨fun hin=>Bool.noConfusion ((hl i hin).symm.trans (mem_ready.1 hi).1),wpAnyT_of fuel _ a' w' (fun j hj=>by
  by_cases hij:i=j
  ·subst hij
   rcases Nat.lt_or_ge i listed.size with h2 | h2
   ·simp [h2]
   ·rw [Array.getD_eq_getD_getElem?,Array.getElem?_eq_none (by simpa using h2)]; rfl
  ·rw [getD_set_ne true hij]; exact hl j hj) h'⟩) (h.2 i hi)⟩
theorem wpAnyT_first {n i:Nat} {oi:Oper} {v:Value} (hi:ops[i]?=some oi) (hsel:∀ (j:Nat) (o:Oper) cs b,ops[j]?=some o→o.op≠.select cs b)
 (hs:Region.sinkB md ops n=true) (hc:Region.chainB md ops n=true) (hn:n<ops.size) (hin:i<n)
 (hQ:∀ c a w,Q (.panic c) (a.put oi.dst v) w→Q (.panic c) a w) :
 ∀ (fuel:Nat) (listed:Array Bool) (a:Act) (w:World),HeadInv md ops n listed →
  (∀ j oj,ops[j]?=some oj→j≠i→listed.getD j true=false→(∀ e∈oj.after,Region.binds md e=true→e.on≠i)→oi.apart ops oj=true) →
  i∈Region.ready md ops listed→YieldsIf P ops S oi v a→S w →
  wpAnyT P md ops Q S n fuel (listed.setIfInBounds i true) (a.put oi.dst v) w→wpAnyT P md ops Q S n (fuel+1) listed a w:=by
 intro fuel
 induction fuel with
 | zero =>
  intro listed a w inv _ hr hy hS H
  refine ⟨fun h=>(by rw [h] at hr; cases hr),fun j hj=>?_⟩
  by_cases hji:j=i
  ·subst hji; exact hy.wpOp hi hS ⟨fun _=>hS,H⟩
  ·have:=ready_mono hj hji
   rw [H.1] at this
   cases this
 | succ fuel ih =>
  intro listed a w inv hfree hr hy hS H
  have hun:=(mem_ready.1 hr).1
  refine ⟨fun h=>(by rw [h] at hr; cases hr),fun j hj=>?_⟩
  have hjn:j<n:=by
   rcases Nat.lt_or_ge j n with h | h
   ·exact h
   ·exact absurd hj (tail_waits hs hc hn inv _ i rfl hin hun j h)
  by_cases hji:j=i
  ·subst hji; exact hy.wpOp hi hS ⟨fun _=>hS,H⟩
  ·have h1:=H.2 j (ready_mono hj hji)
   obtain ⟨hjun,oj,hoj,hall⟩:=mem_ready.1 hj
   have hnot:∀ e∈oj.after,Region.binds md e=true→e.on≠i:=fun e he hb heq=>by
    have h1:=hall e he hb
    rw [heq,getD_both hun] at h1
    cases h1
   have h2:=wpOp_putIf hoj (hfree j oj hoj hji hjun hnot) (fun cs b=>hsel i oi cs b hi) (fun cs b=>hsel j oj cs b hoj) hQ hy h1
   have hfree':∀ k ok,ops[k]?=some ok→k≠i→(listed.setIfInBounds j true).getD k true=false →
    (∀ e∈ok.after,Region.binds md e=true→e.on≠i)→oi.apart ops ok=true:=fun k ok hk hki hun hno=>by
    refine hfree k ok hk hki ?_ hno
    by_cases hjk:j=k
    ·subst hjk; exact hjun
    ·rw [getD_set_ne true hjk] at hun; exact hun
   refine wpOp_mono (fun a' w' h3=>⟨fun _=>h3.2.1 hjn,ih (listed.setIfInBounds j true) a' w' (inv.set hj hjn) hfree' (ready_mono hr (Ne.symm hji)) h3.1 (h3.2.1 hjn) ?_⟩) h2
   rw [Array.setIfInBounds_comm _ _ hji]
   exact h3.2.2
def wpHead (P:Program) (ops:Array Oper) (Q:Exit→Act→World→Prop) (S:World→Prop) (K:Act→World→Prop):List (Nat×Bool)→Act→World→Prop
 | [],a,w=>K a w
 | (k,true)::l,a,w=>∃ o v,ops[k]?=some o∧YieldsIf P ops S o v a∧S w∧wpHead P ops Q S K l (a.put o.dst v) w
 | (k,false)::l,a,w=>wpOp P ops Q k (fun a' w'=>S w'∧wpHead P ops Q S K l a' w') a w
def planB (md:Region.Mode) (ops:Array Oper) (n:Nat):List (Nat×Bool)→Array Bool→Bool
 | [],listed=>(List.range n).all (fun j=>listed.getD j true)&&Region.seqB md ops (ops.size-n) n listed
 | (k,true)::l,listed=>decide (k<n)&&(Region.ready md ops listed).contains k&&Region.free md ops listed k&&planB md ops n l (listed.setIfInBounds k true)
 | (k,false)::l,listed=>decide (k<n)&&decide (Region.ready md ops listed=[k])&&planB md ops n l (listed.setIfInBounds k true)
theorem wpAnyT_plan {n:Nat} {ol:List Oper} (hol:ops=ol.toArray) (hsel:Region.noSelect ops=true) (hs:Region.sinkB md ops n=true) (hc:Region.chainB md ops n=true) (hn:n<ops.size)
 (hQ:∀ c a w,Q (.panic c) a w→False) :
 ∀ (l:List (Nat×Bool)) (listed:Array Bool) (a:Act) (w:World),HeadInv md ops n listed→planB md ops n l listed=true →
  wpHead P ops Q S (fun a' w'=>wpList P ops Q (ol.drop n) a' w') l a w→wpAnyT P md ops Q S n (l.length+(ops.size-n)) listed a w
 | [],listed,a,w,inv,hB,h=>by
  simp only [planB,Bool.and_eq_true] at hB
  have hl:∀ j,j<n→listed.getD j true=true:=fun j hj=>List.all_eq_true.1 hB.1 j (List.mem_range.2 hj)
  rw [List.length_nil,Nat.zero_add]
  refine wpAnyT_of _ _ _ _ hl ?_
  have hdl:(ol.drop n).length=ops.size-n:=by subst hol; simp
  rw [← hdl]
  refine wpAny_of_seq (ol.drop n) n listed a w (fun j=>by subst hol; simp) ?_ h
  rw [hdl]; exact hB.2
 | (k,true)::l,listed,a,w,inv,hB,h=>by
  simp only [planB,Bool.and_eq_true,decide_eq_true_eq] at hB
  obtain ⟨⟨⟨hkn,hr⟩,hf⟩,hB'⟩:=hB
  obtain ⟨o,v,ho,hy,hS,h'⟩:=h
  have hr':k∈Region.ready md ops listed:=by simpa using hr
  rw [show ((k,true)::l).length+(ops.size-n)=(l.length+(ops.size-n))+1 by simp; omega]
  exact wpAnyT_first ho (Region.noSelect_spec hsel) hs hc hn hkn (fun c a w h=>(hQ c _ w h).elim) _ listed a w inv (Region.free_spec ho hf) hr' hy hS
   (wpAnyT_plan hol hsel hs hc hn hQ l _ _ _ (inv.set hr' hkn) hB' h')
 | (k,false)::l,listed,a,w,inv,hB,h=>by
  simp only [planB,Bool.and_eq_true,decide_eq_true_eq] at hB
  obtain ⟨⟨hkn,hr⟩,hB'⟩:=hB
  rw [show ((k,false)::l).length+(ops.size-n)=(l.length+(ops.size-n))+1 by simp; omega]
  refine ⟨fun h0=>(by rw [h0] at hr; cases hr),fun i hi=>?_⟩
  have hi':=hi
  rw [hr] at hi'
  obtain rfl:i=k:=by simpa using hi'
  exact wpOp_mono (fun a' w' h3=>⟨fun _=>h3.1,wpAnyT_plan hol hsel hs hc hn hQ l _ a' w' (inv.set hi hkn) hB' h3.2⟩) h
def tailB (md:Region.Mode) (ops:Array Oper) (n:Nat) (plan:List (Nat×Bool)):Bool :=
 Region.noSelect ops&&decide (n<ops.size)&&Region.sinkB md ops n&&Region.chainB md ops n&&decide (plan.length=n)&&planB md ops n plan (Array.replicate ops.size false)
theorem wp_region_plan {id:Nat} {a:Act} {w:World} {l:List Oper} (S:World→Prop) (n:Nat) (plan:List (Nat×Bool)) (hm:P.follows .mixedOrders=true) (hB:tailB .any l.toArray n plan=true)
 (h:wpHead P l.toArray (NoPanic Q) S (fun a' w'=>wpList P l.toArray (NoPanic Q) (l.drop n) a' w') plan a w.drew):(Code.region id l.toArray true).wp P Q a w:=by
 simp only [tailB,Bool.and_eq_true,decide_eq_true_eq] at hB
 obtain ⟨⟨⟨⟨⟨hsel,hn⟩,hs⟩,hc⟩,hlen⟩,hp⟩:=hB
 refine wp_region_noPanic ?_
 refine wp_region_any hm ?_
 have inv0:HeadInv .any l.toArray n (Array.replicate l.toArray.size false) :=
  ⟨by simp,fun j oj _ hl=>(by rw [getD_replicate_false] at hl; cases hl),fun t _ ht=>getD_in (by simpa using ht) (getD_replicate_false _ _)⟩
 have:=wpAnyT_plan (md:=.any) (Q:=NoPanic Q) (S:=S) rfl hsel hs hc hn (fun _ _ _ h=>h) plan _ a _ inv0 hp h
 rw [hlen,show n+(l.toArray.size-n)=l.toArray.size by omega] at this
 exact wpAny_of_T _ _ _ _ this
theorem headY {K:Act→World→Prop} {k:Nat} {o:Oper} {v:Value} {l:List (Nat×Bool)} {a:Act} {w:World} (d:Option Tmp) (ho:ops[k]?=some o) (hd:o.dst=d)
 (hy:YieldsIf P ops S o v a) (hS:S w) (h:wpHead P ops Q S K l (a.put d v) w):wpHead P ops Q S K ((k,true)::l) a w:=by
 subst hd; exact ⟨o,v,ho,hy,hS,h⟩
theorem headC {K:Act→World→Prop} {k:Nat} {o:Oper} {l:List (Nat×Bool)} {a:Act} {w:World} (ho:ops[k]?=some o)
 (h:∀ K':Act→World→Prop,(∀ a w,S w→wpHead P ops Q S K l a w→K' a w)→if Region.wanted o (yielded ops a.tmps)=true then Oper.wp P o a w K' Q else K' (a.put o.dst undef) w) :
 wpHead P ops Q S K ((k,false)::l) a w:=by
 show wpOp _ _ _ _ _ _ _
 unfold wpOp
 simp only [ho]
 have:=h (fun a' w'=>S w'∧wpHead P ops Q S K l a' w') (fun a w h1 h2=>⟨h1,h2⟩)
 split
 ·rename_i hw; rw [if_pos hw] at this; exact .inl this
 ·rename_i hw; rw [if_neg hw] at this; exact this
theorem head0 {K:Act→World→Prop} {a:Act} {w:World} (h:K a w):wpHead P ops Q S K [] a w:=h
end
section
variable {P:Program} {ops:Array Oper} {Q:Exit→Act→World→Prop} {S:World→Prop}
theorem pqY {K:Act→World→Prop} {k:Nat} {o:Oper} {v:Value} {l:List (Nat×Bool)} {a a':Act} {w:World} (d:Tmp) (hS:S w) (h:wpHead P ops Q S K l a' w) (ho:ops[k]?=some o:=by exact rfl) (hd:o.dst=some d:=by exact rfl)
 (hw:Region.wanted o (yielded ops a.tmps)=true:=by rfl) (hy:∀ W,S W→(execOp a.eval o).run P W=.ok (.value v) W:=by intro W' hs; (try subst hs); go_simp; (try with_reducible rfl)) (ha:a.put (some d) v=a':=by simp only [pq]; exact rfl) :
 wpHead P ops Q S K ((k,true)::l) a w:=by
 subst ha; exact headY (some d) ho hd (.inl ⟨hw,hy⟩) hS h
theorem pqN {K:Act→World→Prop} {k:Nat} {o:Oper} {l:List (Nat×Bool)} {a a':Act} {w:World} (d:Tmp) (hS:S w) (h:wpHead P ops Q S K l a' w) (ho:ops[k]?=some o:=by exact rfl) (hd:o.dst=some d:=by exact rfl)
 (hw:Region.wanted o (yielded ops a.tmps)=false:=by rfl) (ha:a.put (some d) undef=a':=by simp only [pq]; exact rfl):wpHead P ops Q S K ((k,true)::l) a w:=by
 subst ha; exact headY (some d) ho hd (.inr ⟨hw,rfl⟩) hS h
end
open Go.RowKit
set_option maxRecDepth 100000
def EAt (w:World) (t:PErr) (v:Value):Prop :=
 match t with
 | none=>v=.agg #[.int .i64 0,.slice none 0 0,.slice none 0 0]
 | some (n,l)=>∃ a1 n1 c1 a2 n2 c2,v=.agg #[.int .i64 n,.slice a1 n1 c1,.slice a2 n2 c2]∧ValsAt w (.slice a1 n1 c1) (l.map fun x=>Value.string x.1)∧IntsAt w (.slice a2 n2 c2) (l.map (·.2))
theorem EAt.below {w w':World} {t:PErr} {v:Value} (h:EAt w t v) (hb:Below w.heap.size w w'):EAt w' t v:=by
 match t,h with
 | none,h=>exact h
 | some (n,l),⟨a1,n1,c1,a2,n2,c2,e,h1,h2⟩=>exact ⟨a1,n1,c1,a2,n2,c2,e,h1.below hb,h2.below hb⟩
def EOwn (B:Nat) (w:World) (t:PErr) (v:Value):Prop :=
 match t with
 | none=>v=.agg #[.int .i64 0,.slice none 0 0,.slice none 0 0]
 | some (n,l)=>∃ a1 n1 c1 a2 n2 c2,v=.agg #[.int .i64 n,.slice a1 n1 c1,.slice a2 n2 c2]∧OwnV 9 B w (.slice a1 n1 c1) (l.map fun x=>Value.string x.1)∧OwnV 3 B w (.slice a2 n2 c2) ((l.map (·.2)).map (Value.int .i64))
theorem OwnV.setBelowBase {E:TypeId} {B:Nat} {w:World} {v:Value} {vs:List Value} (h:OwnV E B w v vs) {a:Addr} (ha:a.block<B) (u:Value):OwnV E B (w.setCell a u) v vs:=ownsRow_setCell_below h ha u
theorem EOwn.at {B:Nat} {w:World} {t:PErr} {v:Value} (h:EOwn B w t v):EAt w t v:=by
 match t,h with
 | none,h=>exact h
 | some (n,l),⟨a1,n1,c1,a2,n2,c2,e,h1,h2⟩=>exact ⟨a1,n1,c1,a2,n2,c2,e,h1.at,OwnI.at (OwnV.toI h2)⟩
theorem EOwn.mono {B B':Nat} {w:World} {t:PErr} {v:Value} (h:EOwn B w t v) (hB:B'≤B):EOwn B' w t v:=by
 match t,h with
 | none,h=>exact h
 | some (n,l),⟨a1,n1,c1,a2,n2,c2,e,h1,h2⟩=>exact ⟨a1,n1,c1,a2,n2,c2,e,h1.mono hB,h2.mono hB⟩
theorem EOwn.below {B:Nat} {w w':World} {t:PErr} {v:Value} (h:EOwn B w t v) (hb:Below w.heap.size w w'):EOwn B w' t v:=by
 match t,h with
 | none,h=>exact h
 | some (n,l),⟨a1,n1,c1,a2,n2,c2,e,h1,h2⟩=>exact ⟨a1,n1,c1,a2,n2,c2,e,h1.below hb,h2.below hb⟩
theorem EOwn.set {B:Nat} {w:World} {t:PErr} {v:Value} (h:EOwn B w t v) {a:Addr} (ha:a.block<B) (u:Value):EOwn B (w.setCell a u) t v:=by
 match t,h with
 | none,h=>exact h
 | some (n,l),⟨a1,n1,c1,a2,n2,c2,e,h1,h2⟩=>exact ⟨a1,n1,c1,a2,n2,c2,e,h1.setBelowBase ha u,h2.setBelowBase ha u⟩
theorem OwnV.lit {E:TypeId} (B:Nat) (w:World) (hB:B≤w.heap.size) (x:Value):OwnV E B (w.alloc (.cells #[x] E)) (.slice (some ⟨w.heap.size,0,none⟩) 1 1) [x] :=
 World.ownsRow_lit (base:=B) (e:=E) (size:=1) w #[x] 1 hB (by unfold maxLen; omega) rfl
theorem EAt.shape {w:World} {t:PErr} {v:Value} (h:EAt w t v):∃ n a1 n1 c1 a2 n2 c2,v=.agg #[.int .i64 n,.slice a1 n1 c1,.slice a2 n2 c2]:=by
 match t,h with
 | none,h=>exact ⟨0,none,0,0,none,0,0,h⟩
 | some (n,l),⟨a1,n1,c1,a2,n2,c2,e,_⟩=>exact ⟨n,a1,n1,c1,a2,n2,c2,e⟩
abbrev zErr:Value:=.agg #[.int .i64 0,.slice none 0 0,.slice none 0 0]
theorem EAt.none (w:World):EAt w none zErr:=rfl
theorem ValsAt.alloc {w:World} {v:Value} {vs:List Value} (h:ValsAt w v vs) (o:Obj):ValsAt (w.alloc o) v vs:=h.below ((Below.refl _ _).alloc (Nat.le_refl _) _)
theorem ValsAt.drew {w:World} {v:Value} {vs:List Value} (h:ValsAt w v vs):ValsAt w.drew v vs:=h
theorem ValsAt.split {w:World} {v:Value} {vs:List Value} (h:ValsAt w v vs):(v=.slice none 0 0∧vs=[])∨∃ p cap,v=.slice (some p) vs.length cap∧∀ j u,vs[j]?=some u→w.cell? (p.add j)=some u:=by
 obtain ⟨a,cap,rfl,h1,h2,h3,h4⟩:=h
 cases a with
 | none =>
  obtain rfl:=h3 rfl
  obtain rfl:=List.length_eq_zero_iff.1 (show vs.length=0 by omega)
  exact .inl ⟨rfl,rfl⟩
 | some p =>
  refine .inr ⟨p,cap,rfl,fun j u hj=>?_⟩
  have hjl:j<vs.length:=(List.getElem?_eq_some_iff.1 hj).1
  have:=h4 j hjl
  simp only [valAt] at this
  rw [this,← hj]; simp [hjl]
theorem IntsAt.alloc {w:World} {v:Value} {xs:List Int} (h:IntsAt w v xs) (o:Obj):IntsAt (w.alloc o) v xs:=h.below ((Below.refl _ _).alloc (Nat.le_refl _) _)
theorem ValsAt.shape {w:World} {v:Value} {vs:List Value} (h:ValsAt w v vs):∃ a n c,v=.slice a n c:=by
 obtain ⟨a,cap,e,_⟩:=h; exact ⟨_,_,_,e⟩
theorem cell_keep {w w':World} {b i:Nat} {x:Value} (hb:Below w.heap.size w w') (h:w.cell? ⟨b,i,none⟩=some x):w'.cell? ⟨b,i,none⟩=some x :=
 (hb.cell (p:=⟨b,i,none⟩) (World.block_lt_of_cell? _ _ h)).trans h
def Box3 (w:World) (b:Nat) (x0 x1 x2:Value):Prop:=(w.cell? ⟨b,0,none⟩=some x0∧w.cell? ⟨b,1,none⟩=some x1∧w.cell? ⟨b,2,none⟩=some x2)∧w.frozen? ⟨b,0,none⟩=false∧w.frozen? ⟨b,1,none⟩=false∧w.frozen? ⟨b,2,none⟩=false
theorem Box3.below {w w':World} {b:Nat} {x0 x1 x2:Value} (h:Box3 w b x0 x1 x2) (hb:Below w.heap.size w w'):Box3 w' b x0 x1 x2:=by
 obtain ⟨⟨h0,h1,h2⟩,f0,f1,f2⟩:=h
 have hlt:=World.block_lt_of_cell? _ _ h0
 exact ⟨⟨cell_keep hb h0,cell_keep hb h1,cell_keep hb h2⟩,(hb.frozen (p:=⟨b,0,none⟩) hlt).trans f0,(hb.frozen (p:=⟨b,1,none⟩) hlt).trans f1,(hb.frozen (p:=⟨b,2,none⟩) hlt).trans f2⟩
theorem Box3.alloc {w:World} {b:Nat} {x0 x1 x2:Value} (h:Box3 w b x0 x1 x2) (o:Obj):Box3 (w.alloc o) b x0 x1 x2:=h.below ((Below.refl _ _).alloc (Nat.le_refl _) _)
theorem Box3.drew {w:World} {b:Nat} {x0 x1 x2:Value} (h:Box3 w b x0 x1 x2):Box3 w.drew b x0 x1 x2:=h
theorem OwnV.drew {E:TypeId} {B:Nat} {w:World} {v:Value} {vs:List Value} (h:OwnV E B w v vs):OwnV E B w.drew v vs:=h
theorem Below.stepL {w1 w2 w3:World} (h:Below w1.heap.size w1 w2) (k:Below w2.heap.size w2 w3):Below w1.heap.size w1 w3:=h.trans (k.mono h.size)
theorem belowAlloc' (w:World) (o:Obj):Below w.heap.size w (w.alloc o):=(Below.refl _ _).alloc (Nat.le_refl _) _
end Go.Proofs.YtkaoebokbfcmhaaGreatDoor
namespace Go.Proofs.YtkaoebokbfcmhaaGreatDoor
open Go.RowKit
theorem indexFunc_any (v b:Value) (F:Nat) (xs:List Int) (p:Int→Bool) (w:World) (h:IntsAt w v xs)
 (eg:∀ args w,(callFunc F args).run Tryz.prog w=.ok (.enter F args) w)
 (hF:∀ x:Int,x∈xs→Calls Tryz.prog F #[.int .i64 x,b] w fun e w'=>e=.returned (.bool (p x))∧w=w') :
 Calls Tryz.prog 91 #[v,.func (.func F) #[] #[b]] w fun e w'=>e=.returned (.int .i64 (idxOf p xs))∧w=w':=by
 have hlen:=h.len
 have hm:=h.len_le
 go_enter Tryz.func91,Tryz.ntmps91
 go_wp2
 go_loop [8] (fun i=>∃ k:Nat,k≤xs.length∧i=.int .i64 k∧∀ j (hj:j<xs.length),j<k→p xs[j]=false) (fun i=>xs.length-(intOf i).toNat)
 case atStart=>exact ⟨0,by omega,rfl,by omega⟩
 case round =>
  obtain ⟨k,hk,rfl,hp⟩:=hrel
  replace hp:=Hd hp
  by_cases hlt:k<xs.length
  ·have hi:=h.idx k hlt
   have hc:=h.cell k hlt
   have hf:=Hd (hF xs[k] (by simp))
   clear hF
   go_wp2_with fail
   refine hf.out.mono ?_
   rintro e w' ⟨rfl,rfl⟩
   cases hpk:p xs[k]
   ·have HP:=Hd hpk
    go_wp2
    go_round
    case rel =>
     refine ⟨k+1,by omega,by go_num,?_⟩
     intro j hj hjk
     by_cases e:j=k
     ·subst e; exact HP.out
     ·exact hp.out j hj (by omega)
    case measure=>simp [intOf]; omega
   ·have HP:=Hd hpk
    go_wp2
    go_ret
    exact ⟨ret_int (idxOf_at k hlt HP.out fun j hj h=>hp.out j hj h).symm,rfl⟩
  ·go_wp2
   go_ret
   refine ⟨ret_int (idxOf_neg fun x hx=>?_).symm,rfl⟩
   obtain ⟨j,hj,rfl⟩:=List.mem_iff_getElem.1 hx
   exact hp.out j hj (by omega)
theorem rule_wrong (r:Nat→Addr) (at_ n:Int) (w:World) (hg:Glob r w) (h1:1≤n) (h2:n≤11) :
 Calls Tryz.prog 38 #[.int .i64 at_,.int .i64 n] w (Ret1 (fun v w'=>ErrIs r w' (fresh sRule at_ n) v) w):=by
 go_enter Tryz.func38,Tryz.ntmps38
 go_wp2_with fail
 refine (new_any r _ at_ n w hg h1 h2).mono ?_
 rintro e w' ⟨v,rfl,hb,he⟩
 go_wp2
 go_ret
 exact ⟨_,rfl,hb,he⟩
theorem rule_odd1 (x k:Int) (b:Addr) (w:World) (hb:w.cell? b=some (.int .i64 k)) :
 Calls Tryz.prog 127 #[.int .i64 x,.pointer (some b)] w fun e w'=>e=.returned (.bool (odd1 k x))∧w=w':=by
 by_cases h:x<0
 ·have e:odd1 k x=true:=by simp [odd1,h]
  rw [e]
  go_enter Tryz.func127,Tryz.ntmps127
  go_wp2
  go_ret
  exact ⟨rfl,rfl⟩
 ·have e:odd1 k x=decide (k≤x):=by simp [odd1,h]
  rw [e]
  go_enter Tryz.func127,Tryz.ntmps127
  go_wp2
  go_ret
  exact ⟨ret_bool (by simp),rfl⟩
theorem eg_rule_odd1 (args:Array Value) (w:World):(callFunc 127 args).run Tryz.prog w=.ok (.enter 127 args) w:=by kernel_rfl
theorem rule_odd (k:Int) (v:Value) (xs:List Int) (w:World) (h:IntsAt w v xs) :
 Calls Tryz.prog 89 #[.int .i64 k,v] w (Ret1 (fun x _=>x=.int .i64 (idxOf (odd1 k) xs)) w):=by
 have h':=Hd h
 clear h
 go_enter Tryz.func89,Tryz.ntmps89
 go_wp2_with fail
 refine (indexFunc_any v _ 127 xs (odd1 k) _ (h'.out.below ((Below.refl _ _).alloc (Nat.le_refl _) _)) eg_rule_odd1 (fun x _=>rule_odd1 x k _ _ (by simp))).mono ?_
 rintro e w' ⟨rfl,rfl⟩
 go_wp2
 go_ret
 exact ⟨_,rfl,(Below.refl _ _).alloc (Nat.le_refl _) _,rfl⟩
theorem size_ok (K R:Nat) (w:World) (h1:1≤K) (h4:K≤4) (h3:R≤3) :
 Calls Tryz.prog 88 #[.int .i64 K,.int .i64 R] w fun e w'=>e=.returned (.tuple #[.int .i64 (pw K (2*R+1)),.nilIface])∧w=w':=by
 go_enter Tryz.func88,Tryz.ntmps88
 go_wp2
 go_loop [6,25] (fun n i=>∃ k:Nat,k≤2*R∧i=.int .i64 k∧n=.int .i64 (pw K (k+1))) (fun _ i=>2*R-(intOf i).toNat)
 case atStart=>exact ⟨0,by omega,rfl,by rw [pw_one]⟩
 case round =>
  obtain ⟨k,hk,rfl,rfl⟩:=hrel
  by_cases hlt:k<2*R
  ·have hb:=pw_le (i:=k+1+1) h1 h4 (by omega)
   have hs:((pw K (k+1+1):Nat):Int)=(pw K (k+1):Int)*(K:Int):=by rw [pw_succ]; simp
   have hb1:0≤(pw K (k+1):Int)*(K:Int):=by rw [← hs]; omega
   have hb2:(pw K (k+1):Int)*(K:Int)≤16384:=by rw [← hs]; omega
   replace hs:=Hd hs
   go_wp2
   go_round
   case rel=>exact ⟨k+1,by omega,by go_num,by rw [hs.out]⟩
   case measure=>simp [intOf]; omega
  ·obtain rfl:k=2*R:=by omega
   go_wp2
   go_ret2
   exact ⟨rfl,rfl⟩
theorem size_bad (r:Nat→Addr) (k R:Int) (w:World) (hg:Glob r w) (h:k<1∨4<k∨R<0∨3<R) :
 Calls Tryz.prog 88 #[.int .i64 k,.int .i64 R] w (Ret2 (fun x y w'=>x=.int .i64 0∧ErrIs r w' (fresh sRule 0 3) y) w):=by
 have hg':=Hd hg
 clear hg
 by_cases h1:k<1
 ·clear h
  go_enter Tryz.func88,Tryz.ntmps88
  go_wp2_with fail
  refine (rule_wrong r _ _ w hg'.out (by decide) (by decide)).mono ?_
  rintro e w' ⟨v,rfl,hb,he⟩
  go_wp2
  go_ret2
  exact ⟨_,_,rfl,hb,rfl,he⟩
 by_cases h2:4<k
 ·clear h
  go_enter Tryz.func88,Tryz.ntmps88
  go_wp2_with fail
  refine (rule_wrong r _ _ w hg'.out (by decide) (by decide)).mono ?_
  rintro e w' ⟨v,rfl,hb,he⟩
  go_wp2
  go_ret2
  exact ⟨_,_,rfl,hb,rfl,he⟩
 by_cases h3:R<0
 ·clear h
  go_enter Tryz.func88,Tryz.ntmps88
  go_wp2_with fail
  refine (rule_wrong r _ _ w hg'.out (by decide) (by decide)).mono ?_
  rintro e w' ⟨v,rfl,hb,he⟩
  go_wp2
  go_ret2
  exact ⟨_,_,rfl,hb,rfl,he⟩
 have h4:3<R:=by omega
 clear h
 go_enter Tryz.func88,Tryz.ntmps88
 go_wp2_with fail
 refine (rule_wrong r _ _ w hg'.out (by decide) (by decide)).mono ?_
 rintro e w' ⟨v,rfl,hb,he⟩
 go_wp2
 go_ret2
 exact ⟨_,_,rfl,hb,rfl,he⟩
set_option maxRecDepth 100000
def RetB (b:Bool) (w:World) (e:Ending) (w':World):Prop:=∃ n:Nat,e=.returned (.bool b)∧w'=w.drewN n
theorem RetB.below {b:Bool} {w w':World} {e:Ending} (h:RetB b w e w'):e=.returned (.bool b)∧Below w.heap.size w w':=by
 obtain ⟨n,he,rfl⟩:=h
 exact ⟨he,below_drewN (Below.refl _ _) n⟩
theorem IntsAt.split {w:World} {v:Value} {xs:List Int} (h:IntsAt w v xs):(v=.slice none 0 0∧xs=[])∨∃ p cap,v=.slice (some p) xs.length cap:=by
 obtain ⟨a,cap,rfl,h1,h2,h3,h4⟩:=h
 cases a with
 | none =>
  obtain rfl:=h3 rfl
  obtain rfl:=List.length_eq_zero_iff.1 (show xs.length=0 by omega)
  exact .inl ⟨rfl,rfl⟩
 | some p=>exact .inr ⟨p,cap,rfl⟩
theorem clone_any (v:Value) (xs:List Int) (w:World) (h:IntsAt w v xs) (hl:xs.length≤17592186044416) :
 Calls Tryz.prog 62 #[v] w (Ret1 (fun x w'=>OwnI w.heap.size w' x xs) w):=by
 rcases h.split with ⟨rfl,rfl⟩ | ⟨p,cap,rfl⟩
 ·have hn:=fun w'=>Lib.run_eql_slice_nil (P:=Tryz.prog) w' _ _ none 0 0 0 0 uInts
  clear h
  go_enter Tryz.func62,Tryz.ntmps62
  go_wp2
  go_ret
  exact ⟨_,rfl,Below.refl _ _,OwnI.nil _ _⟩
 ·have hn:=fun w'=>Lib.run_eql_slice_nil (P:=Tryz.prog) w' _ _ (some p) xs.length cap 0 0 uInts
  have h':=Hd h
  clear h
  go_enter Tryz.func62,Tryz.ntmps62
  go_wp2_with (at_builtin; refine wpl_append rfl _ _ rfl w.heap.size _ _ [] xs (OwnI.lit _ _ (Nat.le_refl _) [] (by decide) #[] rfl 0 rfl) (h'.out.below ((Below.refl _ _).alloc (Nat.le_refl _) _)) rfl rfl (by simpa using hl) (by simp) ?_)
  intro v' w' ho hb _ _
  go_wp2
  go_ret
  exact ⟨_,rfl,((Below.refl _ _).alloc (Nat.le_refl _) _).trans hb,by simpa using ho⟩
theorem oneNats:OneCell 110 35 (.slice none 0 0) 24:=⟨by kernel_rfl,by kernel_rfl,rfl,by decide,fun _=>by kernel_rfl⟩
def NumAt (w:World) (v:Value) (n:Nat):Prop:=∃ l,LimbsAt w v l∧Limbs l∧Norm l∧natV l=n
theorem NumIs.num {B:Nat} {w:World} {v:Value} {n:Nat} (h:NumIs B w v n):NumAt w v n:=by
 obtain ⟨l,h1,h2⟩:=h; exact ⟨l,h1.at,h2⟩
theorem NumAt.below {w w':World} {v:Value} {n:Nat} (h:NumAt w v n) (hb:Below w.heap.size w w'):NumAt w' v n:=by
 obtain ⟨l,h1,h2⟩:=h; exact ⟨l,h1.below hb,h2⟩
theorem NumAt.nil (w:World):NumAt w (.slice none 0 0) 0:=⟨[],(OwnV.nil 82 0 w).at,(by intro x hx; cases hx),(by intro h; exact absurd rfl h),rfl⟩
theorem NumAt.shape {w:World} {v:Value} {n:Nat} (h:NumAt w v n):∃ a m c,v=.slice a m c:=by
 obtain ⟨l,h1,_⟩:=h; exact h1.shape
theorem NumAt.set {w:World} {v u:Value} {n:Nat} {a:Addr} (h:NumAt w v n) (hc:w.cell? a=some u) (hu:∀ x,u≠.int .u32 x) (y:Value):NumAt (w.setCell a y) v n:=by
 obtain ⟨l,h1,h2⟩:=h
 refine ⟨l,ValsAt.cells_eq h1 fun i hi=>World.cell?_setCell_other _ _ _ _ (fun e=>?_),h2⟩
 have h3:=ValsAt.cell h1 i hi
 rw [← e,hc] at h3
 injection h3 with h3
 exact hu _ (h3.trans (List.getElem_map ..))
structure NumsIn (w:World) (vs:List Value) (ns:List Nat):Prop where
 len:vs.length=ns.length
 each:∀ i,i<ns.length→NumAt w (vs.getD i .nilIface) (ns.getD i 0)
theorem NumsIn.below {w w':World} {vs:List Value} {ns:List Nat} (h:NumsIn w vs ns) (hb:Below w.heap.size w w'):NumsIn w' vs ns:=⟨h.len,fun i hi=>(h.each i hi).below hb⟩
theorem NumsIn.set {w:World} {vs:List Value} {ns:List Nat} {a:Addr} {u:Value} (h:NumsIn w vs ns) (hc:w.cell? a=some u) (hu:∀ x,u≠.int .u32 x) (y:Value):NumsIn (w.setCell a y) vs ns:=⟨h.len,fun i hi=>(h.each i hi).set hc hu y⟩
theorem NumsIn.upd {w:World} {vs:List Value} {ns:List Nat} (h:NumsIn w vs ns) (i:Nat) {y:Value} {n:Nat} (hy:NumAt w y n):NumsIn w (vs.set i y) (ns.set i n):=by
 refine ⟨by simp [h.len],fun j hj=>?_⟩
 rw [List.length_set] at hj
 have hjv:j<vs.length:=by rw [h.len]; exact hj
 by_cases e:i=j
 ·subst e
  have a1:(vs.set i y).getD i .nilIface=y:=by simp [List.getD,hjv]
  have a2:(ns.set i n).getD i 0=n:=by simp [List.getD,hj]
  rw [a1,a2]; exact hy
 ·have a1:(vs.set i y).getD j .nilIface=vs.getD j .nilIface:=by simp [List.getD,List.getElem?_set_ne e]
  have a2:(ns.set i n).getD j 0=ns.getD j 0:=by simp [List.getD,List.getElem?_set_ne e]
  rw [a1,a2]; exact h.each j hj
theorem NumsIn.zeros (w:World) (n:Nat):NumsIn w (List.replicate n (.slice none 0 0)) (List.replicate n 0):=by
 refine ⟨by simp,fun i hi=>?_⟩
 rw [List.length_replicate] at hi
 have a1:(List.replicate n (Value.slice none 0 0)).getD i .nilIface=.slice none 0 0:=by simp [List.getD,hi]
 have a2:(List.replicate n 0).getD i 0=0:=by simp [List.getD,hi]
 rw [a1,a2]; exact NumAt.nil w
theorem getD_at {vs:List Value} {i:Nat} (h:i<vs.length):vs.getD i .nilIface=vs[i]:=by simp [List.getD,h]
def AllLe (ns:List Nat) (M:Nat):Prop:=∀ i,ns.getD i 0≤M
theorem sum_le_c {n M:Nat} {f:Nat→Nat} (h:∀ i,f i≤M):((List.range n).map f).sum≤n*M:=by
 induction n with
 | zero=>simp
 | succ n ih =>
  rw [List.range_succ,List.map_append,List.sum_append]
  have:=h n
  simp only [List.map_cons,List.map_nil,List.sum_cons,List.sum_nil]
  rw [Nat.add_mul]; omega
theorem step_le {K N:Nat} (hK:1≤K) {T:List Int} {at_:List Nat} {y:Int} {M:Nat} (h:AllLe at_ M) {j:Nat} (hj:j≤N*K):AllLe (stepN K N T at_ y j) (K*M):=by
 intro u
 by_cases hu:u<N
 ·rw [stepN_get hK j hj u hu]
  refine Nat.le_trans (sum_le_c (M:=M) fun i=>?_) (Nat.mul_le_mul_right _ (Nat.min_le_left _ _))
  split
  ·exact h _
  ·exact Nat.zero_le _
 ·rw [List.getD_eq_getElem?_getD,List.getElem?_eq_none (by rw [stepN_len]; omega)]; exact Nat.zero_le _
theorem way_le {K N:Nat} (hK:1≤K) {T:List Int} {ends:List Nat} (h:AllLe ends 1):∀ ws:List Int,AllLe (wayE K N T ends ws) (K ^ ws.length)
 | []=>by simpa [wayE] using h
 | y::ws=>by
  rw [← stepN_wayE hK,List.length_cons,Nat.pow_succ,Nat.mul_comm (K ^ ws.length) K]
  exact step_le hK (way_le hK h ws) (Nat.le_refl _)
theorem limbs_low {l:List Nat} (hn:Norm l) (hne:l≠[]):4294967296 ^ (l.length-1)≤natV l:=by
 obtain ⟨b,x,rfl⟩:∃ b x,l=b++[x]:=⟨l.dropLast,l.getLast hne,(List.dropLast_concat_getLast hne).symm⟩
 have hx:x≠0:=by have:=hn hne; simpa using this
 rw [natV_snoc,List.length_append,List.length_singleton,Nat.add_sub_cancel]
 have:=Nat.mul_le_mul_left (4294967296 ^ b.length) (show 1≤x by omega)
 omega
theorem limbs_le {l:List Nat} (hn:Norm l) {k:Nat} (h:natV l<4294967296 ^ k):l.length≤k:=by
 by_cases hne:l=[]
 ·subst hne; simp
 ·have h1:=limbs_low hn hne
  have h2:4294967296 ^ (l.length-1)<4294967296 ^ k:=Nat.lt_of_le_of_lt h1 h
  have h3:=(Nat.pow_lt_pow_iff_right (show 1<4294967296 by decide)).1 h2
  omega
theorem limbs_four {l:List Nat} (hn:Norm l) {e k:Nat} (h:natV l≤4 ^ e) (he:e<16*k):l.length≤k :=
 limbs_le hn (Nat.lt_of_le_of_lt h (by rw [show (4294967296:Nat)=4 ^ 16 from rfl,← Nat.pow_mul]; exact Nat.pow_lt_pow_right (by decide) he))
def eW:Nat:=300
def eB:Nat:=400
theorem num_len {l:List Nat} (hn:Norm l) (h:natV l≤4 ^ eB):l.length≤1000000:=Nat.le_trans (limbs_four hn h (k:=100) (by decide)) (by decide)
theorem four_le {K n e:Nat} (hK:K≤4) (hn:n≤e):K ^ n≤4 ^ e:=Nat.le_trans (Nat.pow_le_pow_left hK n) (Nat.pow_le_pow_right (by decide) hn)
theorem nat_addN (v u:Value) (n m:Nat) (w:World) (h:NumAt w v n) (k:NumAt w u m) (hn:n≤4 ^ eB) (hm:m≤4 ^ eB) :
 Calls Tryz.prog 12 #[v,u] w (Ret1 (fun x w'=>NumIs w.heap.size w' x (n+m)) w):=by
 obtain ⟨l,h1,h2,h3,rfl⟩:=h
 obtain ⟨l',k1,k2,k3,rfl⟩:=k
 exact nat_add v u l l' w h1 k1 h2 k2 (num_len h3 hn) (num_len k3 hm)
def mkA (t:Nat):Int:=-2*(t:Int)-1
def mkB (t:Nat):Int:=-2*(t:Int)-2
def vAt (vs:List Value) (t:Nat):Value:=vs.getD t undef
theorem ValsAt.cellV {w:World} {v:Value} {vs:List Value} (h:ValsAt w v vs) (i:Nat) (hi:i<vs.length):w.cell? (valAt v i)=some (vAt vs i):=by
 rw [h.cell i hi]; simp [vAt,List.getD,hi]
structure Parted (lv:Value) (vs:List Value):Prop where
 two:∀ s t,s<vs.length→t<vs.length→s≠t→(vAt vs s).ownBlock=none∨(vAt vs s).ownBlock≠(vAt vs t).ownBlock
 top:∀ i t,i<vs.length→t<vs.length→(vAt vs t).ownBlock≠some (valAt lv i).block
theorem ValsAt.grown {w w':World} {row:Option Nat} {v:Value} {vs:List Value} (h:ValsAt w v vs) (hg:w.grownBy w' row) (hne:∀ i,i<vs.length→row≠some (valAt v i).block):ValsAt w' v vs :=
 h.cells_eq fun i hi=>World.cell?_of_block (hg.block _ (h.blk i hi) (fun e=>hne i hi e.symm))
def rA (X:Nat→List Int) (t:Nat):List Int:=List.replicate (X t).length (mkA t)
def rB (X:Nat→List Int) (t:Nat) (j:Nat):List Int:=rA X t++List.replicate j (mkB t)
theorem rB_zero (X:Nat→List Int) (t:Nat):rB X t 0=rA X t:=by simp [rB]
theorem rB_succ (X:Nat→List Int) (t j:Nat):rB X t (j+1)=rB X t j++[mkB t]:=by simp [rB,List.replicate_succ']
theorem grownBy_trans' {a b c:World} {row row':Option Nat} (h:a.grownBy b row) (k:b.grownBy c row') (hr:∀ i,row'=some i→a.heap.size≤i):a.grownBy c row :=
 ⟨k.os.trans h.os,k.tape.trans h.tape,k.output.trans h.output,Nat.le_trans h.size k.size,fun i hi hne=>(k.block i (Nat.lt_of_lt_of_le hi h.size) (fun e=>by have:=hr i e.symm; omega)).trans (h.block i hi hne)⟩
theorem OwnI.front {B:Nat} {w w':World} {v v':Value} {xs ys:List Int} (h:OwnI B w v xs) (h':OwnI B w' v' (xs++ys)) (hb:roomOf v'=roomOf v):OwnI B w' v xs :=
 OwnV.toI (OwnV.front h.toV (by simpa using h'.toV) hb)
theorem ownBlock_eq {B B':Nat} {w w':World} {v v':Value} {xs ys:List Int} (h:OwnI B w v xs) (h':OwnI B' w' v' ys) (hr:roomOf v'=roomOf v):v'.ownBlock=v.ownBlock:=by
 obtain ⟨a,n,c,e⟩:=h.at.shape
 obtain ⟨a',n',c',e'⟩:=h'.at.shape
 exact ownBlock_of_room e e' hr
structure Grows (B:Nat) (X:Nat→List Int) (k:Nat) (v:Value) (wi:World) (q:Nat) (g:Value) (wr:World):Prop where
 own:OwnI B wr g (rB X k q)
 old:OwnI B wr v (rA X k)
 step:wi.grownBy wr v.ownBlock
 lt:∀ b,v.ownBlock=some b→b<wi.heap.size
 at_:(roomOf g=roomOf v)∨∃ b,g.ownBlock=some b∧wi.heap.size≤b
theorem Grows.start {B:Nat} {X:Nat→List Int} {k:Nat} {v:Value} {wi:World} (h:OwnI B wi v (rA X k)):Grows B X k v wi 0 v wi :=
 ⟨by rw [rB_zero]; exact h,h,World.grownBy.refl _ _,fun b hb=>(h.lt b hb).2,.inl rfl⟩
theorem Grows.next {B:Nat} {X:Nat→List Int} {k:Nat} {v:Value} {wi:World} {q:Nat} {g:Value} {wr:World} (h:Grows B X k v wi q g wr) {g':Value} {w':World}
 (ho:OwnI B w' g' (rB X k q++[mkB k])) (ha:(roomOf g'=roomOf g∧wr.grownBy w' g.ownBlock)∨(∃ b,g'.ownBlock=some b∧wr.heap.size≤b∧wr.grownBy w' none)):Grows B X k v wi (q+1) g' w':=by
 rw [← rB_succ] at ho
 have hsz:=h.step.size
 rcases ha with ⟨hr,hg⟩ | ⟨b,hb,hlt,hg⟩
 ·rcases h.at_ with hat | ⟨b0,hb0,hlt0⟩
  ·have e:=ownBlock_eq h.old h.own hat
   rw [e] at hg
   exact ⟨ho,OwnI.front h.old (ys:=List.replicate (q+1) (mkB k)) ho (hr.trans hat),h.step.trans hg,h.lt,.inl (hr.trans hat)⟩
  ·have e:=ownBlock_eq h.own ho hr
   have hne:v.ownBlock=none∨v.ownBlock≠g.ownBlock:=by
    cases hv:v.ownBlock with
    | none=>exact .inl rfl
    | some kv =>
     right
     rw [hb0]
     intro e2
     simp at e2
     have:=h.lt kv hv
     omega
   exact ⟨ho,h.old.kept hg hne,grownBy_trans' h.step hg (fun i hi=>by rw [hb0] at hi; simp at hi; omega),h.lt,.inr ⟨b0,by rw [e]; exact hb0,hlt0⟩⟩
 ·exact ⟨ho,h.old.kept hg (by cases hv:v.ownBlock<;>simp),grownBy_trans' h.step hg (by intro i hi; cases hi),h.lt,.inr ⟨b,hb,by omega⟩⟩
structure Grown (B:Nat) (X:Nat→List Int) (vs:List Value) (gv:Value) (k:Nat) (gl:List Value) (wr:World):Prop where
 own:∀ t,t<k→OwnI B wr (vAt gl t) (rB X t 40)
 far:∀ t s,t<k→s<vs.length→s≠t→(vAt vs s).ownBlock=none∨(vAt gl t).ownBlock≠(vAt vs s).ownBlock
 top:∀ t,t<k→(vAt gl t).ownBlock≠gv.ownBlock
end Go.Proofs.YtkaoebokbfcmhaaGreatDoor
namespace Go.Proofs.YtkaoebokbfcmhaaGreatDoor
open Go.RowKit
theorem Below.step {w1 w2 w3:World} (h:Below w1.heap.size w1 w2) (k:Below w2.heap.size w2 w3):Below w1.heap.size w1 w3:=h.trans (k.mono h.size)
theorem belowAlloc (w:World) (o:Obj):Below w.heap.size w (w.alloc o):=(Below.refl _ _).alloc (Nat.le_refl _) _
def Owns (w:World):Nat→List Value→List (List Int)→Prop
 | lo,[],[]=>lo≤w.heap.size
 | lo,v::vs,x::xs=>∃ hi,lo≤hi∧OwnI lo w v x∧(∀ k,v.ownBlock=some k→k<hi)∧Owns w hi vs xs
 | _,_,_=>False
theorem Owns.get {w:World}:∀ {vs:List Value} {xs:List (List Int)} {lo:Nat},Owns w lo vs xs→vs.length=xs.length∧∀ t,t<vs.length→OwnI lo w (vAt vs t) (xs.getD t [])
 | [],[],_,_=>⟨rfl,by intro t h; simp at h⟩
 | v::vs,x::xs,lo,⟨hi,hle,ho,_,hr⟩=>by
  obtain ⟨hl,hg⟩:=Owns.get hr
  refine ⟨by simp [hl],fun t ht=>?_⟩
  cases t with
  | zero=>exact ho
  | succ t=>exact (hg t (by simpa using ht)).mono hle
 | [],_::_,_,h=>h.elim
 | _::_,[],_,h=>h.elim
theorem Owns.two {w:World}:∀ {vs:List Value} {xs:List (List Int)} {lo:Nat},Owns w lo vs xs→∀ s t,s<vs.length→t<vs.length→s≠t→(vAt vs s).ownBlock=none∨(vAt vs s).ownBlock≠(vAt vs t).ownBlock
 | [],[],_,_,s,t,hs,_,_=>by simp at hs
 | v::vs,x::xs,lo,⟨hi,hle,ho,hlt,hr⟩,s,t,hs,ht,hne=>by
  have hg:=(Owns.get hr).2
  have key:∀ t,t<vs.length→∀ k,v.ownBlock=some k→(vAt vs t).ownBlock≠some k:=fun t ht k hk e=>by
   have h1:=hlt k hk
   have h2:=((hg t ht).lt k e).1
   omega
  match s,t,hs,ht,hne with
  | 0,0,_,_,hne=>exact absurd rfl hne
  | 0,t+1,_,ht,_ =>
   show v.ownBlock=none∨v.ownBlock≠(vAt vs t).ownBlock
   cases hk:v.ownBlock with
   | none=>exact .inl rfl
   | some k=>exact .inr fun e=>key t (by simpa using ht) k hk e.symm
  | s+1,0,hs,_,_ =>
   show (vAt vs s).ownBlock=none∨(vAt vs s).ownBlock≠v.ownBlock
   cases hk:v.ownBlock with
   | none=>cases (vAt vs s).ownBlock<;>simp
   | some k=>exact .inr (key s (by simpa using hs) k hk)
  | s+1,t+1,hs,ht,hne=>exact Owns.two hr s t (by simpa using hs) (by simpa using ht) (by omega)
 | [],_::_,_,h,_,_,_,_,_=>h.elim
 | _::_,[],_,h,_,_,_,_,_=>h.elim
theorem Owns.alloc {w:World} (o:Obj):∀ {vs:List Value} {xs:List (List Int)} {lo:Nat},Owns w lo vs xs→Owns (w.alloc o) lo vs xs
 | [],[],lo,h=>by show lo≤(w.alloc o).heap.size; have:lo≤w.heap.size:=h; simp; omega
 | v::vs,x::xs,lo,⟨hi,hle,ho,hlt,hr⟩=>⟨hi,hle,ho.alloc o,hlt,Owns.alloc o hr⟩
 | [],_::_,_,h=>h.elim
 | _::_,[],_,h=>h.elim
set_option maxRecDepth 100000
theorem EOwn.shape {B:Nat} {w:World} {t:PErr} {v:Value} (h:EOwn B w t v):∃ n a1 n1 c1 a2 n2 c2,v=.agg #[.int .i64 n,.slice a1 n1 c1,.slice a2 n2 c2]:=h.at.shape
theorem below_set3 {B b:Nat} {w0 w:World} (h:Below B w0 w) (hb:B≤b) (x y z:Value):Below B w0 (((w.setCell ⟨b,0,none⟩ x).setCell ⟨b,1,none⟩ y).setCell ⟨b,2,none⟩ z) :=
 ((h.setCell (p:=⟨b,0,none⟩) hb x).setCell (p:=⟨b,1,none⟩) hb y).setCell (p:=⟨b,2,none⟩) hb z
end Go.Proofs.YtkaoebokbfcmhaaGreatDoor
namespace Go.Proofs.YtkaoebokbfcmhaaGreatDoor
open Go.RowKit
theorem check_k (r:Nat→Addr) (k R:Int) (v:Value) (w:World) (hg:Glob r w) (h:k<1∨4<k) :
 Calls Tryz.prog 37 #[.agg #[.int .i64 k,.int .i64 R,v]] w (Ret1 (fun x w'=>ErrIs r w' (fresh sRule 0 1) x) w):=by
 have hg':=Hd (hg.below ((Below.refl _ _).alloc (Nat.le_refl _) (.cells #[.int .i64 k,.int .i64 R,v] 24)))
 clear hg
 rcases h with h | h <;>
 (go_enter Tryz.func37,Tryz.ntmps37
  go_wp2_with fail
  refine (rule_wrong r _ _ _ hg'.out (by decide) (by decide)).mono ?_
  rintro e w' ⟨x,rfl,hb,he⟩
  go_wp2
  go_ret
  exact ⟨_,rfl,((Below.refl _ _).alloc (Nat.le_refl _) _).trans (hb.mono (by simp)),he⟩)
theorem check_r (r:Nat→Addr) (k R:Int) (v:Value) (w:World) (hg:Glob r w) (h1:1≤k) (h4:k≤4) (h:R<0∨3<R) :
 Calls Tryz.prog 37 #[.agg #[.int .i64 k,.int .i64 R,v]] w (Ret1 (fun x w'=>ErrIs r w' (fresh sRule 1 1) x) w):=by
 have hg':=Hd (hg.below ((Below.refl _ _).alloc (Nat.le_refl _) (.cells #[.int .i64 k,.int .i64 R,v] 24)))
 clear hg
 go_enter Tryz.func37,Tryz.ntmps37
 go_wp2_with fail
 refine (size_bad r _ _ _ hg'.out (by omega)).mono ?_
 rintro e w1 ⟨x,y,rfl,hb,rfl,he⟩
 obtain ⟨T,a,rfl⟩:=he.some_shape
 clear he
 go_wp2_with fail
 refine (rule_wrong r _ _ _ (hg'.out.below hb) (by decide) (by decide)).mono ?_
 rintro e w' ⟨x,rfl,hb',he⟩
 go_wp2
 go_ret
 exact ⟨_,rfl,(((Below.refl _ _).alloc (Nat.le_refl _) _).trans (hb.mono (by simp))).trans (hb'.mono (by have:=hb.size; simp at this; omega)),he⟩
theorem check_len (r:Nat→Addr) (K R:Nat) (v:Value) (xs:List Int) (w:World) (hg:Glob r w) (h:IntsAt w v xs) (h1:1≤K) (h4:K≤4) (h3:R≤3) (hl:xs.length≠pw K (2*R+1)) :
 Calls Tryz.prog 37 #[.agg #[.int .i64 K,.int .i64 R,v]] w (Ret1 (fun x w'=>ErrIs r w' (fresh sRule 2 1) x) w):=by
 have hg':=Hd (hg.below ((Below.refl _ _).alloc (Nat.le_refl _) (.cells #[.int .i64 K,.int .i64 R,v] 24)))
 clear hg
 have hlen:=h.len
 clear h
 have hne:((xs.length:Int) != (pw K (2*R+1):Int))=true:=by simp; omega
 clear hl
 go_enter Tryz.func37,Tryz.ntmps37
 go_wp2_with fail
 refine (size_ok K R _ h1 h4 h3).mono ?_
 rintro e w1 ⟨rfl,rfl⟩
 go_wp2_with fail
 refine (rule_wrong r _ _ _ hg'.out (by decide) (by decide)).mono ?_
 rintro e w' ⟨x,rfl,hb',he⟩
 go_wp2
 go_ret
 exact ⟨_,rfl,((Below.refl _ _).alloc (Nat.le_refl _) _).trans (hb'.mono (by simp)),he⟩
theorem check_odd (r:Nat→Addr) (K R:Nat) (v:Value) (xs:List Int) (i:Nat) (w:World) (hg:Glob r w) (h:IntsAt w v xs) (h1:1≤K) (h4:K≤4) (h3:R≤3) (hl:xs.length=pw K (2*R+1)) (hi:idxOf (odd1 K) xs=i) (hi':i<xs.length) :
 Calls Tryz.prog 37 #[.agg #[.int .i64 K,.int .i64 R,v]] w (Ret1 (fun x w'=>ErrIs r w' (fresh sRule (3+i) 1) x) w):=by
 have hg':=Hd (hg.below ((Below.refl _ _).alloc (Nat.le_refl _) (.cells #[.int .i64 K,.int .i64 R,v] 24)))
 clear hg
 have hm:=h.len_le
 have h':=Hd (h.below ((Below.refl _ _).alloc (Nat.le_refl _) (.cells #[.int .i64 K,.int .i64 R,v] 24)))
 have hlen:=h.len
 clear h
 have hne:((xs.length:Int) != (pw K (2*R+1):Int))=false:=by simp; omega
 clear hl
 replace hi:=Hd hi
 go_enter Tryz.func37,Tryz.ntmps37
 go_wp2_with fail
 refine (size_ok K R _ h1 h4 h3).mono ?_
 rintro e w1 ⟨rfl,rfl⟩
 go_wp2_with fail
 refine (rule_odd K v xs _ h'.out).mono ?_
 rintro e w1 ⟨x,rfl,hb,rfl⟩
 rw [hi.out]
 have hlt:i<9223372036854775807:=by omega
 have hb3:(3+(i:Int))≤9223372036854775807:=by
  have:=pw_le (i:=2*R+1) h1 h4 (by omega)
  have:¬ ((xs.length:Int) != (pw K (2*R+1):Int))=true:=by rw [hne]; simp
  simp at this
  omega
 go_wp2_with fail
 refine (rule_wrong r _ _ _ (hg'.out.below hb) (by decide) (by decide)).mono ?_
 rintro e w' ⟨x,rfl,hb',he⟩
 go_wp2
 go_ret
 exact ⟨_,rfl,(((Below.refl _ _).alloc (Nat.le_refl _) _).trans (hb.mono (by simp))).trans (hb'.mono (by have:=hb.size; simp at this; omega)),he⟩
theorem check_ok (K R:Nat) (v:Value) (xs:List Int) (w:World) (h:IntsAt w v xs) (hr:RuleOk K R xs) :
 Calls Tryz.prog 37 #[.agg #[.int .i64 K,.int .i64 R,v]] w (Ret1 (fun x _=>x=.nilIface) w):=by
 obtain ⟨h1,h4,h3,hl,hs⟩:=hr
 have h':=Hd (h.below ((Below.refl _ _).alloc (Nat.le_refl _) (.cells #[.int .i64 K,.int .i64 R,v] 24)))
 have hlen:=h.len
 clear h
 have hne:((xs.length:Int) != (pw K (2*R+1):Int))=false:=by simp; omega
 clear hl
 replace hs:=Hd hs
 go_enter Tryz.func37,Tryz.ntmps37
 go_wp2_with fail
 refine (size_ok K R _ h1 h4 h3).mono ?_
 rintro e w1 ⟨rfl,rfl⟩
 go_wp2_with fail
 refine (rule_odd K v xs _ h'.out).mono ?_
 rintro e w1 ⟨x,rfl,hb,rfl⟩
 rw [hs.out.odd]
 go_wp2
 go_ret
 exact ⟨_,rfl,(((Below.refl _ _).alloc (Nat.le_refl _) _).trans (hb.mono (by simp))),rfl⟩
theorem check_any (r:Nat→Addr) (k R:Int) (v:Value) (xs:List Int) (w:World) (hg:Glob r w) (h:IntsAt w v xs) :
 Calls Tryz.prog 37 #[.agg #[.int .i64 k,.int .i64 R,v]] w (Ret1 (fun x w'=>ErrIs r w' (checkP k R xs) x) w):=by
 by_cases hk:k<1∨4<k
 ·rw [checkP,if_pos hk]; exact check_k r k R v w hg hk
 by_cases hr:R<0∨3<R
 ·rw [checkP,if_neg hk,if_pos hr]; exact check_r r k R v w hg (by omega) (by omega) hr
 obtain ⟨K,rfl⟩:=Int.eq_ofNat_of_zero_le (show 0≤k by omega)
 obtain ⟨R,rfl⟩:=Int.eq_ofNat_of_zero_le (show 0≤R by omega)
 by_cases hl:xs.length=pw K (2*R+1)
 ·rcases syms_or K xs with hs | ⟨i,hi,hlt⟩
  ·have hok:RuleOk K R xs:=⟨by omega,by omega,by omega,hl,hs⟩
   rw [hok.check]; exact check_ok K R v xs w h hok
  ·have:checkP K R xs=fresh sRule (3+i) 1:=by
    rw [checkP,if_neg hk,if_neg hr,if_neg (by simp [hl]),if_neg (by omega),hi]
   rw [this]
   exact check_odd r K R v xs i w hg h (by omega) (by omega) (by omega) hl hi hlt
 ·have:checkP K R xs=fresh sRule 2 1:=by
   rw [checkP,if_neg hk,if_neg hr,if_pos (by simpa using hl)]
  rw [this]
  exact check_len r K R v xs w hg h (by omega) (by omega) (by omega) hl
set_option maxRecDepth 100000
end Go.Proofs.YtkaoebokbfcmhaaGreatDoor
namespace Go.Proofs.YtkaoebokbfcmhaaGreatDoor
open Go.RowKit Go.Extern.Stop Go.Stop Go.Extern
set_option maxRecDepth 100000
set_option maxHeartbeats 8000000
namespace Errs
theorem typeOfE (v:Value) (w:World):(ReflectliteType.typeOf #[.iface 287 v]).run Tryz.prog w=.ok (.iface 192 (.agg #[.pointer (some ⟨13,287,none⟩)])) w:=by kernel_rfl
theorem comparableE (w : World) : ((ReflectliteType.method fun t => do Rtype.noPackHeld "Comparable" t; (fun a => Value.bool a.comparable) <$> typeInfo t) #[.agg #[.pointer (some ⟨13, 287, none⟩)]]).run Tryz.prog w = .ok (.bool true) w := by kernel_rfl
theorem methodComparable (v : Value) (w : World) : (Go.method 419 192 v "Comparable").run Tryz.prog w = .ok (232, v) w := by kernel_rfl
theorem compE:(Tryz.prog.info? 287).map (·.comparable)=some true:=by kernel_rfl
theorem sizeE:(Tryz.prog.info? 307).map (·.size)=some 1:=by kernel_rfl
theorem uErr : Tryz.prog.underlying 27 = some (.interface #[("Error", 288)]) := by kernel_rfl
theorem uES:Tryz.prog.underlying 287=some (.pointer 307):=by kernel_rfl
theorem uIs : Tryz.prog.underlying 194 = some (.interface #[("Is", 196)]) := by kernel_rfl
theorem uUnw : Tryz.prog.underlying 197 = some (.interface #[("Unwrap", 179)]) := by kernel_rfl
theorem noIsF (v:Value) (xT:TypeId) (w:World):(Instr.typeAssert (.iface 75 v) xT 194 true).run Tryz.prog w=.ok (.tuple #[.nilIface,.bool false]) w:=run_typeAssert_lacksB uIs (by kernel_rfl) (by kernel_rfl) v xT w
theorem hasUnwrapF (v:Value) (xT:TypeId) (w:World):(Instr.typeAssert (.iface 75 v) xT 197 true).run Tryz.prog w=.ok (.tuple #[.iface 75 v,.bool true]) w:=run_typeAssert_hasB uUnw (by kernel_rfl) v xT w
theorem methodUnwrap (v : Value) (w : World) : (Go.method 419 75 v "Unwrap").run Tryz.prog w = .ok (225, v) w := by kernel_rfl
theorem unwrap_any (p:Nat) (u:Value) (w:World) (h:w.cell? ⟨p,2,none⟩=some u) :
 Calls Tryz.prog 225 #[.pointer (some ⟨p,0,none⟩)] w fun e w'=>e=.returned u∧w=w':=by
 go_enter Tryz.func225,Tryz.ntmps225
 go_wp2
 go_ret
 exact ⟨rfl,rfl⟩
theorem is_loop (r:Nat→Addr) (n:Int) (l:List (ByteArray×Int)) (v:Value) (w:World) (h:ErrAt r w n l v) :
 Calls Tryz.prog 72 #[v,rootV r n,.bool true] w fun e w'=>e=.returned (.bool true)∧w=w':=by
 obtain ⟨i,hi,hcmp⟩:=Option.map_eq_some_iff.1 compE
 obtain ⟨j,hj,hjs⟩:=Option.map_eq_some_iff.1 sizeE
 have heq:=run_eql_iface_ptr_same (P:=Tryz.prog) w (r n.toNat) uErr uES hi hcmp hj
 have nF:=noIsF
 have uF:=hasUnwrapF
 have mU:=methodUnwrap
 clear hi hcmp hj hjs
 replace h:=Hd h
 go_enter Tryz.func72,Tryz.ntmps72
 go_wp2
 go_loopg [0] l.length (fun k u wr=>wr=w∧∃ l',l'.length=k∧ErrAt r w n l' u)
 case atStart=>exact ⟨rfl,l,rfl,h.out⟩
 case round =>
  obtain ⟨rfl,l',hl',hu⟩:=hrel
  match l',hl',hu with
  | [],hl',hu =>
   obtain rfl:_=rootV r n:=hu
   clear hl'
   go_wp2
   go_ret
   exact ⟨rfl,rfl⟩
  | (op,at_)::rest,hl',hu =>
   obtain ⟨p,u',rfl,c0,c1,c2,hrest⟩:=hu
   obtain ⟨T,a,rfl⟩:=hrest.shape
   have hty:=run_eql_iface_types (P:=Tryz.prog) 75 287 (.pointer (some ⟨p,0,none⟩)) (.pointer (some (r n.toNat))) uErr (by decide) wr
   replace hrest:=Hd hrest
   replace hl':=Hd hl'
   go_wp2_with (go_at_call 225; refine (unwrap_any p _ _ c2).mono ?_; rintro e w' ⟨rfl,rfl⟩)
   go_roundg rest.length
   case measure=>have:=hl'.out; simp at this; omega
   case rel=>exact ⟨rfl,rest,rfl,hrest.out⟩
theorem is_any (r:Nat→Addr) (n:Int) (l:List (ByteArray×Int)) (v:Value) (w:World) (h:ErrAt r w n l v) :
 Calls Tryz.prog 27 #[v,rootV r n] w fun e w'=>e=.returned (.bool true)∧w=w':=by
 have h8:=@run_callFunc_extern Tryz.prog 71 _ Extern.ReflectliteType.typeOf Tryz.func71 (by kernel_rfl) (by kernel_rfl) (by kernel_rfl) (by kernel_rfl)
 have h32 := @run_callFunc_extern Tryz.prog 232 _ (Extern.ReflectliteType.method fun t => do Extern.Rtype.noPackHeld "Comparable" t; pure (.bool (← typeInfo t).comparable)) Tryz.func232 (by kernel_rfl) (by kernel_rfl) (by kernel_rfl) (by kernel_rfl)
 have tT:=typeOfE
 have cT:=comparableE
 have mR:=methodComparable
 obtain ⟨T,a,rfl⟩:=h.shape
 replace h:=Hd h
 go_enter Tryz.func27,Tryz.ntmps27
 go_wp2_with fail
 refine (is_loop r n l _ _ h.out).mono ?_
 rintro e w' ⟨rfl,rfl⟩
 go_wp2
 go_ret
 exact ⟨rfl,rfl⟩
end Errs
end Go.Proofs.YtkaoebokbfcmhaaGreatDoor
namespace Go.Proofs.YtkaoebokbfcmhaaGreatDoor
open Go.RowKit Go.Extern.Stop Go.Stop Go.Extern
set_option maxRecDepth 100000
namespace Errs
theorem uF:Tryz.prog.underlying 75=some (.pointer 79):=by kernel_rfl
theorem valueOfFF (t:Addr) (w:World):(ReflectliteValue.unpack (.iface 77 (.pointer (some t)))).run Tryz.prog w
 = .ok (.agg #[.pointer (some ⟨13,77,none⟩),.pointer (some ⟨w.heap.size,0,none⟩),.int .u64 150]) (w.alloc (.cells #[.pointer (some t)] 77)):=by kernel_rfl
theorem typeFF (a : Addr) (w : World) : (ReflectliteValue.methodAny (ReflectliteValue.valueError "reflectlite.Value.Type" 0) (fun t _ _ _ => ReflectliteType.toType t) #[.agg #[.pointer (some ⟨13, 77, none⟩), .pointer (some a), .int .u64 150]]).run Tryz.prog w
 = .ok (.iface 192 (.agg #[.pointer (some ⟨13,77,none⟩)])) w:=by kernel_rfl
theorem methodKind (h : Value) (w : World) : (Go.method 419 192 (.agg #[h]) "Kind").run Tryz.prog w = .ok (221, h) w := by kernel_rfl
theorem kindFF (w:World):((ReflectliteType.abiMethod fun t=>(fun a:Nat=>Value.int IntKind.u8 (a:Int)) <$> Rtype.kind t) #[.pointer (some ⟨13,77,none⟩)]).run Tryz.prog w=.ok (.int .u8 22) w:=by kernel_rfl
theorem kindF (w:World):((ReflectliteType.abiMethod fun t=>(fun a:Nat=>Value.int IntKind.u8 (a:Int)) <$> Rtype.kind t) #[.pointer (some ⟨13,75,none⟩)]).run Tryz.prog w=.ok (.int .u8 22) w:=by kernel_rfl
theorem rlm (z:Sem Value) (f:TypeId→Addr→Nat→Nat→Sem Value) (v:Value) :
 ReflectliteValue.method z f #[v]=(do match ← ReflectliteValue.parts v with | none=>z | some (t,a,fl)=>f t a fl (fl%32)):=rfl
theorem partsFF (a:Addr) (w:World):(ReflectliteValue.parts (.agg #[.pointer (some ⟨13,77,none⟩),.pointer (some a),.int .u64 150])).run Tryz.prog w=.ok (some (77,a,150)) w:=by kernel_rfl
theorem isNilFF (a p:Addr) (W:World) (ha:W.cell? a=some (.pointer (some p))) :
 (ReflectliteValue.method (ReflectliteValue.valueError "reflectlite.Value.IsNil" 0) ReflectliteValue.isNil #[.agg #[.pointer (some ⟨13, 77, none⟩), .pointer (some a), .int .u64 150]]).run Tryz.prog W = .ok (.bool false) W := by
 rw [rlm]
 simp only [Sem.run_bind,partsFF,Result.andThen]
 simp [ReflectliteValue.isNil,loadVar,isAgg,underlying,ha,Result.andThen]
theorem methodElem (h : Value) (w : World) : (Go.method 419 192 (.agg #[h]) "Elem").run Tryz.prog w = .ok (233, .agg #[h]) w := by kernel_rfl
theorem methodImplements (h : Value) (w : World) : (Go.method 419 192 (.agg #[h]) "Implements").run Tryz.prog w = .ok (234, .agg #[h]) w := by kernel_rfl
theorem methodAssignableTo (h : Value) (w : World) : (Go.method 419 192 (.agg #[h]) "AssignableTo").run Tryz.prog w = .ok (231, .agg #[h]) w := by kernel_rfl
theorem elemFF (w:World):(ReflectliteType.method ReflectliteType.elem #[.agg #[.pointer (some ⟨13,77,none⟩)]]).run Tryz.prog w=.ok (.iface 192 (.agg #[.pointer (some ⟨13,75,none⟩)])) w:=by kernel_rfl
theorem implementsF (w : World) : (ReflectliteType.relation "Implements" ReflectliteType.implements_ #[.agg #[.pointer (some ⟨13, 75, none⟩)], .iface 192 (.agg #[.pointer (some ⟨13, 27, none⟩)])]).run Tryz.prog w = .ok (.bool true) w := by kernel_rfl
theorem typeOfF (v:Value) (w:World):(ReflectliteType.typeOf #[.iface 75 v]).run Tryz.prog w=.ok (.iface 192 (.agg #[.pointer (some ⟨13,75,none⟩)])) w:=by kernel_rfl
theorem assignableF (w : World) : (ReflectliteType.relation "AssignableTo" ReflectliteType.assignableTo #[.agg #[.pointer (some ⟨13, 75, none⟩)], .iface 192 (.agg #[.pointer (some ⟨13, 75, none⟩)])]).run Tryz.prog w = .ok (.bool true) w := by kernel_rfl
theorem valueOfF (e:Addr) (w:World):(ReflectliteValue.unpack (.iface 75 (.pointer (some e)))).run Tryz.prog w
 = .ok (.agg #[.pointer (some ⟨13,75,none⟩),.pointer (some ⟨w.heap.size,0,none⟩),.int .u64 150]) (w.alloc (.cells #[.pointer (some e)] 75)):=by kernel_rfl
theorem elemOfFF (w:World):(Rtype.elem? 77).run Tryz.prog w=.ok (some 75) w:=by kernel_rfl
theorem mkF (p:Addr) (w:World):(ReflectliteValue.mk 75 p ReflectliteValue.flagAddr).run Tryz.prog w=.ok (.agg #[.pointer (some ⟨13,75,none⟩),.pointer (some p),.int .u64 406]) w:=by kernel_rfl
theorem elemVFF (a p:Addr) (W:World) (ha:W.cell? a=some (.pointer (some p))) :
 (ReflectliteValue.method (ReflectliteValue.valueError "reflectlite.Value.Elem" 0) ReflectliteValue.elem #[.agg #[.pointer (some ⟨13, 77, none⟩), .pointer (some a), .int .u64 150]]).run Tryz.prog W
   = .ok (.agg #[.pointer (some ⟨13,75,none⟩),.pointer (some p),.int .u64 406]) W:=by
 rw [rlm]
 simp only [Sem.run_bind,partsFF,Result.andThen]
 simp [ReflectliteValue.elem,loadVar,isAgg,underlying,ha,Result.andThen,elemOfFF,mkF]
theorem rls (v x:Value):ReflectliteValue.set #[v,x]=(do
 let (some (dst,a,fl),some (src,b,_)):=(← ReflectliteValue.parts v,← ReflectliteValue.parts x)
  | unsupported (.noEntry "extern/(internal/reflectlite.Value).Set.zeroValue")
 if fl / ReflectliteValue.flagAddr % 2 == 0 then unsupported (.noEntry "extern/(internal/reflectlite.Value).Set.unaddressable")
 let val ← loadVar src b
 if ← Rtype.directlyAssignable dst src then storeVar dst a val
 else if ← Rtype.implements dst src then
  if (← Rtype.kind src)==20 then
   match val with
   | .nilIface => unsupported (.noEntry "extern/reflectlite: a nil value of one interface type handed on as a value of another")
   | _=>storeVar dst a val
  else storeVar dst a (.iface src val)
 else panicString ("reflectlite.Set: value of type " ++ (← Rtype.spelt src) ++ " is not assignable to type " ++ (← Rtype.spelt dst))
 pure (.tuple #[])):=rfl
theorem partsFa (a:Addr) (w:World):(ReflectliteValue.parts (.agg #[.pointer (some ⟨13,75,none⟩),.pointer (some a),.int .u64 406])).run Tryz.prog w=.ok (some (75,a,406)) w:=by kernel_rfl
theorem partsF (a:Addr) (w:World):(ReflectliteValue.parts (.agg #[.pointer (some ⟨13,75,none⟩),.pointer (some a),.int .u64 150])).run Tryz.prog w=.ok (some (75,a,150)) w:=by kernel_rfl
theorem directF (w:World):(Rtype.directlyAssignable 75 75).run Tryz.prog w=.ok true w:=by kernel_rfl
theorem setF (ta b e:Addr) (old:Value) (W:World) (hb:W.cell? b=some (.pointer (some e))) (ht:W.cell? ta=some old) (hf:W.frozen? ta=false) :
 (ReflectliteValue.set #[.agg #[.pointer (some ⟨13,75,none⟩),.pointer (some ta),.int .u64 406],.agg #[.pointer (some ⟨13,75,none⟩),.pointer (some b),.int .u64 150]]).run Tryz.prog W
   = .ok (.tuple #[]) (W.setCell ta (.pointer (some e))):=by
 rw [rls]
 simp only [Sem.run_bind,partsFa,partsF,Result.andThen]
 simp [ReflectliteValue.flagAddr,loadVar,isAgg,underlying,hb,Result.andThen,directF,storeVar,Value.cells,storeCells,Addr.add]
 rw [run_store Tryz.prog W ta _ _ (by rfl)]
 simp [ht,hf]
end Errs
set_option maxHeartbeats 8000000
namespace Errs
theorem as_hit (e t:Addr) (old:Value) (w:World) (hg:w.cell? ⟨3,0,none⟩=some (.iface 192 (.agg #[.pointer (some ⟨13,27,none⟩)]))) (ht0:w.cell? t=some old) (hf0:w.frozen? t=false) :
 Calls Tryz.prog 31 #[.iface 75 (.pointer (some e)),.iface 77 (.pointer (some t))] w fun ev w'=>ev=.returned (.bool true)∧w'=((((w.alloc (.cells #[.pointer (some t)] 77)).alloc (.cells #[.pointer (some ⟨13,77,none⟩),.pointer (some ⟨w.heap.size,0,none⟩),.int .u64 150] 138)).alloc (.cells #[.pointer (some ⟨13,77,none⟩),.pointer (some ⟨w.heap.size,0,none⟩),.int .u64 150] 138)).alloc (.cells #[.pointer (some e)] 75)).setCell t (.pointer (some e)):=by
 have h6:=@run_callFunc_extern Tryz.prog 79 _ (fun args=>ReflectliteValue.unpack (args.getD 0 (.tuple #[]))) Tryz.func79 (by kernel_rfl) (by kernel_rfl) (by kernel_rfl) (by kernel_rfl)
 have h7 := @run_callFunc_extern Tryz.prog 80 _ (ReflectliteValue.methodAny (ReflectliteValue.valueError "reflectlite.Value.Type" 0) (fun t _ _ _ => ReflectliteType.toType t)) Tryz.func80 (by kernel_rfl) (by kernel_rfl) (by kernel_rfl) (by kernel_rfl)
 have h8 := @run_callFunc_extern Tryz.prog 81 _ (ReflectliteValue.method (ReflectliteValue.valueError "reflectlite.Value.IsNil" 0) ReflectliteValue.isNil) Tryz.func81 (by kernel_rfl) (by kernel_rfl) (by kernel_rfl) (by kernel_rfl)
 have h27:=@run_callFunc_extern Tryz.prog 221 _ (ReflectliteType.abiMethod fun t=>do pure (.int .u8 (← Rtype.kind t))) Tryz.func221 (by kernel_rfl) (by kernel_rfl) (by kernel_rfl) (by kernel_rfl)
 have h37:=@run_callFunc_extern Tryz.prog 233 _ (ReflectliteType.method ReflectliteType.elem) Tryz.func233 (by kernel_rfl) (by kernel_rfl) (by kernel_rfl) (by kernel_rfl)
 have h38 := @run_callFunc_extern Tryz.prog 234 _ (ReflectliteType.relation "Implements" ReflectliteType.implements_) Tryz.func234 (by kernel_rfl) (by kernel_rfl) (by kernel_rfl) (by kernel_rfl)
 have h10:=@run_callFunc_extern Tryz.prog 71 _ ReflectliteType.typeOf Tryz.func71 (by kernel_rfl) (by kernel_rfl) (by kernel_rfl) (by kernel_rfl)
 have h35 := @run_callFunc_extern Tryz.prog 231 _ (ReflectliteType.relation "AssignableTo" ReflectliteType.assignableTo) Tryz.func231 (by kernel_rfl) (by kernel_rfl) (by kernel_rfl) (by kernel_rfl)
 have h11 := @run_callFunc_extern Tryz.prog 125 _ (ReflectliteValue.method (ReflectliteValue.valueError "reflectlite.Value.Elem" 0) ReflectliteValue.elem) Tryz.func125 (by kernel_rfl) (by kernel_rfl) (by kernel_rfl) (by kernel_rfl)
 have h12:=@run_callFunc_extern Tryz.prog 126 _ ReflectliteValue.set Tryz.func126 (by kernel_rfl) (by kernel_rfl) (by kernel_rfl) (by kernel_rfl)
 have tO:=typeOfF
 have mA:=methodAssignableTo
 have aF:=assignableF
 have vF:=valueOfF
 have f6:=valueOfFF
 have f7:=typeFF
 have mK:=methodKind
 have mE:=methodElem
 have mI:=methodImplements
 have kFF:=kindFF
 have kF:=kindF
 have eFF:=elemFF
 have iF:=implementsF
 have n8:=isNilFF ⟨w.heap.size,0,none⟩ t ((w.alloc (.cells #[.pointer (some t)] 77)).alloc (.cells #[.pointer (some ⟨13,77,none⟩),.pointer (some ⟨w.heap.size,0,none⟩),.int .u64 150] 138)) (by simp)
 have hlt:3<w.heap.size:=World.block_lt_of_cell? _ _ hg
 have hg2:((w.alloc (.cells #[.pointer (some t)] 77)).alloc (.cells #[.pointer (some ⟨13,77,none⟩),.pointer (some ⟨w.heap.size,0,none⟩),.int .u64 150] 138)).cell? ⟨3,0,none⟩=some (.iface 192 (.agg #[.pointer (some ⟨13,27,none⟩)])):=by
  rw [World.cell?_alloc_lt _ _ ⟨3,0,none⟩ (by simp; omega),World.cell?_alloc_lt _ _ ⟨3,0,none⟩ hlt]; exact hg
 have htl:t.block<w.heap.size:=World.block_lt_of_cell? _ _ ht0
 have el:=elemVFF ⟨w.heap.size,0,none⟩ t (((w.alloc (.cells #[.pointer (some t)] 77)).alloc (.cells #[.pointer (some ⟨13,77,none⟩),.pointer (some ⟨w.heap.size,0,none⟩),.int .u64 150] 138)).alloc (.cells #[.pointer (some ⟨13,77,none⟩),.pointer (some ⟨w.heap.size,0,none⟩),.int .u64 150] 138)) (by rw [World.cell?_alloc_lt _ _ ⟨w.heap.size,0,none⟩ (by simp; omega)]; simp)
 have st:=setF t ⟨w.heap.size+1+1+1,0,none⟩ e old ((((w.alloc (.cells #[.pointer (some t)] 77)).alloc (.cells #[.pointer (some ⟨13,77,none⟩),.pointer (some ⟨w.heap.size,0,none⟩),.int .u64 150] 138)).alloc (.cells #[.pointer (some ⟨13,77,none⟩),.pointer (some ⟨w.heap.size,0,none⟩),.int .u64 150] 138)).alloc (.cells #[.pointer (some e)] 75))
  (by rw [World.cell?_alloc_at _ _ _ _ (by simp)]; rfl)
  (by rw [World.cell?_alloc_lt _ _ t (by simp; omega),World.cell?_alloc_lt _ _ t (by simp; omega),World.cell?_alloc_lt _ _ t (by simp; omega),World.cell?_alloc_lt _ _ t htl]; exact ht0)
  (by rw [World.frozen?_alloc_old _ _ t (by simp; omega),World.frozen?_alloc_old _ _ t (by simp; omega),World.frozen?_alloc_old _ _ t (by simp; omega),World.frozen?_alloc_old _ _ t (Nat.ne_of_lt htl)]; exact hf0)
 go_enter Tryz.func31,Tryz.ntmps31
 go_wp2
 refine wp_loop_rounds 1 ?_
 rw [rounds_succ]
 go_wp2
 go_ret
 exact ⟨rfl,rfl⟩
theorem as_any (e t:Addr) (old:Value) (w:World) (hg:w.cell? ⟨3,0,none⟩=some (.iface 192 (.agg #[.pointer (some ⟨13,27,none⟩)]))) (ht0:w.cell? t=some old) (hf0:w.frozen? t=false) :
 Calls Tryz.prog 31 #[.iface 75 (.pointer (some e)),.iface 77 (.pointer (some t))] w fun ev w'=>ev=.returned (.bool true)∧∃ w1,Below w.heap.size w w1∧w'=w1.setCell t (.pointer (some e)) :=
 (as_hit e t old w hg ht0 hf0).mono fun _ _ ⟨h1,h2⟩=>⟨h1,_,((((Below.refl _ _).alloc (Nat.le_refl _) _).alloc (by simp) _).alloc (by simp; omega) _).alloc (by simp; omega) _,h2⟩
end Errs
end Go.Proofs.YtkaoebokbfcmhaaGreatDoor
namespace Go.Proofs.YtkaoebokbfcmhaaGreatDoor
open Go.RowKit
set_option maxRecDepth 100000
def GlobE (w:World):Prop:=w.cell? ⟨3,0,none⟩=some (.iface 192 (.agg #[.pointer (some ⟨13,27,none⟩)]))
theorem GlobE.below {w w':World} (h:GlobE w) (hb:Below w.heap.size w w'):GlobE w':=cell_keep hb h
theorem takeD {P:Program} {ops:Array Oper} {Q:Exit→Act→World→Prop} {md:Region.Mode} {S:World→Prop} {i:Nat} {oi:Oper} {v:Value} {fuel:Nat} {listed:Array Bool} {a:Act} {w:World} (d:Option Tmp) (hi:ops[i]?=some oi) (hd:oi.dst=d)
 (hs:Region.noSelect ops=true) (hf:Region.free md ops listed i=true) (hr:(Region.ready md ops listed).contains i=true)
 (hQ:∀ c a w,Q (.panic c) (a.put d v) w→Q (.panic c) a w) (hy:YieldsIf P ops S oi v a) (hS:S w)
 (h:wpAnyH P md ops Q S fuel (listed.setIfInBounds i true) (a.put d v) w):wpAnyH P md ops Q S (fuel+1) listed a w:=by
 subst hd
 exact wpAnyH_take hi hs hf hr hQ hy hS h
theorem takeA {P:Program} {ops:Array Oper} {Q:Exit→Act→World→Prop} {md:Region.Mode} {i:Nat} {oi:Oper} {v:Value} {fuel:Nat} {listed:Array Bool} {a:Act} {w:World} (d:Option Tmp) (hi:ops[i]?=some oi) (hd:oi.dst=d)
 (hs:Region.noSelect ops=true) (hf:Region.free md ops listed i=true) (hr:(Region.ready md ops listed).contains i=true)
 (hQ:∀ c a w,Q (.panic c) (a.put d v) w→Q (.panic c) a w) (hy:Yields P ops oi v a)
 (h:wpAny P md ops Q fuel (listed.setIfInBounds i true) (a.put d v) w):wpAny P md ops Q (fuel+1) listed a w:=by
 subst hd
 exact wpAny_take hi hs hf hr hQ hy h
theorem pqD {P:Program} {ops:Array Oper} {Q:Exit→Act→World→Prop} {md:Region.Mode} {S:World→Prop} {oi:Oper} {v:Value} {fuel:Nat} {listed:Array Bool} {a a':Act} {w:World} (i:Nat) (d:Tmp) (hS:S w)
 (h:wpAnyH P md ops (NoPanic Q) S fuel (listed.setIfInBounds i true) a' w) (hi:ops[i]?=some oi:=by exact rfl) (hd:oi.dst=some d:=by exact rfl)
 (hs:Region.noSelect ops=true:=by kernel_rfl) (hf:Region.free md ops listed i=true:=by kernel_rfl) (hr:(Region.ready md ops listed).contains i=true:=by kernel_rfl)
 (hw:Region.wanted oi (yielded ops a.tmps)=true:=by rfl) (hy:∀ W,S W→(execOp a.eval oi).run P W=.ok (.value v) W:=by intro W' hs; (try subst hs); go_simp; (try with_reducible rfl)) (ha:a.put (some d) v=a':=by simp only [pq]; exact rfl) :
 wpAnyH P md ops (NoPanic Q) S (fuel+1) listed a w:=by
 subst ha; exact takeD (some d) hi hd hs hf hr (fun _ _ _ h=>h) (.inl ⟨hw,hy⟩) hS h
theorem pqA {P:Program} {ops:Array Oper} {Q:Exit→Act→World→Prop} {md:Region.Mode} {oi:Oper} {v:Value} {fuel:Nat} {listed:Array Bool} {a a':Act} {w:World} (i:Nat) (d:Tmp)
 (h:wpAny P md ops (NoPanic Q) fuel (listed.setIfInBounds i true) a' w) (hi:ops[i]?=some oi:=by exact rfl) (hd:oi.dst=some d:=by exact rfl)
 (hs:Region.noSelect ops=true:=by kernel_rfl) (hf:Region.free md ops listed i=true:=by kernel_rfl) (hr:(Region.ready md ops listed).contains i=true:=by kernel_rfl)
 (hw:Region.wanted oi (yielded ops a.tmps)=true:=by rfl) (hy:∀ W,(execOp a.eval oi).run P W=.ok (.value v) W:=by intro W'; go_simp; (try with_reducible rfl)) (ha:a.put (some d) v=a':=by simp only [pq]; exact rfl) :
 wpAny P md ops (NoPanic Q) (fuel+1) listed a w:=by
 subst ha; exact takeA (some d) hi hd hs hf hr (fun _ _ _ h=>h) (.inl ⟨hw,hy⟩) h
end Go.Proofs.YtkaoebokbfcmhaaGreatDoor
namespace Go.Proofs.YtkaoebokbfcmhaaGreatDoor
open Go.RowKit
set_option maxRecDepth 100000
theorem Box3.belowB {B:Nat} {w w':World} {b:Nat} {x0 x1 x2:Value} (h:Box3 w b x0 x1 x2) (hb:Below B w w') (hlt:b<B):Box3 w' b x0 x1 x2:=by
 obtain ⟨⟨h0,h1,h2⟩,f0,f1,f2⟩:=h
 exact ⟨⟨(hb.cell (p:=⟨b,0,none⟩) hlt).trans h0,(hb.cell (p:=⟨b,1,none⟩) hlt).trans h1,(hb.cell (p:=⟨b,2,none⟩) hlt).trans h2⟩,(hb.frozen (p:=⟨b,0,none⟩) hlt).trans f0,(hb.frozen (p:=⟨b,1,none⟩) hlt).trans f1,(hb.frozen (p:=⟨b,2,none⟩) hlt).trans f2⟩
theorem Box3.far {w:World} {b b':Nat} {x0 x1 x2:Value} (h:Box3 w b x0 x1 x2) (hne:b'≠b) (i:Nat) (u:Value):Box3 (w.setCell ⟨b',i,none⟩ u) b x0 x1 x2:=by
 obtain ⟨⟨h0,h1,h2⟩,f0,f1,f2⟩:=h
 refine ⟨⟨?_,?_,?_⟩,?_,?_,?_⟩
 ·rw [World.cell?_setCell_far _ _ _ _ hne]; exact h0
 ·rw [World.cell?_setCell_far _ _ _ _ hne]; exact h1
 ·rw [World.cell?_setCell_far _ _ _ _ hne]; exact h2
 ·simpa using f0
 ·simpa using f1
 ·simpa using f2
theorem Box3.set2 {w:World} {b:Nat} {x0 x1 x2:Value} (h:Box3 w b x0 x1 x2) (u:Value):Box3 (w.setCell ⟨b,2,none⟩ u) b x0 x1 u:=by
 obtain ⟨⟨h0,h1,h2⟩,f0,f1,f2⟩:=h
 refine ⟨⟨?_,?_,World.cell?_setCell_same _ _ _ h2⟩,?_,?_,?_⟩
 ·rw [World.cell?_setCell_other _ _ _ _ (by simp)]; exact h0
 ·rw [World.cell?_setCell_other _ _ _ _ (by simp)]; exact h1
 ·simpa using f0
 ·simpa using f1
 ·simpa using f2
theorem EOwn.drew {B:Nat} {w:World} {t:PErr} {v:Value} (h:EOwn B w t v):EOwn B w.drew t v:=by
 match t,h with
 | none,h=>exact h
 | some (n,l),h=>exact h
end Go.Proofs.YtkaoebokbfcmhaaGreatDoor
